/- What the functions do, in plain Lean, on the objects that are kept in order. -/
import Derived.Test.YthodkonhneebbaaGreatDoorK15
import Derived.Test.YthodkonhneebbaaGreatDoorK11
import Derived.Test.YthodkonhneebbaaGreatDoorK12
import Derived.Test.YthodkonhneebbaaGreatDoorK14
import Derived.Test.YthodkonhneebbaaGreatDoorK6
import Derived.Test.YthodkonhneebbaaGreatDoorK5
import Derived.Test.YthodkonhneebbaaGreatDoorK13
namespace Go.Proofs.YthodkonhneebbaaGreatDoor
open Go.Hx
set_option linter.unusedVariables false
set_option linter.unusedSimpArgs false
abbrev dE:Int:=2147483647
abbrev RB:Int:=104538400
def qP (f:Int->Int):Nat->Int
 |0=>0
 |n+1=>qP f n+f n
theorem WI {f:Int->Int} {B:Int}: ∀(n:Nat),(∀i:Int,0<=i->i<n->f i<=B)->qP f n<=n*B
 |0,_=>by simp[qP]
 |n+1,h=>by
  have:=WI n (λi a b=>h i a U);have:=h n U U;rw[qP,Int.natCast_add,Int.add_mul,Int.natCast_one,Int.one_mul];omega
theorem WJ {f:Int->Int}: ∀(n:Nat),(∀i:Int,0<=i->i<n->0<=f i)->0<=qP f n
 |0,_=>Int.le_refl _
 |n+1,h=>by
  have:=WJ n (λi a b=>h i a U);have:=h n U U;rw[qP];omega
theorem WG {f f':Int->Int}: ∀(n:Nat),(∀i:Int,0<=i->i<n->f' i=f i)->qP f' n=qP f n
 |0,_=>rfl
 |n+1,h=>by rw[qP,qP,WG n (λi a b=>h i a U),h n U U]
theorem WH {f f':Int->Int} {c:Int}: ∀(n:Nat),0<=c->c<n->f' c+1<=f c->(∀i:Int,0<=i->i<n->i≠c->f' i=f i)->qP f' n+1<=qP f n
 |0,h0,h1,_,_=>by omega
 |n+1,h0,h1,hd,he=>by
  rw[qP,qP]
  by_cases z:c=n
  ·subst z;rw[WG n (λi a b=>he i a U U)];omega
  ·have:=WH n h0 U hd (λi a b=>he i a U);rw[he n U U (λy=>z y.symm)];omega
theorem L2 {p q:Int->Bool}: ∀{n:Nat},(∀i:Int,0<=i->i<n->p i=true->q i=true)->eH p n<=eH q n
 |0,_=>Nat.le_refl _
 |n+1,h=>by
  have:=L2 (p:=p) (q:=q) (n:=n) (λi a b=>h i a U);unfold eH;have h':=h n U U
  cases hp:p n
  ·simp;omega
  ·rw[h' hp];simp;omega
theorem QO {p q:Int->Bool} {c:Int}: ∀{n:Nat},0<=c->c<n->p c=false->q c=true->(∀i:Int,0<=i->i<n->p i=true->q i=true)->eH p n+1<=eH q n
 |0,h0,h1,_,_,_=>by omega
 |n+1,h0,h1,hp,hq,he=>by
  unfold eH
  by_cases z:c=n
  ·subst z;have:=L2 (p:=p) (q:=q) (n:=n) (λi a b=>he i a U);rw[hp,hq];simp;omega
  ·have:=QO (n:=n) h0 U hp hq (λi a b=>he i a U);have h':=he n U U
   cases hp':p n
   ·simp;omega
   ·rw[h' hp'];simp;omega
def zb (D:List Int) (v:Int):Nat:=eH (λc=>decide (rd D c<v)) D.length
def ny (D:List Int):Int:=qP (λc=>min (rd D c) (RB+1)) D.length
section
variable {g : bt} {more : Int} {M : dz} {goal : Int} {im : List (Int × Int)}
def Pv (g:bt) (goal:Int) (im:List (Int×Int)) (D:List Int) (c d:Int):Prop:=
 (c∈bI g.m (aX g.m.W g.m.H goal)/\bQ im c=true/\aO im c=d)∨ ∃b e,node g.m b/\rd D b≠dE/\Comes g.m b e/\e.To=c/\rd D b+e.kE<=d
structure Rt (g:bt) (goal:Int) (im:List (Int×Int)) (D:List Int) (l:List dC) (x:Int):Prop where
 len_:(D.length:Int)=g.m.W*g.m.H
 dv: ∀c:Int,0<=c->c<D.length->rd D c≠dE->node g.m c/\0<=rd D c/\rd D c<=500000+65024*(zb D (rd D c):Int)/\Pv g goal im D c (rd D c)
 hp: ∀e∈l,node g.m e.item/\rd D e.item≠dE/\rd D e.item<=e.key
 rel: ∀c,node g.m c->c≠x->rd D c≠dE->⟨rd D c,c⟩∈l∨ ∀e,Comes g.m c e->rd D e.To≠dE/\rd D e.To<=rd D c+e.kE
theorem VX (D:List Int) (v:Int):zb D v<=D.length:=Ft _ _
theorem Rt.bound {D:List Int} {l:List dC} {x:Int} (hN:g.m.W*g.m.H<=1600) (h:Rt g goal im D l x) {c:Int} (c0:0<=c) (c1:c<D.length) (hc:rd D c≠dE):0<=rd D c/\rd D c<=RB:=by
 have yC:RB=104538400:=rfl;obtain⟨_,a,b,_⟩:=h.dv c c0 c1 hc;have:=VX D (rd D c);have:=h.len_;omega
theorem vy (h:dA g more) {D:List Int} (hl:(D.length:Int)=g.m.W*g.m.H) {c:Int} (hc:node g.m c):0<=c/\c<D.length:=by
 have:=(Cr hc).2;rw[hl];exact this
theorem Vm {D D':List Int} (hd: ∀b,node g.m b->rd D b≠dE->rd D' b≠dE/\rd D' b<=rd D b) {c d:Int} (h:Pv g goal im D c d):Pv g goal im D' c d:=by
 rcases h with z |⟨b,e,h1,h2,h3,h4,h5⟩
 ·exact .inl z
 ·have:=hd b h1 h2;exact .inr ⟨b,e,h1,this.1,h3,h4,by omega⟩
theorem agA {D:List Int} (hD: ∀c:Int,0<=c->c<D.length->0<=rd D c):0<=ny D/\ny D<=D.length*(RB+1):=by
 refine⟨WJ _ λi a b=>?_,WI _ λi a b=>by omega⟩
 have:=hD i a b;have yC:RB=104538400:=rfl;omega
theorem VY (h:dA g more) (hN:g.m.W*g.m.H<=1600) {D:List Int} {l:List dC} {x:Int} (hr:Rt g goal im D l x) (hlen:l.length+2*ny D<1000000000000) {v nd ge:Int} (gg ep:Int) (hv:node g.m v) (hx:v≠x) (n0:0<=nd) (n1:nd<=500000+65024*(zb D nd:Int)) (hp:Pv g goal im D v nd):
 Ok (sX.f ⟨gg,ep,D⟩ v nd) (λr=>(r=(false,⟨gg,ep,D⟩)/\rd D v≠dE/\rd D v<=nd)∨ ∃D',r=(true,⟨gg,ep,D'⟩)/\ny D'+1<=ny D/\rd D' v=nd/\(∀c:Int,0<=c->c≠v->rd D' c=rd D c)/\nd<rd D v/\D'.length=D.length/\
  ∀l':List dC,(∀e,e∈l'↔e∈l∨e=⟨nd,v⟩)->Rt g goal im D' l' x):=by
 have hF:dE=2147483647:=rfl;have yC:RB=104538400:=rfl;have Ap:=vy h hr.len_ hv;have hrk:=VX D nd;have BT:=hr.len_;have hvb:rd D v=dE∨(0<=rd D v/\rd D v<=RB):=by
  by_cases z:rd D v=dE
  ·exact .inl z
  ·exact .inr (hr.bound hN Ap.1 Ap.2 z)
 unfold sX.f;simp only;rw[af Ap,wi U U];refine Ok.ite (λq=>Ok.pure (.inl ⟨J,by omega,by omega⟩)) λq=>?_
 rw[TZ U U];have dI: ∀c:Int,0<=c->rd (List.set D v.toNat nd) c=if c=v then nd else rd D c:=λc c0=>kV Ap.1 Ap.2 c0
 have DX:rd (List.set D v.toNat nd) v=nd:=by rw[dI v Ap.1,af J]
 have hle: ∀c:Int,0<=c->rd (List.set D v.toNat nd) c<=rd D c:=λc c0=>by
  rw[dI c c0];split
  ·rename_i z;rw[z];omega
  ·omega
 have hnf: ∀c:Int,0<=c->rd D c≠dE->rd (List.set D v.toNat nd) c≠dE:=λc c0 hc=>by
  rw[dI c c0];split
  ·omega
  ·exact hc
 have JG: ∀b,node g.m b->rd D b≠dE->rd (List.set D v.toNat nd) b≠dE/\rd (List.set D v.toNat nd) b<=rd D b:=λb hb hf=>by
  have:=vy h hr.len_ hb;exact⟨hnf b this.1 hf,hle b this.1⟩
 have TI: ∀w,zb D w<=zb (List.set D v.toNat nd) w:=λw=>by
  unfold zb;rw[List.length_set];refine L2 λi a b c=>?_
  have:=hle i a;simp only[decide_eq_true_iff] at c⊢;omega
 refine Ok.pure (.inr ⟨_,J,?_,DX,λc c0 hc=>by rw[dI c c0,ah hc],by omega,by simp,λl' Ak=>?_⟩)
 ·unfold ny;rw[List.length_set];refine WH D.length Ap.1 Ap.2 ?_ λi a b hi=>?_
  ·rw[DX];omega
  ·rw[dI i a,ah hi]
 ·refine⟨by simpa using hr.len_,λc c0 c1 hc=>?_,λe he=>?_,λc hc wT hf=>?_⟩
  ·rw[List.length_set] at c1
   by_cases z:c=v
   ·subst z;rw[DX];have:=TI nd;exact⟨hv,n0,by omega,Vm JG hp⟩
   ·rw[dI c c0,ah z] at hc⊢;obtain⟨a1,a2,a3,a4⟩:=hr.dv c c0 c1 hc;have:=TI (rd D c);exact⟨a1,a2,by omega,Vm JG a4⟩
  ·rcases(Ak e).1 he with z |rfl
   ·obtain⟨b1,b2,b3⟩:=hr.hp e z;have:=JG _ b1 b2;exact⟨b1,this.1,by omega⟩
   ·exact⟨hv,by simp only;rw[DX];omega,by simp only;rw[DX];omega⟩
  ·have FW:=vy h hr.len_ hc
   by_cases z:c=v
   ·subst z;rw[DX];exact .inl ((Ak _).2 (.inr J))
   ·rw[dI c FW.1,ah z] at hf⊢;rcases hr.rel c hc wT hf with y |y
    ·exact .inl ((Ak _).2 (.inl y))
    ·refine .inr λe he=>?_
     obtain⟨q1,q2⟩:=y e he;have:=JG _ (L3 h hc he).1 q1;exact⟨this.1,by omega⟩
theorem CG (hN:g.m.W*g.m.H<=1600) {D:List Int} {l:List dC} {x:Int} (hr:Rt g goal im D l x):0<=ny D/\ny D<=200000000000:=by
 have hF:dE=2147483647:=rfl;have yC:RB=104538400:=rfl;have hl:=hr.len_;have:=agA (D:=D) λc c0 c1=>by
  by_cases z:rd D c=dE
  ·omega
  ·exact(hr.bound hN c0 c1 z).1
 have:(D.length:Int)*(RB+1)<=1600*(RB+1):=Int.mul_le_mul_of_nonneg_right U U;omega
theorem ahU (h:dA g more) (hN:g.m.W*g.m.H<=1600) (gg ep gl:Int) {b key:Int} (hb:node g.m b) (E:List dR) (hE: ∀e∈E,Comes g.m b e) (hEb:E.length<=260): ∀(n k:Nat) (D:List Int) (l:List dC) (i:Int),(E.length-i).toNat<=n->n<k->0<=i->i<=E.length->Rt g goal im D l b->rd D b=key->key≠dE->l.length+2*ny D+(E.length-i)<1000000000000->
 (∀j:Int,0<=j->j<i->rd D (rd E j).To≠dE/\rd D (rd E j).To<=key+(rd E j).kE)->
 Ok (fO.l2 k gl key E gg ep D l i) (λr=>r.1=gg/\r.2.1=ep/\Rt g goal im r.2.2.1 r.2.2.2 b/\rd r.2.2.1 b=key/\r.2.2.2.length+2*ny r.2.2.1<=l.length+2*ny D/\(∀e∈E,rd r.2.2.1 e.To≠dE/\rd r.2.2.1 e.To<=key+e.kE)/\ ∀c,node g.m c->rd D c≠dE->rd r.2.2.1 c≠dE/\rd r.2.2.1 c<=rd D c):=by
 have hF:dE=2147483647:=rfl;have yC:RB=104538400:=rfl;have fin: ∀(k:Nat) (D:List Int) (l:List dC) (i:Int),¬i<E.length->Rt g goal im D l b->rd D b=key->(∀j:Int,0<=j->j<i->rd D (rd E j).To≠dE/\rd D (rd E j).To<=key+(rd E j).kE)->
  Ok (fO.l2 (k+1) gl key E gg ep D l i) (λr=>r.1=gg/\r.2.1=ep/\Rt g goal im r.2.2.1 r.2.2.2 b/\rd r.2.2.1 b=key/\r.2.2.2.length+2*ny r.2.2.1<=l.length+2*ny D/\(∀e∈E,rd r.2.2.1 e.To≠dE/\rd r.2.2.1 e.To<=key+e.kE)/\ ∀c,node g.m c->rd D c≠dE->rd r.2.2.1 c≠dE/\rd r.2.2.1 c<=rd D c):=λk D l i hi hr hk ha=>by
  rw[fO.l2,ah hi];refine Ok.pure ⟨J,J,hr,hk,Int.le_refl _,λe he=>?_,λc _ hc=>⟨hc,Int.le_refl _⟩⟩
  obtain⟨j,j0,j1,rfl⟩:=jJ he;exact ha j j0 U
 intro n
 induction n with
 |zero=>
  intro k D l i hn hk hi dT hr jY Aj hlen ha;obtain⟨k,rfl⟩:=bh hk;exact fin k D l i U hr jY ha
 |succ n ih=>
  intro k D l i hn hk hi dT hr jY Aj hlen ha;obtain⟨k,rfl⟩:=bh hk
  by_cases aP:i<E.length
  ·have jg:=dN hi aP;have vb:=hE _ jg;obtain⟨c1,c2,c3,c4⟩:=L3 h hb vb;have tR:=vy h hr.len_ hb;obtain⟨d1,d2,d3,d4⟩:=hr.dv b tR.1 tR.2 (by rw[jY];exact Aj)
   have FU:=hr.bound hN tR.1 tR.2 (by rw[jY];exact Aj)
   rw[jY] at d2 d3 d4 FU;have MG:KT=65024:=rfl;have DV:=CG hN hr;have hrk:zb D key+1<=zb D (key+(rd E i).kE):=by
    unfold zb;refine QO tR.1 tR.2 (by rw[jY];simp) (by rw[jY];simp;omega) λc _ _ hc=>?_
    simp only[decide_eq_true_iff] at hc⊢;omega
   rw[fO.l2,wi (x:=key+(rd E i).kE) U U,wi (x:=i+1) U U];refine Ok.pos aP (Ok.cx ⟨hi,aP⟩ ((VY (ge:=0) h hN hr U gg ep c1 c2 U U (.inr ⟨b,_,hb,by rw[jY];exact Aj,vb,J,by rw[jY];omega⟩)).bind λr vj=>?_))
   rcases vj with⟨rfl,z1,z2⟩ |⟨D',rfl,z1,z2,z3,z4,z5,z6⟩
   ·refine Ok.neg bk (ih k D l (i+1) U U U U hr jY Aj U λj j0 j1=>?_)
    by_cases z:j=i
    ·subst z;exact⟨z1,z2⟩
    ·exact ha j j0 U
   ·refine Ok.pos J ((Kr ⟨l⟩ _ _ (by simp only;omega)).bind λq hq=>?_)
    have NH:=z6 q.l hq.2;have jw:rd D' b=key:=by rw[z3 b tR.1 (λy=>c2 y.symm),jY]
    have F9:=hq.1;simp only at F9;refine(ih k D' q.l (i+1) U U U U NH jw Aj U λj j0 j1=>?_).mono λr B1=>⟨B1.1,B1.2.1,B1.2.2.1,B1.2.2.2.1,by have:=B1.2.2.2.2.1;omega,B1.2.2.2.2.2.1,λc hc qv=>?_⟩
    rotate_left
    ·have FW:=vy h hr.len_ hc;have hd:rd D' c≠dE/\rd D' c<=rd D c:=by
      by_cases y:c=(rd E i).To
      ·rw[y,z2];rw[y] at qv;have:=hr.bound hN (y▸FW.1) (y▸FW.2) qv;exact⟨by omega,by omega⟩
      ·rw[z3 c FW.1 y];exact⟨qv,Int.le_refl _⟩
     have:=B1.2.2.2.2.2.2 c hc hd.1;exact⟨this.1,by omega⟩
    by_cases y:(rd E j).To=(rd E i).To
    ·rw[y,z2]
     by_cases z:j=i
     ·subst z;exact⟨by omega,Int.le_refl _⟩
     ·have w:=(ha j j0 U).2;rw[y] at w;exact⟨by omega,by omega⟩
    ·have hj:=L3 h hb (hE _ (dN j0 (show j<E.length by omega)))
     have:=vy h hr.len_ hj.1;rw[z3 _ this.1 y];refine ha j j0 ?_;have:j≠i:=λz=>y (by rw[z])
     omega
  ·exact fin k D l i aP hr jY ha
structure EU (g:bt) (goal:Int) (im:List (Int×Int)) (D:List Int):Prop where
 len_:(D.length:Int)=g.m.W*g.m.H
 dv: ∀c:Int,0<=c->c<D.length->rd D c≠dE->node g.m c/\0<=rd D c/\rd D c<=RB/\Pv g goal im D c (rd D c)
 rel: ∀c,node g.m c->rd D c≠dE-> ∀e,Comes g.m c e->rd D e.To≠dE/\rd D e.To<=rd D c+e.kE
 sd: ∀c∈bI g.m (aX g.m.W g.m.H goal),bQ im c=true->rd D c≠dE/\rd D c<=aO im c
theorem Wl (h:dA g more) (hN:g.m.W*g.m.H<=1600) (hF':qh g M) (gg ep gl:Int): ∀(n k:Nat) (D:List Int) (l:List dC) (key b:Int) (ok:Bool),(l.length+2*ny D+(if ok then 1 else 0)).toNat<=n->n<k->l.length+2*ny D<999999990000->
 (ok=true->Rt g goal im D (⟨key,b⟩::l) (-1))->(ok=false->l=[]/\Rt g goal im D [] (-1))->(∀c∈bI g.m (aX g.m.W g.m.H goal),bQ im c=true->rd D c≠dE/\rd D c<=aO im c)->
 Ok (fO.l1 k gl M g gg ep D l key b ok) (λr=> ∃D',r=some ⟨gg,ep,D'⟩/\EU g goal im D'):=by
 have ME:dE=2147483647:=rfl;have yC:RB=104538400:=rfl;have fin: ∀(k:Nat) (D:List Int) (l:List dC) (key b:Int) (ok:Bool),ok=false->Rt g goal im D [] (-1)->(∀c∈bI g.m (aX g.m.W g.m.H goal),bQ im c=true->rd D c≠dE/\rd D c<=aO im c)->Ok (fO.l1 (k+1) gl M g gg ep D l key b ok) (λr=> ∃D',r=some ⟨gg,ep,D'⟩/\EU g goal im D'):=λk D l key b ok vh hr hs=>by
  subst vh;rw[fO.l1];refine Ok.neg bk (Ok.pure ⟨D,J,hr.len_,λc c0 c1 hc=>?_,λc hc hf e he=>?_,hs⟩)
  ·obtain⟨a,b,_,d⟩:=hr.dv c c0 c1 hc;exact⟨a,b,(hr.bound hN c0 c1 hc).2,d⟩
  ·have:=vy h hr.len_ hc;exact((hr.rel c hc U hf).resolve_left bk) e he
 intro n
 induction n with
 |zero=>
  intro k D l key b ok hn hk hlen hp hf hs;obtain⟨k,rfl⟩:=bh hk
  cases ok
  ·exact fin k D l key b false J (hf J).2 hs
  ·have:=CG hN (hp J);simp only[if_true] at hn;omega
 |succ n ih=>
  intro k D l key b ok hn hk hlen hp hf hs;obtain⟨k,rfl⟩:=bh hk
  cases ok
  ·exact fin k D l key b false J (hf J).2 hs
  have hr:=hp J;simp only[if_true] at hn;have hph:=CG hN hr;obtain⟨b1,b2,b3⟩:=hr.hp ⟨key,b⟩ (List.mem_cons_self ..);simp only at b1 b2 b3;have tR:=vy h hr.len_ b1;have FU:=hr.bound hN tR.1 tR.2 b2;rw[fO.l1];refine Ok.pos J (Ok.bind (P:=λr=>r.1=gg/\r.2.1=ep/\Rt g goal im r.2.2.1 r.2.2.2 (-1)/\r.2.2.2.length+2*ny r.2.2.1<=l.length+2*ny D/\ ∀c∈bI g.m (aX g.m.W g.m.H goal),bQ im c=true->rd r.2.2.1 c≠dE/\rd r.2.2.1 c<=aO im c) (Ok.cx tR ?_) λr vj=>?_)
  ·rw[wi U U];refine Ok.ite (λq=>Ok.pure ⟨J,J,⟨hr.len_,hr.dv,λe he=>hr.hp e (List.mem_cons_of_mem _ he),λc hc wT qv=>?_⟩,Int.le_refl _,hs⟩) λq=>?_
   ·rcases hr.rel c hc wT qv with y |y
    ·rcases List.mem_cons.1 y with y |y
     ·simp only[dC.mk.injEq] at y;rw[y.2] at y;omega
     ·exact .inl y
    ·exact .inr y
   ·have jY:rd D b=key:=U;have Ga:Rt g goal im D l b:=⟨hr.len_,hr.dv,λe he=>hr.hp e (List.mem_cons_of_mem _ he),λc hc wT qv=>by
     have:=vy h hr.len_ hc;rcases hr.rel c hc U qv with y |y
     ·rcases List.mem_cons.1 y with y |y
      ·simp only[dC.mk.injEq] at y;exact absurd y.2 wT
      ·exact .inl y
     ·exact .inr y⟩
    refine(aez h hF' b).bind λE hE=>?_
    obtain⟨hE1,FD⟩:=hE;have RT:=(FD.resolve_right λz=>z.1 b1).2;refine(ahU h hN gg ep gl b1 E (λe he=>(RT e).1 he) hE1 260 fuel D l 0 U (by rw[cH];omega) U U Ga jY U U (λj j0 j1=>by omega)).mono λr NH=>?_
    obtain⟨s1,s2,s3,s4,s5,s6,s7⟩:=NH;refine⟨s1,s2,⟨s3.len_,s3.dv,s3.hp,λc hc wT qv=>?_⟩,s5,λc hc hm=>?_⟩
    ·by_cases z:c=b
     ·subst z;exact .inr λe he=>by rw[s4];exact s6 e ((RT e).2 he)
     ·exact s3.rel c hc z qv
    ·have w:=hs c hc hm;have:=s7 c (Kh hc) w.1;exact⟨this.1,by omega⟩
  ·obtain⟨q1,q2,q3,q4,q5⟩:=vj;obtain⟨r1,r2,D',l'⟩:=r;simp only at q1 q2 q3 q4 q5⊢;subst q1;subst q2;have ajE:=CG hN q3;refine(Km ⟨l'⟩ (by simp only;omega)).bind λv hv=>?_
   rcases hv with⟨e1,e2⟩ |⟨e1,e2,e3,e4,e5,e6⟩
   ·simp only at e1;subst e1;subst e2;exact ih k D' [] 0 0 false (by simp only[List.length_nil] at*;simp;omega) U (by simp;simp at q4;omega) bk (λ_=>⟨J,q3⟩) q5
   ·simp only at e1 e3 e4 e5 e6;rw[e2];refine ih k D' v.2.2.2.l v.1 v.2.1 true (by simp only[if_true];omega) U U (λ_=>?_) bk q5
    rw[e3];have h0:=dN (a:=l') (i:=0) U (by have:=List.length_pos_iff.2 e1;omega)
    refine⟨q3.len_,q3.dv,λe he=>?_,λc hc wT qv=>?_⟩
    ·rcases List.mem_cons.1 he with rfl |he
     ·exact q3.hp _ h0
     ·exact q3.hp e (e5 e he)
    ·rcases q3.rel c hc wT qv with y |y
     ·refine .inl ?_;rcases e6 _ y with z |z
      ·rw[z];exact List.mem_cons_self ..
      ·exact List.mem_cons_of_mem _ z
     ·exact .inr y
end
section
variable {g : bt} {more : Int} {M : dz} {goal : Int} {im : List (Int × Int)}
theorem ahT (h:dA g more) (hN:g.m.W*g.m.H<=1600) (hF:qh g M) (JC: ∀c,bQ im c=true->0<=aO im c/\aO im c<=500000) (gg ep:Int) (L:List Int) (hL:L=bI g.m (aX g.m.W g.m.H goal)): ∀(n k:Nat) (D:List Int) (l:List dC) (i:Int),(L.length-i).toNat<=n->n<k->0<=i->i<=L.length->Rt g goal im D l (-1)->l.length+2*ny D+(L.length-i)<999999990000->
 (∀j:Int,0<=j->j<i->bQ im (rd L j)=true->rd D (rd L j)≠dE/\rd D (rd L j)<=aO im (rd L j))->
 Ok (fO.l0 k goal M g im L gg ep D l i) (λr=> ∃D',r=some ⟨gg,ep,D'⟩/\EU g goal im D'):=by
 have ME:dE=2147483647:=rfl;have hlN:L.length<=256:=by rw[hL];exact vz ..
 have fin: ∀(k:Nat) (D:List Int) (l:List dC) (i:Int),¬i<L.length->Rt g goal im D l (-1)->l.length+2*ny D<999999990000->(∀j:Int,0<=j->j<i->bQ im (rd L j)=true->rd D (rd L j)≠dE/\rd D (rd L j)<=aO im (rd L j))->
  Ok (fO.l0 (k+1) goal M g im L gg ep D l i) (λr=> ∃D',r=some ⟨gg,ep,D'⟩/\EU g goal im D'):=λk D l i hi hr hlen ha=>by
  rw[fO.l0,ah hi];have DV:=CG hN hr;have JN: ∀c∈bI g.m (aX g.m.W g.m.H goal),bQ im c=true->rd D c≠dE/\rd D c<=aO im c:=λc hc hm=>by
   rw[<-hL] at hc;obtain⟨j,j0,j1,rfl⟩:=jJ hc;exact ha j j0 U hm
  refine(Km ⟨l⟩ (by simp only;omega)).bind λv hv=>?_
  rcases hv with⟨e1,e2⟩ |⟨e1,e2,e3,e4,e5,e6⟩
  ·simp only at e1;subst e1;subst e2;exact Wl h hN hF gg ep goal 1000000000000 fuel D [] 0 0 false bl (by rw[cH];omega) (by simp;simp at hlen;omega) bk (λ_=>⟨J,hr⟩) JN
  ·simp only at e1 e3 e4 e5 e6;rw[e2];refine Wl h hN hF gg ep goal 1000000000000 fuel D v.2.2.2.l v.1 v.2.1 true (by simp only[if_true];omega) (by rw[cH];omega) U (λ_=>?_) bk JN
   rw[e3];have h0:=dN (a:=l) (i:=0) U (by have:=List.length_pos_iff.2 e1;omega)
   refine⟨hr.len_,hr.dv,λe he=>?_,λc hc wT qv=>?_⟩
   ·rcases List.mem_cons.1 he with rfl |he
    ·exact hr.hp _ h0
    ·exact hr.hp e (e5 e he)
   ·rcases hr.rel c hc wT qv with y |y
    ·refine .inl ?_;rcases e6 _ y with z |z
     ·rw[z];exact List.mem_cons_self ..
     ·exact List.mem_cons_of_mem _ z
    ·exact .inr y
 intro n
 induction n with
 |zero=>
  intro k D l i hn hk hi dT hr hlen ha;obtain⟨k,rfl⟩:=bh hk;exact fin k D l i U hr U ha
 |succ n ih=>
  intro k D l i hn hk hi dT hr hlen ha;obtain⟨k,rfl⟩:=bh hk
  by_cases aP:i<L.length
  ·have jg:rd L i∈bI g.m (aX g.m.W g.m.H goal):=by rw[<-hL];exact dN hi aP
   have TE:=Kh jg;have DV:=CG hN hr;rw[fO.l0,wi (x:=i+1) U U];refine Ok.pos aP ?_;rw[af (show 0<=i/\i<(L.length:Int) from⟨hi,aP⟩)]
   cases hm:bQ im (rd L i)
   ·simp only[Bool.false_eq_true,if_false,aK];refine ih k D l (i+1) U U U U hr U λj j0 j1 hj=>?_
    by_cases z:j=i
    ·subst z;rw[hm] at hj;simp at hj
    ·exact ha j j0 U hj
   ·have hv:=JC _ hm;simp only[if_true];have hrx:=VY (ge:=0) h hN hr U gg ep TE (by have:=vy h hr.len_ TE;omega) hv.1 U (.inl ⟨jg,hm,J⟩)
    obtain⟨r,e,vj⟩:=hrx;rw[e];simp only[aK];rcases vj with⟨rfl,z1,z2⟩ |⟨D',rfl,z1,z2,z3,z4,z5,z6⟩
    ·simp only[Bool.false_eq_true,if_false,aK];refine ih k D l (i+1) U U U U hr U λj j0 j1 hj=>?_
     by_cases z:j=i
     ·subst z;exact⟨z1,z2⟩
     ·exact ha j j0 U hj
    ·simp only[if_true];obtain⟨q,eq,hq⟩:=Kr ⟨l⟩ (aO im (rd L i)) (rd L i) (by simp only;omega)
     rw[eq];simp only[aK];have F9:=hq.1;simp only at F9;refine ih k D' q.l (i+1) U U U U (z6 q.l hq.2) U λj j0 j1 hj=>?_
     by_cases y:rd L j=rd L i
     ·rw[y,z2];exact⟨by omega,Int.le_refl _⟩
     ·have hjm:rd L j∈bI g.m (aX g.m.W g.m.H goal):=by rw[<-hL];exact dN j0 U
      have:=vy h hr.len_ (Kh hjm);rw[z3 _ this.1 y];refine ha j j0 ?_ hj;have:j≠i:=λz=>y (by rw[z])
      omega
  ·exact fin k D l i aP hr U ha
def PK (g:bt) (goal:Int) (im:List (Int×Int)):Prop:=(∀f M,jm.f f goal M g=some im)/\ ∀c,bQ im c=true->0<=aO im c/\aO im c<=500000
def uD (g:bt) (r:ie):Prop:=r.bL=g.bL/\ ∃im,PK g r.goal im/\EU g r.goal im r.aQ
theorem ahS (h:dA g more) (hN:g.m.W*g.m.H<=1600) (hF:qh g M) (f:jN) (hg:cO g.m goal):Ok (fO.f f goal M g) (λr=> ∃R,r=some R/\R.goal=goal/\uD g R):=by
 have ME:dE=2147483647:=rfl;have yC:RB=104538400:=rfl;have hmp:=xf h.ok.1;unfold fO.f;obtain⟨im,e,JC⟩:=ahF h hN f M hg;have aen:PK g goal im:=⟨λf' M'=>e,JC⟩
 have hs:=vS (o0 h.ok hg);refine Ok.eq (CQ g) (Ok.eq (Fx g) ?_);simp only;rw[wi U U];have Gd:=ahk (v:=dE) (n:=(g.m.W*g.m.H).toNat) U U;rw[show(((g.m.W*g.m.H).toNat:Nat):Int)=g.m.W*g.m.H by omega] at Gd
 refine Ok.eq Gd (Ok.eq (v:=some ⟨[]⟩) J ?_);refine Ok.eq e (Ok.eq (tj ..) (Ok.eq (agf hF _ hs) ?_));have Tm: ∀c:Int,0<=c->c<(g.m.W*g.m.H).toNat->rd (List.replicate (g.m.W*g.m.H).toNat dE) c=dE:=λc c0 c1=>vD c0 c1
 have hR:Rt g goal im (List.replicate (g.m.W*g.m.H).toNat dE) [] (-1):=by
  refine⟨by simp;omega,λc c0 c1 hc=>?_,by simp,λc hc _ qv=>?_⟩
  ·rw[List.length_replicate] at c1;exact absurd (Tm c c0 c1) hc
  ·have:=(Cr hc).2;exact absurd (Tm c this.1 (by have:=this.2;omega)) qv
 have hph:=CG hN hR;have TD:=vz g.m (aX g.m.W g.m.H goal);refine(ahT h hN hF JC goal g.bL _ J 256 fuel _ [] 0 U (by rw[cH];omega) U U hR bl (λj j0 j1=>by omega)).mono λr hr=>?_
 obtain⟨D',rfl,hD⟩:=hr;exact⟨_,J,J,J,im,aen,hD⟩
structure K8 (g:bt) (f:jN):Prop where
 kept: ∀R,f.kept=some R->cO g.m R.goal/\R.bL<=g.bL/\(R.bL=g.bL->uD g R)
 eH:0<=f.count/\f.count<=1000000000000
def Ug (g:bt) (f:jN) (goal:Int):Prop:= ∃R,f.kept=some R/\R.goal=goal/\R.bL=g.bL
theorem ahl (h:dA g more) (hN:g.m.W*g.m.H<=1600) (hv: ∀s:Int,bG g.m.W g.m.H s->fA g s<=g.bL) {f:jN} (hf:K8 g f) (hM:zN g M) (hc:M.count+4096<=1000000000000) (Np:f.count+1<=1000000000000) (hg:cO g.m goal):
 Ok (xA.f f goal M g) (λr=> ∃R,r.1=some R/\R.goal=goal/\uD g R/\r.2.1.kept=some R/\K8 g r.2.1/\f.count<=r.2.1.count/\r.2.1.count<=f.count+1/\(Ug g f goal->r.2.1=f)/\qh g r.2.2/\r.2.2.clean=g.bL/\r.2.2.count=M.count+(pK g M M.parts.length).length):=by
 have DL:=Mu h hg;unfold xA.f;refine Ok.eq (uP h _) (Ok.neg bl ((ahd h hv hM hc).bind λv NM=>?_));obtain⟨hF,lB,ko⟩:=NM;have e:(c_ f.kept (some true) (λx5=>if(x5.goal !=goal)=true then(some true) else((oS.f g).bind λv6=>some (x5.bL !=v6))))=some (match f.kept with |none=>true |some R=>(R.goal !=goal||R.bL !=g.bL)):=by
  cases f.kept with
  |none=>rfl
  |some R=>
   show(if(R.goal !=goal)=true then _ else _)=some (R.goal !=goal||R.bL !=g.bL)
   by_cases z:R.goal=goal
   ·rw[ah (by simp[z]),Fx];simp[z]
   ·rw[af (by simpa using z)];simp[z]
 refine Ok.eq e (Ok.ite (λq=>?_) λq=>?_)
 ·refine(ahS h hN hF f hg).bind λr hr=>?_
  obtain⟨R,rfl,r1,r2⟩:=hr;have ajz:=hf.eH;refine Ok.eq (v:=f.count+1) (zu U U U U) (Ok.pure ⟨R,rfl,r1,r2,rfl,⟨λR' R4=>?_,?_⟩,?_,?_,λ⟨R',k1,k2,k3⟩=>?_,hF,lB,ko⟩)
  ·simp only[Option.some.injEq] at R4;subst R4;exact⟨by rw[r1];exact hg,by rw[r2.1];omega,λ_=>r2⟩
  ·simp only;omega
  ·simp only;omega
  ·simp only;omega
  ·rw[k1] at q;simp[k2,k3] at q
 ·cases hk:f.kept with
  |none=>rw[hk] at q;simp at q
  |some R=>
   rw[hk] at q;simp at q;have hkk:=hf.kept R hk;exact Ok.pure ⟨R,J,q.1,hkk.2.2 q.2,hk,hf,Int.le_refl _,by simp only;omega,λ_=>rfl,hF,lB,ko⟩
theorem YG (h:dA g more) (hN:g.m.W*g.m.H<=1600) {R:ie} (hR:uD g R) (c:Int):CE.f R c=some (if cO g.m c/\rd R.aQ c≠dE then rd R.aQ c else cL):=by
 have ME:dE=2147483647:=rfl;have yC:RB=104538400:=rfl;obtain⟨_,im,_,hD⟩:=hR;have hl:=hD.len_;unfold CE.f;have e:(if c<0 then(some true) else(if c≥(List.length R.aQ:Int) then(some true) else(if(0<=c/\c<(List.length R.aQ:Int)) then(some ((rd R.aQ c)==2147483647)) else none)))=some (decide (¬(cO g.m c/\rd R.aQ c≠dE))):=by
  unfold cO
  by_cases a:c<0
  ·rw[af a];simp;omega
  ·by_cases b:c≥(List.length R.aQ:Int)
   ·rw[ah a,af b];simp;omega
   ·rw[ah a,ah b,af U];congr 1;rw[Bool.eq_iff_iff];simp;omega
 rw[e];simp only[aK]
 by_cases z:cO g.m c/\rd R.aQ c≠dE
 ·have hz:=z.1;obtain⟨z0,z1⟩:=hz;have:=hD.dv c z0 U z.2;rw[ah (by simpa using z),af U,af z,wi U U]
 ·rw[af (decide_eq_true z),ah z]
end
section
variable {g : bt} {more : Int} {R : ie}
def wj (g:bt) (R:ie) (c:Int):Int:=if cO g.m c/\rd R.aQ c≠dE then rd R.aQ c else cL
theorem Ql (hN:g.m.W*g.m.H<=1600) (hR:uD g R) {c:Int} (hc:wj g R c≠cL):cO g.m c/\rd R.aQ c≠dE/\wj g R c=rd R.aQ c/\0<=wj g R c/\wj g R c<=RB:=by
 unfold wj at hc⊢;split at hc
 ·rename_i z;obtain⟨_,im,_,hD⟩:=hR;have hl:=hD.len_;have hz:=z.1;obtain⟨z0,z1⟩:=hz;have:=hD.dv c z0 U z.2;rw[af z];exact⟨z.1,z.2,J,this.2.1,this.2.2.1⟩
 ·exact absurd J hc
def tD (g:bt) (R:ie) (c:Int) (e:dR) (x:aZ):Prop:=wj g R e.To≠cL/\x=⟨du g.m.W g.m.H c,CL g.m.W g.m.H c e.To,e.kE+wj g R e.To⟩
theorem aex (h:dA g more) (hN:g.m.W*g.m.H<=1600) (hR:uD g R) (L:List Int) (i:Int) (E:List dR) (hE:E.length<=4) (hEc: ∀e∈E,0<=e.kE/\e.kE<=255) (x0:List aZ) (tY:x0.length<=10000): ∀(n k:Nat) (x:List aZ) (j:Int),(E.length-j).toNat<=n->n<k->0<=j->j<=E.length->(x.length:Int)<=x0.length+j->
 (∀y,y∈x↔y∈x0∨ ∃q:Int,0<=q/\q<j/\tD g R (rd L i) (rd E q) y)->
 Ok (iQ.l1 k R (g.m.W,g.m.H) L i E x j) (λr=>r.length<=x0.length+4/\ ∀y,y∈r↔y∈x0∨ ∃e∈E,tD g R (rd L i) e y):=by
 have yC:RB=104538400:=rfl;have fin: ∀(k:Nat) (x:List aZ) (j:Int),¬j<E.length->j<=E.length->(x.length:Int)<=x0.length+j->(∀y,y∈x↔y∈x0∨ ∃q:Int,0<=q/\q<j/\tD g R (rd L i) (rd E q) y)->
  Ok (iQ.l1 (k+1) R (g.m.W,g.m.H) L i E x j) (λr=>r.length<=x0.length+4/\ ∀y,y∈r↔y∈x0∨ ∃e∈E,tD g R (rd L i) e y):=λk x j hj iG hl hm=>by
  rw[iQ.l1,ah hj];refine Ok.pure ⟨by omega,λy=>(hm y).trans (or_congr_right ⟨λ⟨q,q0,q1,w⟩=>⟨_,dN q0 U,w⟩,λ⟨e,he,w⟩=>?_⟩)⟩
  obtain⟨q,q0,q1,rfl⟩:=jJ he;exact⟨q,q0,by omega,w⟩
 intro n
 induction n with
 |zero=>
  intro k x j hn hk hj iG hl hm;obtain⟨k,rfl⟩:=bh hk;exact fin k x j U iG hl hm
 |succ n ih=>
  intro k x j hn hk hj iG hl hm;obtain⟨k,rfl⟩:=bh hk
  by_cases aP:j<E.length
  ·have hc:=hEc _ (dN hj aP);have wV: ∀y,(y∈x0∨ ∃q:Int,0<=q/\q<j+1/\tD g R (rd L i) (rd E q) y)↔y∈x∨tD g R (rd L i) (rd E j) y:=λy=>by
    rw[hm y];constructor
    ·rintro(a |⟨q,q0,q1,w⟩)
     ·exact .inl (.inl a)
     ·by_cases z:q=j
      ·subst z;exact .inr w
      ·exact .inl (.inr ⟨q,q0,by omega,w⟩)
    ·rintro((a |⟨q,q0,q1,w⟩) |w)
     ·exact .inl a
     ·exact .inr ⟨q,q0,by omega,w⟩
     ·exact .inr ⟨j,hj,by omega,w⟩
   rw[iQ.l1,wi (x:=j+1) U U];refine Ok.pos aP (Ok.cx ⟨hj,aP⟩ (Ok.eq (v:=wj g R (rd E j).To) (YG h hN hR _) (Ok.ite (λq=>Ok.eq (Gx ..) (Ok.eq (aib ..) (Ok.cx U ?_))) λq=>?_)))
   ·have q:wj g R (rd E j).To≠cL:=by simpa using q
    have ha:=Ql hN hR q;rw[wi U U];refine ih k _ (j+1) U U U U bl λy=>?_
    rw[wV y];unfold tD;simp[q]
   ·have q:wj g R (rd E j).To=cL:=by simpa using q
    refine ih k x (j+1) U U U U U λy=>?_
    rw[wV y];unfold tD;simp[q]
  ·exact fin k x j aP iG hl hm
def yg (g:bt) (R:ie) (s:Int) (x:aZ):Prop:=
 (∃c∈bI g.m s,∃e∈vO g.m c,tD g R c e x)∨(aX g.m.W g.m.H R.goal=s/\fI g R.goal≠255/\x=⟨du g.m.W g.m.H R.goal,4,0⟩)
theorem L9 {m:aJ} {c:Int} {e:dR} (he:e∈vO m c): ∃d:Int,0<=d/\d<=3/\lV m (fQ m.W m.H c d)=true/\e=⟨fQ m.W m.H c d,rd m.C (fQ m.W m.H c d)⟩:=by
 unfold vO at he;split at he
 ·unfold xC at he;obtain⟨j,hj,rfl⟩:=List.mem_map.1 he;obtain⟨j1,j2⟩:=List.mem_filter.1 hj;have:=List.mem_range.1 j1;exact⟨j,by omega,by omega,j2,J⟩
 ·simp at he
theorem aew (h:dA g more) (hN:g.m.W*g.m.H<=1600) (hR:uD g R) (s:Int): ∀(n k:Nat) (x:List aZ) (i:Int),((bI g.m s).length-i).toNat<=n->n<k->0<=i->i<=(bI g.m s).length->(x.length:Int)<=4*i->
 (∀y,y∈x↔ ∃q:Int,0<=q/\q<i/\ ∃e∈vO g.m (rd (bI g.m s) q),tD g R (rd (bI g.m s) q) e y)->
 Ok (iQ.l0 k g R s (g.m.W,g.m.H) (bI g.m s) x i) (λr=>r.length<=1025/\(∀y,y∈r↔yg g R s y)/\r.Pairwise (λa b=> ¬sZ b a)):=by
 have hl:=vz g.m s;have fin: ∀(k:Nat) (x:List aZ) (i:Int),¬i<(bI g.m s).length->i<=(bI g.m s).length->(x.length:Int)<=4*i->(∀y,y∈x↔ ∃q:Int,0<=q/\q<i/\ ∃e∈vO g.m (rd (bI g.m s) q),tD g R (rd (bI g.m s) q) e y)->
  Ok (iQ.l0 (k+1) g R s (g.m.W,g.m.H) (bI g.m s) x i) (λr=>r.length<=1025/\(∀y,y∈r↔yg g R s y)/\r.Pairwise (λa b=> ¬sZ b a)):=λk x i hi dT hx hm=>by
  rw[iQ.l0,ah hi];have pS: ∀y,y∈x↔ ∃c∈bI g.m s,∃e∈vO g.m c,tD g R c e y:=λy=>(hm y).trans ⟨λ⟨q,q0,q1,w⟩=>⟨_,dN q0 U,w⟩,λ⟨c,hc,w⟩=>by
   obtain⟨q,q0,q1,rfl⟩:=jJ hc;exact⟨q,q0,by omega,w⟩⟩
  refine Ok.eq (v:=R.goal) J (Ok.eq (v:=decide (aX g.m.W g.m.H R.goal=s/\fI g R.goal≠255)) ?_ (Ok.ite (λq=>?_) λq=>?_))
  ·simp only[tj,aK]
   by_cases z:aX g.m.W g.m.H R.goal=s
   ·rw[af (by simpa using z),uP h];simp[z];rw[Bool.eq_iff_iff];simp
   ·rw[ah (by simpa using z)];simp[z]
  ·have q:=of_decide_eq_true q;refine Ok.eq (Gx ..) (Ok.cx U ((O7 _ bl).bind λr hr=>Ok.pure ⟨by have:=hr.1;simp at this;omega,λy=>?_,hr.2.2⟩))
   rw[hr.2.1 y,List.mem_append,pS y];unfold yg;simp[q.1,q.2]
  ·have q: ¬(aX g.m.W g.m.H R.goal=s/\fI g R.goal≠255):=by simpa using q
   refine(O7 _ U).bind λr hr=>Ok.pure ⟨by omega,λy=>?_,hr.2.2⟩
   rw[hr.2.1 y,pS y];unfold yg;exact⟨.inl,λw=>w.resolve_right λz=>q ⟨z.1,z.2.1⟩⟩
 intro n
 induction n with
 |zero=>
  intro k x i hn hk hi dT hx hm;obtain⟨k,rfl⟩:=bh hk;exact fin k x i U dT hx hm
 |succ n ih=>
  intro k x i hn hk hi dT hx hm;obtain⟨k,rfl⟩:=bh hk
  by_cases aP:i<(bI g.m s).length
  ·rw[iQ.l0,wi U U];refine Ok.pos aP (Ok.bind (Ok.cx ⟨hi,aP⟩ (Ok.eq (aaA h _) (aex h hN hR (bI g.m s) i (vO g.m (rd (bI g.m s) i)) (QX ..) (λe he=>?_) x U 4 fuel x 0 (by have:=QX g.m (rd (bI g.m s) i);omega) (by rw[cH];omega) U U U (λy=>⟨.inl,λw=>w.resolve_right λ⟨q,q0,q1,_⟩=>by omega⟩)))) λr hr=>ih k r (i+1) U U U U U λy=>?_)
   ·obtain⟨d,_,_,d2,rfl⟩:=L9 he;have:=(A1.1 d2).1;have:=h.sj _ this.1 this.2;simp only;omega
   ·rw[hr.2 y,hm y];constructor
    ·rintro(⟨q,q0,q1,w⟩ |w)
     ·exact⟨q,q0,by omega,w⟩
     ·exact⟨i,hi,by omega,w⟩
    ·rintro⟨q,q0,q1,w⟩
     by_cases z:q=i
     ·subst z;exact .inr w
     ·exact .inl ⟨q,q0,by omega,w⟩
  ·exact fin k x i aP dT hx hm
theorem aey (h:dA g more) (hN:g.m.W*g.m.H<=1600) (hR:uD g R) (s:Int):Ok (iQ.f g R s) (λr=>r.length<=1025/\(∀y,y∈r↔yg g R s y)/\r.Pairwise (λa b=> ¬sZ b a)):=by
 have hl:=vz g.m s;unfold iQ.f;refine Ok.eq (CQ g) (Ok.eq (v:=R.bL) rfl (Ok.eq (Fx g) (Ok.neg (by simp[hR.1]) (Ok.eq (UQ h s) (aew h hN hR s 256 fuel [] 0 U (by rw[cH];omega) U U bk (λy=>⟨λq=>by simp at q,λ⟨q,q0,q1,_⟩=>by omega⟩))))))
theorem ahY (h:dA g more) (hN:g.m.W*g.m.H<=1600) (hR:uD g R) (hg:cO g.m R.goal) {s:Int} (hs:bG g.m.W g.m.H s) {x:aZ} (hx:yg g R s x):qk (fD g.m s) x/\x.Key+254*256<=104603678:=by
 have yC:RB=104538400:=rfl;rcases hx with⟨c,hc,e,he,ha,rfl⟩ |⟨h1,h2,rfl⟩
 ·obtain⟨n1,n2,n3,n4⟩:=uf hc;obtain⟨d,d0,d3,d4,rfl⟩:=L9 he;have ez:=o0 h.ok n2;have lS:=CM h n2;rw[n4] at lS;have aR:=(A1.1 d4).1;have vi:=U8 (w:=g.m.W) (h:=g.m.H) (c:=c) (side:=d) aR.1;have hb:=h.sj _ aR.1 aR.2;have hav:=Ql hN hR ha;simp only at ha hav;have bH:=(A1.1 d4).2;have cu:=D4 ez;have mz:=DB ez;rw[n4] at cu mz;have Tv:=Kl hs cu.1 cu.2 d0 d3;rw[mz] at Tv;have B2:CL g.m.W g.m.H c (fQ g.m.W g.m.H c d)=d:=by
   rw[vi.2.2.2.2.1];exact Wr ez d0 U (by rw[<-vi.2.2.2.2.1];exact vi.2.2.2.1)
  refine⟨⟨lS.1,lS.2.1,?_,by simp only;omega,by simp only;omega,?_⟩,by simp only;omega⟩
  ·simp only;rw[lS.2.2];unfold fI;rw[af n2];exact(A1.1 n1).2
  ·simp only;rw[B2];exact .inr ⟨d0,d3,(Tv.1 aR.1).2⟩
 ·have lS:=CM h hg;rw[h1] at lS;exact⟨⟨lS.1,lS.2.1,by simp only;rw[lS.2.2];exact h2,by simp,by simp,.inl J⟩,by simp⟩
end
section
theorem Pb {a b:gv} (ha:qg a CB) (hb:qg b CB):mi.f a b=some ⟨a.bC+b.bC,a.bD+b.bD,a.bA+b.bA,a.bx+b.bx,a.bM+b.bM,a.bE+b.bE⟩:=by
 obtain⟨a1,a2,a3,a4,a5,a6⟩:=ha;obtain⟨b1,b2,b3,b4,b5,b6⟩:=hb;have MD:CB=1000000000000:=rfl;unfold mi.f lX.f;simp only[aK];have e0: ∀a b c d e f:Int,rd [a,b,c,d,e,f] 0=a:=λ_ _ _ _ _ _=>rfl
 have e1: ∀a b c d e f:Int,rd [a,b,c,d,e,f] 1=b:=λ_ _ _ _ _ _=>rfl
 have e2: ∀a b c d e f:Int,rd [a,b,c,d,e,f] 2=c:=λ_ _ _ _ _ _=>rfl
 have e3: ∀a b c d e f:Int,rd [a,b,c,d,e,f] 3=d:=λ_ _ _ _ _ _=>rfl
 have e4: ∀a b c d e f:Int,rd [a,b,c,d,e,f] 4=e:=λ_ _ _ _ _ _=>rfl
 have e5: ∀a b c d e f:Int,rd [a,b,c,d,e,f] 5=f:=λ_ _ _ _ _ _=>rfl
 have s0: ∀a b c d e f v:Int,List.set [a,b,c,d,e,f] (Int.toNat 0) v=[v,b,c,d,e,f]:=λ_ _ _ _ _ _ _=>rfl
 have s1: ∀a b c d e f v:Int,List.set [a,b,c,d,e,f] (Int.toNat 1) v=[a,v,c,d,e,f]:=λ_ _ _ _ _ _ _=>rfl
 have s2: ∀a b c d e f v:Int,List.set [a,b,c,d,e,f] (Int.toNat 2) v=[a,b,v,d,e,f]:=λ_ _ _ _ _ _ _=>rfl
 have s3: ∀a b c d e f v:Int,List.set [a,b,c,d,e,f] (Int.toNat 3) v=[a,b,c,v,e,f]:=λ_ _ _ _ _ _ _=>rfl
 have s4: ∀a b c d e f v:Int,List.set [a,b,c,d,e,f] (Int.toNat 4) v=[a,b,c,d,v,f]:=λ_ _ _ _ _ _ _=>rfl
 have s5: ∀a b c d e f v:Int,List.set [a,b,c,d,e,f] (Int.toNat 5) v=[a,b,c,d,e,v]:=λ_ _ _ _ _ _ _=>rfl
 have w0:aa (0+1)=1:=rfl;have w1:aa (1+1)=2:=rfl;have w2:aa (2+1)=3:=rfl;have w3:aa (3+1)=4:=rfl;have w4:aa (4+1)=5:=rfl;have w5:aa (5+1)=6:=rfl;simp only[e0,e1,e2,e3,e4,e5];have st: ∀(k:Nat) (x7 x8 x9 aM bf bq y7 y8 y9 zC zD zF i v:Int),0<=i->i<6->rR.f (rd [y7,y8,y9,zC,zD,zF] i) (rd [x7,x8,x9,aM,bf,bq] i)=some v->
  mi.l0 (k+1) x7 x8 x9 aM bf bq y7 y8 y9 zC zD zF i=mi.l0 k x7 x8 x9 aM bf bq (rd (List.set [y7,y8,y9,zC,zD,zF] (Int.toNat i) v) 0) (rd (List.set [y7,y8,y9,zC,zD,zF] (Int.toNat i) v) 1) (rd (List.set [y7,y8,y9,zC,zD,zF] (Int.toNat i) v) 2) (rd (List.set [y7,y8,y9,zC,zD,zF] (Int.toNat i) v) 3) (rd (List.set [y7,y8,y9,zC,zD,zF] (Int.toNat i) v) 4) (rd (List.set [y7,y8,y9,zC,zD,zF] (Int.toNat i) v) 5) (aa (i+1)):=by
  intro k x7 x8 x9 aM bf bq y7 y8 y9 zC zD zF i v h0 h1 hv;rw[mi.l0,af h1,af ⟨h0,h1⟩,af ⟨h0,h1⟩,hv,aK,af ⟨h0,h1⟩]
 obtain⟨k,hk⟩: ∃q,fuel=q+1+1+1+1+1+1+1:=⟨fuel-7,by rw[cH]⟩
 rw[hk];rw[st _ _ _ _ _ _ _ _ _ _ _ _ _ 0 (a.bC+b.bC) U U (by rw[e0,e0];exact zu U U U U)]
 simp only[s0,e0,e1,e2,e3,e4,e5,w0];rw[st _ _ _ _ _ _ _ _ _ _ _ _ _ 1 (a.bD+b.bD) U U (by rw[e1,e1];exact zu U U U U)]
 simp only[s1,e0,e1,e2,e3,e4,e5,w1];rw[st _ _ _ _ _ _ _ _ _ _ _ _ _ 2 (a.bA+b.bA) U U (by rw[e2,e2];exact zu U U U U)]
 simp only[s2,e0,e1,e2,e3,e4,e5,w2];rw[st _ _ _ _ _ _ _ _ _ _ _ _ _ 3 (a.bx+b.bx) U U (by rw[e3,e3];exact zu U U U U)]
 simp only[s3,e0,e1,e2,e3,e4,e5,w3];rw[st _ _ _ _ _ _ _ _ _ _ _ _ _ 4 (a.bM+b.bM) U U (by rw[e4,e4];exact zu U U U U)]
 simp only[s4,e0,e1,e2,e3,e4,e5,w4];rw[st _ _ _ _ _ _ _ _ _ _ _ _ _ 5 (a.bE+b.bE) U U (by rw[e5,e5];exact zu U U U U)]
 simp only[s5,e0,e1,e2,e3,e4,e5,w5];rw[mi.l0,ah U]
structure PE (m:aJ):Prop where
 ok:tA m
 sj: ∀c:Int,0<=c->c<m.W*m.H->1<=rd m.C c/\rd m.C c<=255
 jd:m.W*m.H<=1600
structure Xa (c:eI) (b:Int):Prop where
 gs:dA c.aI 0
 jd:c.aI.m.W*c.aI.m.H<=1600
 EH: ∀s:Int,bG c.aI.m.W c.aI.m.H s->1<=fA c.aI s/\fA c.aI s<=c.aI.bL
 ep:c.aI.bL<=b
 ms:zN c.aI c.hZ
 fs:K8 c.aI c.gZ
def gd (n:bY):gv:=⟨n.aU.bC+(match n.core with |none=>0 |some c=>c.hZ.count)+n.eh.count.bC,n.aU.bD+(match n.core with |none=>0 |some c=>c.gZ.count)+n.eh.count.bD,n.aU.bA+n.eh.count.bA,n.aU.bx+n.eh.count.bx,n.aU.bM+n.eh.count.bM,n.aU.bE+n.eh.count.bE⟩
structure gW (n:bY) (k b:Int) (ord:List Int):Prop where
 mC:pA n.eh.keys k ord
 aU:qg n.aU b
 sc:qg n.eh.count b
 z:n.eh.count.bC=0/\n.eh.count.bD=0
 j7:qg (gd n) b
 none_:n.core=none->n.eh.fields=[]/\ord=[]
 core: ∀c,n.core=some c->Xa c b/\c.hZ.count<=b/\c.gZ.count<=b/\Bm c.aI n.eh k ord
def km (n:bY):gv:=⟨(match n.core with |none=>0 |some c=>c.hZ.count),(match n.core with |none=>0 |some c=>c.gZ.count),0,0,0,0⟩
section
variable {n : bY} {k b : Int} {ord : List Int}
theorem QP (n:bY):y5.f n=some (km n):=by
 unfold y5.f km
 cases n.core with
 |none=>rfl
 |some c=>rfl
theorem gW.cv (h:gW n k b ord) (hb:0<=b):qg (km n) b:=by
 unfold km
 cases hc:n.core with
 |none=>exact⟨⟨Int.le_refl _,hb⟩,⟨Int.le_refl _,hb⟩,⟨Int.le_refl _,hb⟩,⟨Int.le_refl _,hb⟩,⟨Int.le_refl _,hb⟩,⟨Int.le_refl _,hb⟩⟩
 |some c=>
  obtain⟨h1,h2,h3,_⟩:=h.core c hc;exact⟨⟨h1.ms.eH.1,h2⟩,⟨h1.fs.eH.1,h3⟩,⟨Int.le_refl _,hb⟩,⟨Int.le_refl _,hb⟩,⟨Int.le_refl _,hb⟩,⟨Int.le_refl _,hb⟩⟩
theorem aao {x y:gv} {b c:Int} (hx:qg x b) (hy:qg y c):qg ⟨x.bC+y.bC,x.bD+y.bD,x.bA+y.bA,x.bx+y.bx,x.bM+y.bM,x.bE+y.bE⟩ (b+c):=by
 obtain⟨a1,a2,a3,a4,a5,a6⟩:=hx;obtain⟨b1,b2,b3,b4,b5,b6⟩:=hy;exact⟨by simp only;omega,by simp only;omega,by simp only;omega,by simp only;omega,by simp only;omega,by simp only;omega⟩
theorem aiA (h:gW n k b ord) (hb:0<=b/\b<=100000000000):Cn.f n=some (gd n):=by
 have MD:CB=1000000000000:=rfl;have FX:=h.cv hb.1;unfold Cn.f Ew.f;rw[QP,aK,Pb (h.aU.mono U) (FX.mono U),aK,aK,Pb ((aao h.aU FX).mono U) (h.sc.mono U)];simp[gd,km]
theorem af' {k:Int} (h1:1<=k) (h2:k<=1000000): ∃n,xq.f k=some (some n)/\gW n k 0 []/\n.core=none/\gd n=⟨0,0,0,0,0,0⟩:=by
 obtain⟨s,e,hs,hf,hc⟩:=aii h1 h2;have hz:qg ⟨0,0,0,0,0,0⟩ 0:=⟨by simp,by simp,by simp,by simp,by simp,by simp⟩
 unfold xq.f;rw[ah U,e];exact⟨_,J,⟨hs,hz,by rw[hc];exact hz,by rw[hc];exact⟨J,J⟩,by simp[gd,hc];exact hz,λ_=>⟨hf,J⟩,λc hc=>by simp at hc⟩,J,by simp[gd,hc]⟩
theorem Kf {c:eI} (h:gW n k b ord) (hc:n.core=some c) (x:Int):sP.f n x=some (fI c.aI x):=by
 unfold sP.f;rw[hc]
 show(je.f c.aI x).bind _=_
 rw[uP (h.core c hc).1.gs];rfl
theorem UR {c:eI} (hc:n.core=some c):yZ.f n=some (c.aI.m.W,c.aI.m.H):=by
 unfold yZ.f;rw[hc];rfl
theorem gW.mono {b':Int} (h:gW n k b ord) (hb:b<=b'):gW n k b' ord:=
 ⟨h.mC,h.aU.mono hb,h.sc.mono hb,h.z,h.j7.mono hb,h.none_,λc hc=>by
   obtain⟨h1,h2,h3,h4⟩:=h.core c hc;exact⟨⟨h1.gs,h1.jd,h1.EH,by have:=h1.ep;omega,h1.ms,h1.fs⟩,by omega,by omega,h4⟩⟩
structure Dc (n:bY) (k b:Int) (ord:List Int) (c:eI) (goal s:Int) (r:fX×Er×bY):Prop where
 err:r.2.1=Er.nil
 Dy: ∃R l c' qF,uD c.aI R/\R.goal=goal/\l.length<=1025/\(∀y,y∈l↔yg c.aI R s y)/\l.Pairwise (λa b=> ¬sZ b a)/\wo (fD c.aI.m s) l KF r.1/\
  r.2.2.core=some c'/\c'.aI=c.aI/\c'.gZ.kept=some R/\qh c.aI c'.hZ/\c'.hZ.clean=c.aI.bL/\c'.hZ.count=c.hZ.count+(pK c.aI c.hZ c.hZ.parts.length).length/\
  c.gZ.count<=c'.gZ.count/\c'.gZ.count<=c.gZ.count+1/\(Ug c.aI c.gZ goal->c'.gZ=c.gZ)/\
  gW r.2.2 k (b+5000) qF/\Px c.aI n.eh k ord goal s l (r.1,0,r.2.2.eh)/\r.2.2.aU=n.aU
theorem UN {c:eI} (h:gW n k b ord) (hb:0<=b/\b<=100000000000) (hc:n.core=some c) {goal s:Int} (hg:cO c.aI.m goal) (hs:bG c.aI.m.W c.aI.m.H s):
 Ok (qC.f n goal s) (Dc n k b ord c goal s):=by
 have MD:CB=1000000000000:=rfl;obtain⟨gy,TA,Np,tV⟩:=h.core c hc;have hG:=gy.gs;have DL:=Mu hG hg;have BT:=Ma c.aI c.hZ c.hZ.parts.length;have NB:=gy.ms.len_;have Nf:=oQ c.aI.m.W c.aI.m.H;unfold qC.f;rw[hc];refine Ok.eq (v:=false) J (Ok.neg bk ?_)
 show Ok ((lO.f c.aI s).bind _) _
 refine Ok.eq ((Pf hG s).trans (by rw[RO hs])) (Ok.eq (uP hG _) (Ok.neg bl ((ahl hG gy.jd (λs hs=>(gy.EH s hs).2) gy.fs gy.ms U U hg).bind λv hv=>?_)))
 obtain⟨R,e1,e2,e3,e4,e5,e6,e7,e8,e9,pL,yw⟩:=hv;rw[e1]
 show Ok ((iQ.f c.aI R s).bind _) _
 refine(aey hG gy.jd e3 s).bind λl hl=>?_
 obtain⟨l1,l2,l3⟩:=hl;rw[Po hG,aK];have ad9:=ah8 hG (λs hs=>(gy.EH s hs).2) tV (h.sc.mono U) hg hs l U (λx hx=>ahY hG gy.jd e3 (by rw[e2];exact hg) hs ((l2 x).1 hx))
 refine(ad9.bind' (g:=λv32:fX×Int×iU=>(v32.1.fa,v32.1.cz,v32.2.1,v32.2.2)) λq hq=>?_);have F8:=hq.code;obtain⟨f,z,sh⟩:=q;simp only at F8;subst F8;simp only;refine Ok.neg bk (Ok.pure ⟨J,R,l,⟨c.aI,v.2.2,v.2.1⟩,?_⟩);obtain⟨cc,A,B,g1,g2⟩:=hq.sh;obtain⟨k1,k2,k3,k4,k5,k6,k7,k8,k9⟩:=hq.eH;simp only at g1 g2 k1 k2 k3 k4 k5 k6 k7 k8 k9;obtain⟨s1,s2,s3,s4,s5,s6⟩:=h.sc;refine⟨cc::(A++B),e3,e2,l1,l2,l3,hq.Dy,J,J,e4,e9,pL,yw,e6,e7,e8,⟨g1.mC,h.aU.mono U,⟨by simp only;omega,by simp only;omega,by simp only;omega,by simp only;omega,by simp only;omega,by simp only;omega⟩,?_,?_,λz=>by simp at z,λc' jX=>?_⟩,hq,J⟩
 ·have:=h.z;simp only;omega
 ·have ht:=h.j7;unfold gd at ht⊢;simp only[hc] at ht;obtain⟨t1,t2,t3,t4,t5,t6⟩:=ht;simp only at t1 t2 t3 t4 t5 t6;exact⟨by simp only;omega,by simp only;omega,by simp only;omega,by simp only;omega,by simp only;omega,by simp only;omega⟩
 ·simp only[Option.some.injEq] at jX;subst jX;exact⟨⟨hG,gy.jd,gy.EH,by have:=gy.ep;simp only;omega,e9.ms,e5⟩,by simp only;omega,by simp only;omega,g1⟩
theorem af6 {c:eI} (h:gW n k b ord) (hc:n.core=some c) {goal s:Int} (gz: ¬(cO c.aI.m goal/\bG c.aI.m.W c.aI.m.H s)):
 qC.f n goal s=some (⟨[],[]⟩,Er.wrap 222 [goal] (Er.dS 3),n):=by
 obtain⟨gy,TA,Np,tV⟩:=h.core c hc;unfold qC.f;rw[hc];simp only[c_,aK,Bool.false_eq_true,if_false];rw[Pf gy.gs,aK,uP gy.gs,aK,af]
 by_cases z:cO c.aI.m goal
 ·have: ¬bG c.aI.m.W c.aI.m.H s:=λy=>gz ⟨z,y⟩
  unfold FA;rw[ah this];simp
 ·unfold fI;rw[ah z];simp
theorem UM:y_.f Er.nil=some 0:=rfl
theorem afY (g:Int):y_.f (Er.wrap 222 [g] (Er.dS 3))=some 7:=rfl
theorem UO (h:gW n k b ord): ∃n',xm.f n=some n'/\gW n' k b []/\gd n'=gd n/\n'.aU=n.aU/\n'.eh.count=n.eh.count/\
 ((n.core=none/\n'.core=none)∨ ∃c,n.core=some c/\n'.core=some ⟨c.aI,c.hZ,⟨none,c.gZ.count⟩⟩):=by
 obtain⟨s,e,hs,hf,ko⟩:=Rq h.mC;unfold xm.f;rw[e,aK]
 cases hc:n.core with
 |none=>
  have uU:gd ⟨none,s,n.aU⟩=gd n:=by simp[gd,ko,hc]
  exact⟨_,J,⟨hs,h.aU,by rw[ko];exact h.sc,by rw[ko];exact h.z,by rw[uU];exact h.j7,λ_=>⟨hf,J⟩,λc hc=>by simp at hc⟩,uU,J,ko,.inl ⟨J,J⟩⟩
 |some c=>
  obtain⟨h1,h2,h3,h4⟩:=h.core c hc;have uU:gd ⟨some ⟨c.aI,c.hZ,⟨none,c.gZ.count⟩⟩,s,n.aU⟩=gd n:=by simp[gd,ko,hc]
  refine⟨_,J,⟨hs,h.aU,by rw[ko];exact h.sc,by rw[ko];exact h.z,by rw[uU];exact h.j7,λz=>by simp at z,λc' jX=>?_⟩,uU,J,ko,.inr ⟨c,J,J⟩⟩
  ·simp only[Option.some.injEq] at jX;subst jX;exact⟨⟨h1.gs,h1.jd,h1.EH,h1.ep,h1.ms,⟨λR hR=>by simp at hR,h1.fs.eH⟩⟩,h2,h3,Bm.empty _ hs hf⟩
theorem af_ {c:eI} (h:gW n k b ord) (hc:n.core=some c):vx.f n=some c.aI.m:=by
 obtain⟨gy,_⟩:=h.core c hc;have:=gy.jd;have:=gy.gs.ok.2.1;unfold vx.f;rw[hc];simp only[c_];rw[abz _ U];rfl
theorem af7 (h:gW n k b ord):xn.f n=some (ord.map λc=>(rd n.eh.keys.ak c).key):=by
 unfold xn.f zp.f;rw[afm h.mC];rfl
theorem af8 (h:gW n k b ord) (hb:0<=b/\b<=100000000000) {m:aJ} (hm:PE m): ∃n' c',xo.f n m=some (0,n')/\n'.core=some c'/\gW n' k (b+1) []/\c'.aI.m=m/\c'.gZ=⟨none,0⟩/\gd n'=gd n/\(∀s:Int,bG m.W m.H s->(rd c'.hZ.parts s).version≠fA c'.aI s)/\n'.eh.count=n.eh.count:=by
 have MD:CB=1000000000000:=rfl;have JA:=hm.jd;have hl:=hm.ok.2.1;obtain⟨s,e,hs,hf,ko⟩:=Rq h.mC;have FX:=h.cv hb.1;have aek:=Pb (h.aU.mono (b':=CB) U) (FX.mono (b':=CB) U);have key: ∀ep:Int,0<=ep->ep<=b-> ∃n' c',((lP.f m ep).bind λv6=>c_ v6 none λxZ=>(rI.f xZ).bind λv7=>c_ v7 none λqW=>(sW.f qW xZ).bind λv8=>c_ v8 none λEK=>(pw.f n.eh).bind λv9=>some ((0:Int),bY.mk (some (eI.mk xZ qW EK)) v9 ⟨n.aU.bC+(km n).bC,n.aU.bD+(km n).bD,n.aU.bA+(km n).bA,n.aU.bx+(km n).bx,n.aU.bM+(km n).bM,n.aU.bE+(km n).bE⟩))=some (0,n')/\n'.core=some c'/\gW n' k (b+1) []/\c'.aI.m=m/\c'.gZ=⟨none,0⟩/\gd n'=gd n/\(∀s:Int,bG m.W m.H s->(rd c'.hZ.parts s).version≠fA c'.aI s)/\n'.eh.count=n.eh.count:=by
  intro ep h0 h1;have hgn:I5 m ep=some (bt.mk m (ep+1) (List.replicate (dP m.W m.H).toNat (ep+1))):=by unfold I5;rw[af ⟨hm.ok,h0,by omega⟩]
  rw[abA m ep U,hgn];have Nf:=oQ m.W m.H;have hG:dA (bt.mk m (ep+1) (List.replicate (dP m.W m.H).toNat (ep+1))) 0:=⟨hm.ok,hm.sj,by simp;omega,by simp only;omega⟩
  have NN: ∀s:Int,bG m.W m.H s->fA (bt.mk m (ep+1) (List.replicate (dP m.W m.H).toNat (ep+1))) s=ep+1:=λs hs=>by
   unfold fA;rw[af hs];simp only;rw[vD hs.1 (by have:=hs.2;omega)]
  obtain⟨M,eM,hM,hM0,_,hMv⟩:=afK hG (λs hs=>by rw[NN s hs];omega)
  simp only[c_,aK,eM,sW.f,e];have ht:=h.j7;have hz:=h.z;have hpc:qg ⟨n.aU.bC+(km n).bC,n.aU.bD+(km n).bD,n.aU.bA+(km n).bA,n.aU.bx+(km n).bx,n.aU.bM+(km n).bM,n.aU.bE+(km n).bE⟩ (b+1):=by
   obtain⟨t1,t2,t3,t4,t5,t6⟩:=ht;obtain⟨s1,s2,s3,s4,s5,s6⟩:=h.sc;obtain⟨p1,p2,p3,p4,p5,p6⟩:=h.aU;obtain⟨v1,v2,v3,v4,v5,v6⟩:=FX;simp only[gd] at t1 t2 t3 t4 t5 t6;simp only[km] at v1 v2 v3 v4 v5 v6⊢;exact⟨by simp only;omega,by simp only;omega,by simp only;omega,by simp only;omega,by simp only;omega,by simp only;omega⟩
  have uU: ∀G,gd ⟨some ⟨G,M,⟨none,0⟩⟩,s,⟨n.aU.bC+(km n).bC,n.aU.bD+(km n).bD,n.aU.bA+(km n).bA,n.aU.bx+(km n).bx,n.aU.bM+(km n).bM,n.aU.bE+(km n).bE⟩⟩=gd n:=λG=>by simp only[gd,ko,hM0,km];congr 1<;>omega
  refine⟨_,_,J,J,⟨hs,hpc,by rw[ko];exact h.sc.mono U,by rw[ko];exact h.z,by rw[uU];exact ht.mono U,λz=>by simp at z,λc' jX=>?_⟩,J,J,uU _,λs hs=>?_,ko⟩
  ·simp only[Option.some.injEq] at jX;subst jX;refine⟨⟨hG,JA,λs hs=>?_,by simp only;omega,hM,⟨λR hR=>by simp at hR,by simp⟩⟩,by simp only;omega,by simp only;omega,Bm.empty _ hs hf⟩
   rw[NN s hs];simp only;omega
  ·simp only;rw[hMv s hs,NN s hs];omega
 unfold xo.f;rw[Qh m U,decide_eq_true hm.ok];simp only[aK,Bool.not_true,Bool.false_eq_true,if_false];rw[QP,aK,aek,aK]
 cases hc:n.core with
 |none=>exact key 0 (Int.le_refl _) hb.1
 |some c=>
  obtain⟨h1,_⟩:=h.core c hc;have:=h1.gs.ep;exact key c.aI.bL U h1.ep
end
end
section
variable {g : bt} {more : Int}
theorem NY (h:dA g more) {c v:Int} (hc:cO g.m c) {d:Int} (d0:0<=d):rd (mw g c v).m.C d=if d=c then v else rd g.m.C d:=by
 have hl:=h.ok.2.1;exact kV hc.1 (by rw[hl];exact hc.2) d0
theorem Ur (h:dA g more) {c v:Int} (hc:cO g.m c) {s:Int} (hs:bG g.m.W g.m.H s) (bH:s≠aX g.m.W g.m.H c):fD (mw g c v).m s=fD g.m s:=by
 have hz:=zq g.m.W g.m.H s
 show aJ.mk _ _ _=aJ.mk _ _ _
 congr 1
 unfold kD;refine List.map_congr_left λl hl=>?_
 have hl:l<((ax g.m.W g.m.H s).1*(ax g.m.W g.m.H s).2).toNat:=List.mem_range.1 hl;have cu:=Aa hs (l:=(l:Int)) U U;have yL:=KC hs (l:=(l:Int)) U U
 show rd (mw g c v).m.C (de g.m.W g.m.H s l)=_
 rw[NY h hc cu.1,ah (λz=>bH (by rw[<-z,yL]))]
theorem aae {w h s c:Int} (hc:c∈qJ w h s):0<=c/\bG w h s/\aX w h c=s:=by
 unfold qJ vM at hc;obtain⟨l,hl,rfl⟩:=List.mem_map.mp hc;have hz:=zq w h s;have kl:=List.mem_range.mp (List.mem_filter.mp hl).1;have hs:=O1 (w:=w) (h:=h) (s:=s) (l:=(l:Int)) U U;exact⟨(Aa hs U U).1,hs,KC hs U U⟩
theorem afd (h:dA g more) {c v:Int} (hc:cO g.m c) {s:Int} (bH:s≠aX g.m.W g.m.H c):bI (mw g c v).m s=bI g.m s:=by
 unfold bI;refine List.filter_congr λd hd=>?_
 obtain⟨d0,_,d2⟩:=aae hd;have hd2:aX g.m.W g.m.H d=s:=d2;unfold lV;rw[NY h hc d0,ah (λz=>bH (by rw[<-z];exact hd2.symm))]
 rfl
theorem NZ (h:dA g more) {c v:Int} (hc:cO g.m c) {s:Int} (hs:bG g.m.W g.m.H s):fA (mw g c v) s=if s=aX g.m.W g.m.H c then g.bL+1 else fA g s:=by
 have ni:=vS (o0 h.ok hc);have TS:=h.vs;have e:fA (mw g c v) s=rd (List.set g.pz (aX g.m.W g.m.H c).toNat (g.bL+1)) s:=by unfold fA;exact af hs
 rw[e,kV ni.1 (by rw[TS];exact ni.2) hs.1]
 split
 ·rfl
 ·unfold fA;rw[af hs]
variable {n : bY} {k b : Int} {ord : List Int}
theorem af1 {c:eI} (h:gW n k b ord) (hb:0<=b/\b<=100000000000) (hc:n.core=some c) {x v:Int} (hx:cO c.aI.m x) (v1:1<=v) (v2:v<=255):
 ∃n',xk.f n x v=some (0,n')/\n'.core=some ⟨mw c.aI x v,c.hZ,c.gZ⟩/\n'.eh=n.eh/\n'.aU=n.aU/\gW n' k (b+1) ord/\gd n'=gd n:=by
 obtain⟨gy,TA,Np,tV⟩:=h.core c hc;have hG:=gy.gs;have Nn:=hG.ep;have ajy:=gy.ep;have hG1:dA c.aI 1:=⟨hG.ok,hG.sj,hG.vs,by omega⟩
 have hG':=afe hG1 (Int.le_refl 1) hx v1 v2;unfold xk.f;rw[hc];simp only[c_];rw[aaX hG];have e:I4 c.aI x v=(0,mw c.aI x v):=by unfold I4;rw[ah (λq=>q hx),ah U]
 rw[e];have part: ∀s p,bG c.aI.m.W c.aI.m.H s->s≠aX c.aI.m.W c.aI.m.H x->Bk c.aI.m s p->Bk (mw c.aI x v).m s p:=λs p hs bH hp=>by
  have e1:=afd (v:=v) hG hx bH;have e2:=Ur (v:=v) hG hx hs bH;refine⟨by rw[e1];exact hp.nodes,by rw[e1];exact hp.len_,?_⟩
  rw[e1,e2];exact hp.QQ
 have uU: ∀G,gd ⟨some ⟨G,c.hZ,c.gZ⟩,n.eh,n.aU⟩=gd n:=λG=>by simp[gd,hc]
 refine⟨_,J,J,J,J,⟨h.mC,h.aU.mono U,h.sc.mono U,h.z,by rw[uU];exact h.j7.mono U,λz=>by simp at z,λc' jX=>?_⟩,uU _⟩
 simp only[Option.some.injEq] at jX;subst jX;have vb:(mw c.aI x v).bL=c.aI.bL+1:=rfl;refine⟨⟨hG',gy.jd,λs hs=>?_,by rw[vb];omega,⟨gy.ms.len_,λs hs=>?_,λs hs e=>?_,λe=>?_,?_,gy.ms.eH⟩,⟨λR hR=>?_,gy.fs.eH⟩⟩,by simp only;omega,by simp only;omega,⟨tV.mC,tV.fl,λd d0 d1=>?_⟩⟩
 ·have fJ:bG c.aI.m.W c.aI.m.H s:=hs;have:=gy.EH s fJ;simp only[vb];rw[NZ hG hx fJ];split<;>omega
 ·have:=gy.ms.le s hs;simp only[vb];omega
 ·have fJ:bG c.aI.m.W c.aI.m.H s:=hs;have hle:=gy.ms.le s fJ;simp only at e⊢;rw[NZ hG hx fJ] at e
  by_cases z:s=aX c.aI.m.W c.aI.m.H x
  ·rw[af z] at e;omega
  ·rw[ah z] at e;exact part s _ fJ z (gy.ms.ok s fJ e)
 ·have:=gy.ms.LZ;simp only[vb] at e;omega
 ·have:=gy.ms.LZ;simp only[vb];omega
 ·obtain⟨k1,k2,k3⟩:=gy.fs.kept R hR;exact⟨k1,by simp only[vb];omega,λe=>by simp only[vb] at e;omega⟩
 ·obtain⟨s1,s2,s3,s4⟩:=tV.ok d d0 d1;refine⟨s1,s2,by simp only[vb];omega,λe=>?_⟩
  simp only at e⊢;rw[NZ hG hx s2] at e
  by_cases z:(rd n.eh.keys.ak d).key.2=aX c.aI.m.W c.aI.m.H x
  ·rw[af z] at e;omega
  ·rw[ah z] at e;have:=s4 e;rw[Ur hG hx s2 z];exact this
theorem af9 {c:eI} (h:gW n k b ord) (hb:0<=b/\b<=100000000000) (hc:n.core=some c) (goal x:Int):
 Ok (xp.f n goal x) (λr=>(cO c.aI.m goal/\cO c.aI.m x/\r.2.2.1=0/\ ∃f,Dc n k b ord c goal (aX c.aI.m.W c.aI.m.H x) (f,Er.nil,r.2.2.2)/\r.1=rd f.fa (du c.aI.m.W c.aI.m.H x)/\r.2.1=rd f.cz (du c.aI.m.W c.aI.m.H x))∨
  (¬(cO c.aI.m goal/\cO c.aI.m x)/\r.2.2.1=7/\r.2.2.2=n)):=by
 obtain⟨gy,_⟩:=h.core c hc;have hG:=gy.gs;unfold xp.f y6.f;rw[UR hc,aK,tj,aK];simp only
 by_cases z:cO c.aI.m goal/\cO c.aI.m x
 ·have hs:=vS (o0 hG.ok z.2);have lS:=CM hG z.2;refine Ok.bind (P:=λr=>r.2.2.1=Er.nil/\ ∃f,Dc n k b ord c goal (aX c.aI.m.W c.aI.m.H x) (f,Er.nil,r.2.2.2)/\r.1=rd f.fa (du c.aI.m.W c.aI.m.H x)/\r.2.1=rd f.cz (du c.aI.m.W c.aI.m.H x)) ((UN h hb hc z.1 hs).bind λr hr=>?_) λr hr=>?_
  ·obtain⟨f,e,n'⟩:=r;have he:=hr.err;simp only at he;subst he;obtain⟨R,l,c',qF,_,_,_,_,_,hF,_⟩:=hr.Dy;simp only at hF⊢;refine Ok.neg (by simp[Er.isNil]) (Ok.eq (Gx ..) (Ok.cx (by rw[hF.aQ.dl];exact⟨lS.1,lS.2.1⟩) (Ok.cx (by rw[hF.dl];exact⟨lS.1,lS.2.1⟩) (Ok.pure ⟨J,f,hr,J,J⟩))))
  ·rw[hr.1];exact Ok.eq UM (Ok.pure (.inl ⟨z.1,z.2,J,hr.2⟩))
 ·have gz: ¬(cO c.aI.m goal/\bG c.aI.m.W c.aI.m.H (aX c.aI.m.W c.aI.m.H x)):=λy=>z ⟨y.1,by
   have jX:bU c.aI.m.W c.aI.m.H x:=Classical.byContradiction λw=>by
    have:=zn.2 w;have:=y.2.1;omega
   exact jX.2⟩
  rw[af6 h hc gz];refine Ok.bind (P:=λr=>r.2.2.1=Er.wrap 222 [goal] (Er.dS 3)/\r.2.2.2=n) (Ok.eq J (Ok.pos J (Ok.pure ⟨J,J⟩))) λr hr=>?_
  rw[hr.1];exact Ok.eq (afY goal) (Ok.pure (.inr ⟨z,J,hr.2⟩))
end
def K9 (w h:Int) (l:List aF) (j:Int):Prop:=
 (if j=0 then-1 else(rd l (j-1)).Id)<(rd l j).Id/\bU w h (rd l j).Cell/\bU w h (rd l j).Goal/\ ∀q,0<=q->q<j->(rd l q).Cell≠(rd l j).Cell
def il (w h:Int) (l:List aF):Prop:=iA w h/\ ∀j:Int,0<=j->j<l.length->K9 w h l j
theorem afy {w h:Int} {l:List aF} (hb:l.length<=4611686018427387000): ∀(n k:Nat) (i:Int) (m:List (Int×Bool)),i+n=l.length->0<=i->n<k->
 (∀c,aO m c=true↔ ∃q,0<=q/\q<i/\(rd l q).Cell=c)->
 ∃r,pj.l0 k w h l (if i=0 then-1 else(rd l (i-1)).Id) m i=some r/\(r=true↔ ∀j,i<=j->j<l.length->K9 w h l j):=by
 intro n
 induction n with
 |zero=>
  intro k i m hi h0 hk hm;obtain⟨k,rfl⟩:=bh hk;exact⟨true,by rw[pj.l0,ah U],⟨λ_ j j0 j1=>by omega,λ_=>rfl⟩⟩
 |succ n ih=>
  intro k i m hi h0 hk hm;obtain⟨k,rfl⟩:=bh hk;rw[pj.l0,af U,af U];simp only[tj,aK]
  by_cases g:K9 w h l i
  ·obtain⟨g1,g2,g3,g4⟩:=g;have BZ:aO m (rd l i).Cell=false:=by
    rw[Bool.eq_false_iff];intro q;obtain⟨z,z0,z1,z2⟩:=(hm _).1 q;exact g4 z z0 z1 z2
   have s1: ¬aX w h (rd l i).Cell<0:=λq=>zn.1 q g2
   have s2: ¬aX w h (rd l i).Goal<0:=λq=>zn.1 q g3
   rw[ah U,ah s1,ah s2,BZ];simp only[aK,Bool.false_eq_true,if_false];rw[wi U U];obtain⟨r,r1,r2⟩:=ih k (i+1) (cC m (rd l i).Cell true) U U U (λc=>by
    rw[sM]
    by_cases e:(rd l i).Cell=c
    ·rw[af e];exact⟨λ_=>⟨i,h0,by omega,e⟩,λ_=>rfl⟩
    ·rw[ah e,hm c];constructor
     ·rintro⟨q,q0,q1,q2⟩;exact⟨q,q0,by omega,q2⟩
     ·rintro⟨q,q0,q1,q2⟩
      by_cases z:q=i
      ·subst z;exact absurd q2 e
      ·exact⟨q,q0,by omega,q2⟩)
   rw[ah U,show i+1-1=i by omega] at r1
   refine⟨r,r1,r2.trans ⟨λq j j0 j1=>?_,λq j j0 j1=>q j U j1⟩⟩
   by_cases z:j=i
   ·subst z;exact⟨g1,g2,g3,g4⟩
   ·exact q j U j1
  ·have hf: ∀last,last=(if i=0 then-1 else(rd l (i-1)).Id)->((if(rd l i).Id<=last then(some true) else(if aX w h (rd l i).Cell<0 then(some true) else(if aX w h (rd l i).Goal<0 then(some true) else(some (aO m (rd l i).Cell))))):Option Bool)=some true:=by
    intro last hla
    by_cases a:(rd l i).Id<=last
    ·rw[af a]
    ·rw[ah a]
     by_cases b:aX w h (rd l i).Cell<0
     ·rw[af b]
     ·rw[ah b]
      by_cases c:aX w h (rd l i).Goal<0
      ·rw[af c]
      ·rw[ah c]
       congr 1
       rw[hm];refine Classical.byContradiction λq=>g ⟨by rw[<-hla];omega,Classical.byContradiction λz=>b (zn.2 z),Classical.byContradiction λz=>c (zn.2 z),λz z0 z1 z2=>q ⟨z,z0,z1,z2⟩⟩
   rw[hf _ J];simp only[aK,if_true];exact⟨false,J,⟨λq=>(by cases q),λq=>absurd (q i U U) g⟩⟩
theorem Vi {w h:Int} {l:List aF} (hb:l.length<=4611686018427387000): ∃r,pj.f w h l=some r/\(r=true↔il w h l):=by
 unfold pj.f;rw[AA,aK]
 by_cases hm:iA w h
 ·rw[ah (by simpa using hm)]
  obtain⟨r,r1,r2⟩:=afy (w:=w) (h:=h) hb l.length fuel 0 [] U U (by rw[cH];omega) (λc=>by
   constructor
   ·intro q;simp[aO,cY] at q
   ·rintro⟨q,q0,q1,_⟩;omega)
  rw[af J] at r1;exact⟨r,r1,r2.trans ⟨λq=>⟨hm,q⟩,λq=>q.2⟩⟩
 ·rw[af (by rw[decide_eq_false hm];rfl)]
  exact⟨false,J,⟨λq=>(by cases q),λq=>absurd q.1 hm⟩⟩
theorem il.cell {w h:Int} {l:List aF} (hm:il w h l) {j:Int} (j0:0<=j) (j1:j<l.length):bU w h (rd l j).Cell:=(hm.2 j j0 j1).2.1
theorem il.apart {w h:Int} {l:List aF} (hm:il w h l) {i j:Int} (i0:0<=i) (i1:i<l.length) (j0:0<=j) (j1:j<l.length) (rE:i≠j):(rd l i).Cell≠(rd l j).Cell:=by
 rcases Int.lt_or_gt_of_ne rE with q |q
 ·exact(hm.2 j j0 j1).2.2.2 i i0 q
 ·exact λe=>(hm.2 i i0 i1).2.2.2 j j0 q e.symm
theorem il.ids {w h:Int} {l:List aF} (hm:il w h l): ∀(n:Nat) (i j:Int),j=i+n->0<=i->0<n->j<l.length->(rd l i).Id<(rd l j).Id:=by
 intro n
 induction n with
 |zero=>intro i j _ _ h;omega
 |succ n ih=>
  intro i j hj i0 _ j1;have h1:=(hm.2 j U j1).1;rw[ah U] at h1
  by_cases hn:n=0
  ·have:j-1=i:=U;rw[this] at h1;exact h1
  ·have:=ih i (j-1) U i0 U U;omega
theorem il.B6 {w h:Int} {l:List aF} (hm:il w h l) {i j:Int} (i0:0<=i) (rE:i<j) (j1:j<l.length):(rd l i).Id<(rd l j).Id:=
 hm.ids (j-i).toNat i j U i0 U j1
def tM:List Int->List aF->List Int
 |acc,[]=>acc
 |acc,u::r=>tM (if u.Goal∈acc then acc else acc++[u.Goal]) r
def lN (l:List aF):List Int:=tM [] l
theorem RD: ∀(l:List aF) (acc:List Int),(tM acc l).length<=acc.length+l.length
 |[],acc=>by simp[tM]
 |u::r,acc=>by
  have:=RD r (if u.Goal∈acc then acc else acc++[u.Goal])
  simp only[tM,List.length_cons];split at this<;>rename_i h
  ·rw[af h];omega
  ·rw[ah h];simp only[List.length_append,List.length_cons,List.length_nil] at this;omega
theorem RE: ∀(l:List aF) (acc:List Int) (g:Int),g∈tM acc l↔g∈acc∨ ∃u∈l,u.Goal=g
 |[],acc,g=>by simp[tM]
 |u::r,acc,g=>by
  simp only[tM];rw[RE r _ g]
  by_cases h:u.Goal∈acc
  ·rw[af h];constructor
   ·rintro(q |⟨x,x1,x2⟩)
    ·exact .inl q
    ·exact .inr ⟨x,List.mem_cons_of_mem _ x1,x2⟩
   ·rintro(q |⟨x,x1,x2⟩)
    ·exact .inl q
    ·rcases List.mem_cons.1 x1 with rfl |x1
     ·exact .inl (x2▸h)
     ·exact .inr ⟨x,x1,x2⟩
  ·rw[ah h];constructor
   ·rintro(q |⟨x,x1,x2⟩)
    ·rcases List.mem_append.1 q with q |q
     ·exact .inl q
     ·exact .inr ⟨u,List.mem_cons_self ..,(List.mem_singleton.1 q).symm⟩
    ·exact .inr ⟨x,List.mem_cons_of_mem _ x1,x2⟩
   ·rintro(q |⟨x,x1,x2⟩)
    ·exact .inl (List.mem_append_left _ q)
    ·rcases List.mem_cons.1 x1 with rfl |x1
     ·exact .inl (List.mem_append_right _ (by simp[x2]))
     ·exact .inr ⟨x,x1,x2⟩
theorem RF: ∀(l:List aF) (acc:List Int),acc.Nodup->(tM acc l).Nodup
 |[],acc,h=>h
 |u::r,acc,h=>by
  simp only[tM];refine RF r _ ?_;split
  ·exact h
  ·rename_i q;rw[List.nodup_append];exact⟨h,by simp,λa ha b hb=>by simp at hb;subst hb;intro e;subst e;exact q ha⟩
theorem RH (l:List aF):(lN l).length<=l.length:=by
 have:=RD l [];unfold lN;simpa using this
theorem Mx (l:List aF):(lN l).Nodup:=RF l [] List.nodup_nil
theorem RI (l:List aF) (g:Int):g∈lN l↔ ∃u∈l,u.Goal=g:=by
 have:=RE l [] g;unfold lN;simpa using this
theorem agz {l:List aF} (hb:l.length<=1000000): ∀(n k:Nat) (i:Int) (acc:List Int) (m:List (Int×Bool)),i+n=l.length->0<=i->n<k->(acc.length:Int)<=i->
 (∀c,aO m c=true↔c∈acc)->nz.l0 k l acc m i=some (tM acc (l.drop i.toNat)):=by
 intro n
 induction n with
 |zero=>
  intro k i acc m hi h0 hk ha hm;obtain⟨k,rfl⟩:=bh hk;rw[nz.l0,ah U,List.drop_of_length_le U];rfl
 |succ n ih=>
  intro k i acc m hi h0 hk ha hm;obtain⟨k,rfl⟩:=bh hk;rw[nz.l0,af U,af U,BH h0 U];simp only[tM]
  by_cases h:(rd l i).Goal∈acc
  ·rw[ah (by rw[(hm _).2 h];decide),af h,wi U U]
   exact ih k (i+1) acc m U U U U hm
  ·have:aO m (rd l i).Goal=false:=by rw[Bool.eq_false_iff];exact λq=>h ((hm _).1 q)
   rw[af (by rw[this];rfl),ah h,af U,wi U U]
   refine ih k (i+1) _ _ U U U bl (λc=>?_);rw[sM]
   by_cases e:(rd l i).Goal=c
   ·rw[af e];simp[e]
   ·rw[ah e,hm c];simp[Ne.symm e]
theorem agy {l:List aF} (hb:l.length<=1000000):nz.f l=some (lN l):=by
 unfold nz.f;have:=agz hb l.length fuel 0 [] [] U U (by rw[cH];omega) bk (λc=>by simp[aO,cY])
 unfold lN;simpa using this
def jr:List cg->Int->Int->Int->List cg
 |[],g,s,id=>[⟨g,s,[id]⟩]
 |p::r,g,s,id=>if p.eT=s then⟨p.Goal,p.eT,p.cW++[id]⟩::r else p::jr r g s id
def fp:List cg->Int->Nat
 |[],_=>0
 |p::r,s=>if p.eT=s then 0 else fp r s+1
def f_ (w h g:Int):List aF->List cg->List cg
 |[],ps=>ps
 |u::r,ps=>f_ w h g r (if u.Goal=g then jr ps g (aX w h u.Cell) u.Id else ps)
def jL (w h:Int) (l:List aF):List cg:=(lN l).flatMap λg=>f_ w h g l []
theorem rd0 {α:Type} [Inhabited α] (x:α) (l:List α):rd (x::l) 0=x:=rfl
theorem OA {α:Type} [Inhabited α] (x:α) (l:List α) (n:Nat):rd (x::l) ((n+1:Nat):Int)=rd l (n:Int):=OB x l n
theorem Ot: ∀(ps:List cg) (s:Int),fp ps s<=ps.length
 |[],_=>by simp[fp]
 |p::r,s=>by have:=Ot r s;simp only[fp,List.length_cons];split<;>omega
theorem PN: ∀(ps:List cg) (g s id:Int),fp ps s<ps.length->
 jr ps g s id=ps.set (fp ps s) ⟨(rd ps (fp ps s:Int)).Goal,(rd ps (fp ps s:Int)).eT,(rd ps (fp ps s:Int)).cW++[id]⟩
 |[],_,_,_,h=>by simp at h
 |p::r,g,s,id,h=>by
  simp only[jr,fp]
  by_cases e:p.eT=s
  ·rw[af e,af e];rfl
  ·simp only[fp,ah e,List.length_cons] at h;rw[ah e,ah e,PN r g s id U,OA];rfl
theorem PR: ∀(ps:List cg) (g s id:Int),fp ps s=ps.length->jr ps g s id=ps++[⟨g,s,[id]⟩]
 |[],_,_,_,_=>rfl
 |p::r,g,s,id,h=>by
  simp only[jr]
  by_cases e:p.eT=s
  ·simp only[fp,af e,List.length_cons] at h;omega
  ·simp only[fp,ah e,List.length_cons] at h;rw[ah e,PR r g s id U];rfl
theorem PQ: ∀(ps:List cg) (g s id:Int),(jr ps g s id).length<=ps.length+1/\ps.length<=(jr ps g s id).length
 |[],_,_,_=>by simp[jr]
 |p::r,g,s,id=>by have:=PQ r g s id;simp only[jr];split<;>simp<;>omega
def kT:List cg->Nat
 |[]=>0
 |p::r=>p.cW.length+kT r
theorem agv (a b:List cg):kT (a++b)=kT a+kT b:=by
 induction a with
 |nil=>simp[kT]
 |cons p r ih=>simp[kT,ih];omega
theorem Lu: ∀(ps:List cg) (g s id:Int),kT (jr ps g s id)=kT ps+1
 |[],_,_,_=>by simp[jr,kT]
 |p::r,g,s,id=>by have:=Lu r g s id;simp only[jr];split<;>simp[kT]<;>omega
theorem Vg: ∀(ps:List cg) (i:Int),0<=i->i<ps.length->(rd ps i).cW.length<=kT ps:=by
 intro ps
 induction ps with
 |nil=>intro i h0 h1;simp at h1;omega
 |cons p r ih=>
  intro i h0 h1;simp only[List.length_cons] at h1
  by_cases e:i=0
  ·subst e;rw[rd0];simp[kT]
  ·have:=ih (i-1) U U;have e2:i=(((i-1).toNat+1:Nat):Int):=U;rw[e2,OA,show(((i-1).toNat:Nat):Int)=i-1 by omega]
   simp only[kT];omega
theorem RK (w h g:Int): ∀(l m:List aF) (ps:List cg),f_ w h g (l++m) ps=f_ w h g m (f_ w h g l ps)
 |[],m,ps=>rfl
 |u::r,m,ps=>by simp only[List.cons_append,f_];exact RK w h g r m _
theorem MA (w h g:Int): ∀(l:List aF) (ps:List cg),(f_ w h g l ps).length<=ps.length+l.length/\kT (f_ w h g l ps)<=kT ps+l.length
 |[],ps=>by simp[f_]
 |u::r,ps=>by
  have h1:=MA w h g r (if u.Goal=g then jr ps g (aX w h u.Cell) u.Id else ps)
  have h2:=PQ ps g (aX w h u.Cell) u.Id;have h3:=Lu ps g (aX w h u.Cell) u.Id;simp only[f_,List.length_cons]
  by_cases e:u.Goal=g
  ·rw[af e] at h1⊢;omega
  ·rw[ah e] at h1⊢;omega
structure PI (w h:Int) (l:List aF) (i:Int) (m:List (Int×List cg)) (at':List ((Int×Int)×Int)):Prop where
 of: ∀g,aO m g=f_ w h g (l.take i.toNat) []
 has: ∀g s,bQ at' (g,s)=true↔fp (f_ w h g (l.take i.toNat) []) s<(f_ w h g (l.take i.toNat) []).length
 place: ∀g s,bQ at' (g,s)=true->aO at' (g,s)=(fp (f_ w h g (l.take i.toNat) []) s:Int)
theorem Vd: ∀(ps:List cg) (g s:Int) (ids:List Int) (t:Int),fp ps s=ps.length->fp (ps++[⟨g,s,ids⟩]) t=if t=s then ps.length else fp ps t+if fp ps t=ps.length then 1 else 0:=by
 intro ps
 induction ps with
 |nil=>intro g s ids t h;simp[fp];split<;>split<;>(try omega)<;>simp_all
 |cons p r ih=>
  intro g s ids t h
  by_cases e:p.eT=s
  ·simp only[fp,af e,List.length_cons] at h;omega
  ·simp only[fp,ah e,List.length_cons] at h;have hih:=ih g s ids t U;rw[List.cons_append,List.length_cons]
   by_cases y:p.eT=t
   ·have a1:fp (p::(r++[(⟨g,s,ids⟩:cg)])) t=0:=af y;have a2:fp (p::r) t=0:=af y;have z: ¬t=s:=λq=>e (y.trans q);rw[a1,a2,ah z,ah U]
   ·have a1:fp (p::(r++[(⟨g,s,ids⟩:cg)])) t=fp (r++[(⟨g,s,ids⟩:cg)]) t+1:=ah y;have a2:fp (p::r) t=fp r t+1:=ah y;rw[a1,a2,hih]
    by_cases z:t=s
    ·rw[af z,af z]
    ·rw[ah z,ah z]
     by_cases x:fp r t=r.length
     ·rw[af x,af U]
     ·rw[ah x,ah U]
theorem Ve: ∀(ps:List cg) (j:Nat) (q:cg) (t:Int),j<ps.length->q.eT=(rd ps (j:Int)).eT->fp (ps.set j q) t=fp ps t:=by
 intro ps
 induction ps with
 |nil=>intro j q t h;simp at h
 |cons p r ih=>
  intro j q t h hq
  cases j with
  |zero=>simp only[List.set_cons_zero,fp];rw[hq];rfl
  |succ j=>
   simp only[List.set_cons_succ,fp];rw[ih j q t (by simpa using h) (by rw[OA] at hq;exact hq)]
theorem afF {m:List (Int×List cg)} {g:Int} (h:aO m g≠[]):bQ m g=true:=by
 unfold bQ;unfold aO at h
 cases e:cY m g with
 |none=>rw[e] at h;exact absurd J h
 |some _=>rfl
theorem UI {m:List (Int×List cg)} {g:Int} (v:List cg) (h:bQ m g=true) (g':Int):aO (sL m g v) g'=if g=g' then v else aO m g':=by
 unfold sL;rw[af h,sM]
theorem aiP {w h:Int} {l:List aF} {i:Int} (h0:0<=i) (h1:i<l.length) (g:Int):
 f_ w h g (l.take (i+1).toNat) []=if(rd l i).Goal=g then jr (f_ w h g (l.take i.toNat) []) g (aX w h (rd l i).Cell) (rd l i).Id else f_ w h g (l.take i.toNat) []:=by
 rw[HE h0 h1,RK];rfl
theorem pl1 {w h:Int} {l:List aF} (hb:l.length<=1000000) {m:List (Int×List cg)} (hm: ∀g,aO m g=f_ w h g l []): ∀(n k:Nat) (i:Int) (gone:List Int) (out:List cg),i+n=(lN l).length->0<=i->n<k->
 (∀g,g∈gone↔g∈(lN l).take i.toNat)->(out.length:Int)<=i*1000000->j3.l1 k (lN l) m gone out i=some (out++((lN l).drop i.toNat).flatMap λg=>f_ w h g l []):=by
 have hg:=RH l;have qx:=Mx l;intro n
 induction n with
 |zero=>
  intro k i gone out hi h0 hk ho hl;obtain⟨k,rfl⟩:=bh hk;rw[j3.l1,ah U,List.drop_of_length_le U];simp
 |succ n ih=>
  intro k i gone out hi h0 hk ho hl;obtain⟨k,rfl⟩:=bh hk;have hlen:=MA w h (rd (lN l) i) l [];simp only[List.length_nil,Nat.zero_add,show kT ([]:List cg)=0 from rfl] at hlen
  have hmul:i*1000000+1000000<=1000000000000:=U;rw[j3.l1,af U,af U,af,hm,af U,wi U U,BH h0 U]
  ·rw[ih k (i+1) _ _ U U U ?_ ?_]
   ·simp
   ·intro g;rw[HE h0 U];simp only[List.mem_cons,List.mem_append,List.not_mem_nil,or_false,ho g];exact or_comm
   ·simp only[List.length_append];omega
  ·rw[ho];intro cu;obtain⟨j,j0,j1,j2⟩:=jJ cu;simp only[List.length_take] at j1;have e1:rd ((lN l).take i.toNat) j=rd (lN l) j:=by
    unfold rd;rw[List.getD_eq_getElem?_getD,List.getD_eq_getElem?_getD,List.getElem?_take_of_lt U]
   rw[e1] at j2;have:=sT qx (i:=j) (j:=i) j0 U U;exact this j2
theorem pl0 {w h:Int} {l:List aF} (hb:l.length<=1000000): ∀(n k:Nat) (i:Int) (m:List (Int×List cg)) (at':List ((Int×Int)×Int)),i+n=l.length->0<=i->n<k->
 PI w h l i m at'->j3.l0 k w h l m at' i=some (jL w h l):=by
 intro n
 induction n with
 |zero=>
  intro k i m at' hi h0 hk hp;obtain⟨k,rfl⟩:=bh hk;rw[j3.l0,ah U,agy hb,aK];have hg:=RH l;have:=pl1 (w:=w) (h:=h) hb (m:=m) (λg=>by rw[hp.of g,List.take_of_length_le U]) (lN l).length fuel 0 [] [] U U (by rw[cH];omega) (λg=>by simp) bk
  simpa[jL] using this
 |succ n ih=>
  intro k i m at' hi h0 hk hp;obtain⟨k,rfl⟩:=bh hk;rw[j3.l0,af U,af U,tj,aK];have An:=hp.of;have hlen:=λg=>MA w h g (l.take i.toNat) [];simp only[List.length_nil,Nat.zero_add,List.length_take] at hlen;generalize hg:(rd l i).Goal=g0 at*;generalize hs:aX w h (rd l i).Cell=s0 at*;have hL:=hlen g0;generalize od:f_ w h g0 (l.take i.toNat) []=ps at*;have hT: ∀g,f_ w h g (l.take (i+1).toNat) []=if g0=g then jr ps g0 s0 (rd l i).Id else f_ w h g (l.take i.toNat) []:=λg=>by
   rw[aiP h0 U,hg,hs]
   by_cases e:g0=g
   ·subst e;rw[af rfl,af rfl,od]
   ·rw[ah e,ah e]
  have ajG:kT ([]:List cg)=0:=rfl
  by_cases Ai:bQ at' (g0,s0)=true
  ·have cu:=(hp.has g0 s0).1 Ai;have mB:=hp.place g0 s0 Ai;rw[od] at cu mB;rw[ah (by rw[Ai];decide)]
   simp only[aK];rw[mB,An g0,od,af U];have DR:=Vg ps (fp ps s0) U U;rw[af U];simp only[aK];rw[wi U U];have Nz:bQ m g0=true:=afF (by rw[An g0,od];intro e;rw[e] at cu;simp at cu)
   have ea:=PN ps g0 s0 (rd l i).Id cu;rw[show((fp ps s0:Int)).toNat=fp ps s0 by omega]
   refine ih k (i+1) _ _ U U U ⟨λg=>?_,λg s=>?_,λg s hh=>?_⟩
   ·rw[UI _ Nz,hT]
    by_cases e:g0=g
    ·rw[af e,af e,ea]
    ·rw[ah e,ah e,An]
   ·rw[hT]
    by_cases e:g0=g
    ·subst e;rw[af J,ea,Ve _ _ _ _ cu (by rfl),List.length_set,hp.has g0 s,od]
    ·rw[ah e,hp.has]
   ·rw[hT]
    by_cases e:g0=g
    ·subst e;rw[af J,ea,Ve _ _ _ _ cu (by rfl),hp.place g0 s hh,od]
    ·rw[ah e,hp.place _ _ hh]
  ·have NF:fp ps s0=ps.length:=by
    have h1:=Ot ps s0;have h2: ¬fp ps s0<ps.length:=λq=>Ai ((hp.has g0 s0).2 (by rw[od];exact q))
    omega
   have Aj:bQ at' (g0,s0)=false:=by rw[Bool.eq_false_iff];exact Ai
   rw[af (by rw[Aj];rfl),An g0,od,af U]
   simp only[aK,sM,if_true];have hr:rd (ps++[(⟨g0,s0,[]⟩:cg)]) (ps.length:Int)=⟨g0,s0,[]⟩:=by rw[OC U U,af J]
   rw[hr,af bl,af bk];simp only[aK];rw[wi U U];have Nz:bQ (cC m g0 (ps++[(⟨g0,s0,[]⟩:cg)])) g0=true:=by rw[xh];simp
   have ea:=PR ps g0 s0 (rd l i).Id NF;have es:List.set (ps++[(⟨g0,s0,[]⟩:cg)]) (Int.toNat (ps.length:Int)) ⟨g0,s0,[]++[(rd l i).Id]⟩=ps++[⟨g0,s0,[(rd l i).Id]⟩]:=by
    rw[show((ps.length:Int)).toNat=ps.length by omega,List.set_append_right _ _ U];simp
   rw[es];refine ih k (i+1) _ _ U U U ⟨λg=>?_,λg s=>?_,λg s hh=>?_⟩
   ·rw[UI _ Nz,hT]
    by_cases e:g0=g
    ·rw[af e,af e,ea]
    ·rw[ah e,ah e,sM,ah e,An]
   ·rw[hT,xh]
    by_cases e:g0=g
    ·subst e;rw[af J,ea,Vd _ _ _ _ _ NF,List.length_append]
     by_cases z:s=s0
     ·subst z;simp
     ·have h1:=hp.has g0 s;have h2:=Ot ps s;rw[od] at h1;rw[ah z];simp only[Prod.mk.injEq,true_and,List.length_cons,List.length_nil,Bool.or_eq_true,decide_eq_true_eq,h1]
      by_cases y:fp ps s=ps.length
      ·rw[af y];omega
      ·rw[ah y];omega
    ·rw[ah e,<-hp.has];simp[e]
   ·rw[hT,sM]
    by_cases e:g0=g
    ·subst e;rw[af J,ea,Vd _ _ _ _ _ NF]
     by_cases z:s=s0
     ·subst z;simp
     ·have bH: ¬((g0,s0)=(g0,s)):=λq=>z (Prod.mk.inj q).2.symm;rw[ah bH,ah z];rw[xh] at hh;simp only[bH,decide_false,Bool.false_or] at hh;have h1:=(hp.has g0 s).1 hh;rw[od] at h1;rw[hp.place _ _ hh,od,ah U];rfl
    ·have bH: ¬((g0,s0)=(g,s)):=λq=>e (Prod.mk.inj q).1;rw[ah e,ah bH];rw[xh] at hh;simp only[bH,decide_false,Bool.false_or] at hh;exact hp.place _ _ hh
theorem agD {w h:Int} {l:List aF} (hb:l.length<=1000000) (hm:il w h l):j3.f w h l=some (jL w h l):=by
 obtain⟨r,r1,r2⟩:=Vi (w:=w) (h:=h) (l:=l) U;unfold j3.f;rw[r1,aK,ah (by rw[r2.2 hm];decide)]
 exact pl0 hb l.length fuel 0 [] [] U U (by rw[cH];omega) ⟨λg=>by simp[aO,cY,f_];rfl,λg s=>by simp[bQ,cY,f_,fp],λg s hh=>by simp[bQ,cY] at hh⟩
structure GI (w h g:Int) (l:List aF) (ps:List cg):Prop where
 goal: ∀p∈ps,p.Goal=g
 apart:ps.Pairwise λa b=>a.eT≠b.eT
 some_: ∀p∈ps,p.cW≠[]
 of: ∀p∈ps,∀id∈p.cW,∃u∈l,u.Id=id/\u.Goal=g/\aX w h u.Cell=p.eT
 up: ∀p∈ps,p.cW.Pairwise (· < ·)
theorem E7: ∀(ps:List cg) (g s id:Int) (p:cg),p∈jr ps g s id->p∈ps∨p=⟨g,s,[id]⟩∨ ∃q∈ps,q.eT=s/\p=⟨q.Goal,q.eT,q.cW++[id]⟩
 |[],g,s,id,p,h=>by simp only[jr,List.mem_singleton] at h;exact .inr (.inl h)
 |q::r,g,s,id,p,h=>by
  simp only[jr] at h;split at h
  ·rename_i e;rcases List.mem_cons.1 h with h |h
   ·exact .inr (.inr ⟨q,List.mem_cons_self ..,e,h⟩)
   ·exact .inl (List.mem_cons_of_mem _ h)
  ·rcases List.mem_cons.1 h with h |h
   ·exact .inl (h▸List.mem_cons_self ..)
   ·rcases E7 r g s id p h with h |h |⟨z,h1,h2⟩
    ·exact .inl (List.mem_cons_of_mem _ h)
    ·exact .inr (.inl h)
    ·exact .inr (.inr ⟨z,List.mem_cons_of_mem _ h1,h2⟩)
theorem PS: ∀(ps:List cg) (g s id:Int),(jr ps g s id).map (·.eT)=if s∈ps.map (·.eT) then ps.map (·.eT) else ps.map (·.eT)++[s]
 |[],g,s,id=>by simp[jr]
 |q::r,g,s,id=>by
  have:=PS r g s id;simp only[jr]
  by_cases e:q.eT=s
  ·rw[af e];simp[e]
  ·rw[ah e];simp only[List.map_cons,this,List.mem_cons]
   by_cases z:s∈r.map (·.eT)
   ·rw[af z,af (.inr z)]
   ·rw[ah z,ah (by rintro(y |y);exact e y.symm;exact z y)];rfl
theorem GI.step {w h g:Int} {l:List aF} {ps:List cg} {u:aF} (hi:GI w h g l ps) (hu: ∀x∈l,x.Id<u.Id) (hg:u.Goal=g):GI w h g (l++[u]) (jr ps g (aX w h u.Cell) u.Id):=by
 refine⟨λp hp=>?_,?_,λp hp=>?_,λp hp id l_=>?_,λp hp=>?_⟩
 ·rcases E7 _ _ _ _ _ hp with q |q |⟨z,z1,z2,z3⟩
  ·exact hi.goal p q
  ·rw[q]
  ·rw[z3];exact hi.goal z z1
 ·have h1:(ps.map (·.eT)).Pairwise (· ≠ ·):=List.pairwise_map.2 hi.apart;have h2:((jr ps g (aX w h u.Cell) u.Id).map (·.eT)).Pairwise (· ≠ ·):=by
   rw[PS];split
   ·exact h1
   ·rename_i z;rw[List.pairwise_append];exact⟨h1,by simp,λa ha b hb=>by simp at hb;subst hb;intro e;subst e;exact z ha⟩
  exact List.pairwise_map.1 h2
 ·rcases E7 _ _ _ _ _ hp with q |q |⟨z,z1,z2,z3⟩
  ·exact hi.some_ p q
  ·rw[q];simp
  ·rw[z3];simp
 ·rcases E7 _ _ _ _ _ hp with q |q |⟨z,z1,z2,z3⟩
  ·obtain⟨x,x1,x2⟩:=hi.of p q id l_;exact⟨x,List.mem_append_left _ x1,x2⟩
  ·subst q;simp only[List.mem_singleton] at l_;exact⟨u,by simp,l_.symm,hg,J⟩
  ·subst z3;rcases List.mem_append.1 l_ with y |y
   ·obtain⟨x,x1,x2⟩:=hi.of z z1 id y;exact⟨x,List.mem_append_left _ x1,x2⟩
   ·simp only[List.mem_singleton] at y;exact⟨u,by simp,y.symm,hg,z2.symm⟩
 ·rcases E7 _ _ _ _ _ hp with q |q |⟨z,z1,z2,z3⟩
  ·exact hi.up p q
  ·rw[q];simp
  ·rw[z3];simp only;rw[List.pairwise_append];refine⟨hi.up z z1,by simp,λa ha b hb=>?_⟩
   simp at hb;subst hb;obtain⟨x,x1,x2,_⟩:=hi.of z z1 a ha;rw[<-x2];exact hu x x1
theorem GI.more {w h g:Int} {l:List aF} {ps:List cg} (hi:GI w h g l ps) (m:List aF):GI w h g (l++m) ps:=
 ⟨hi.goal,hi.apart,hi.some_,λp hp id l_=>by
   obtain⟨x,x1,x2⟩:=hi.of p hp id l_;exact⟨x,List.mem_append_left _ x1,x2⟩,hi.up⟩
theorem My {w h g:Int}: ∀(m l:List aF) (ps:List cg),GI w h g l ps->((l++m).map (·.Id)).Pairwise (· < ·)->GI w h g (l++m) (f_ w h g m ps)
 |[],l,ps,hi,_=>by simpa[f_] using hi
 |u::r,l,ps,hi,hp=>by
  have hu: ∀x∈l,x.Id<u.Id:=λx hx=>by
   rw[List.map_append,List.pairwise_append] at hp;exact hp.2.2 _ (List.mem_map_of_mem hx) _ bk
  have e:l++u::r=(l++[u])++r:=by simp
  rw[e] at hp⊢;simp only[f_]
  by_cases hg:u.Goal=g
  ·rw[af hg];exact My r _ _ (hi.step hu hg) hp
  ·rw[ah hg];exact My r _ _ (hi.more [u]) hp
theorem RL {w h g:Int}: ∀(m:List aF) (ps:List cg),kT (f_ w h g m ps)=kT ps+(m.filter λu=>decide (u.Goal=g)).length
 |[],ps=>by simp[f_]
 |u::r,ps=>by
  simp only[f_];rw[RL r]
  by_cases hg:u.Goal=g
  ·rw[af hg,Lu,List.filter_cons_of_pos (by simpa using hg)];simp;omega
  ·rw[ah hg,List.filter_cons_of_neg (by simpa using hg)]
theorem il.pair {w h:Int} {l:List aF} (hm:il w h l):(l.map (·.Id)).Pairwise (· < ·):=by
 rw[List.pairwise_map];exact OD (λi j i0 ij j1=>hm.B6 i0 ij j1)
theorem AH {w h:Int} {l:List aF} (hm:il w h l) (g:Int):GI w h g l (f_ w h g l []):=by
 have:=My (w:=w) (h:=h) (g:=g) l [] [] ⟨by simp,by simp,by simp,by simp,by simp⟩ (by simpa using hm.pair)
 simpa using this
theorem Vf {w h:Int} {l:List aF}: ∀G:List Int,kT (G.flatMap λg=>f_ w h g l [])=(G.map λg=>(l.filter λu=>decide (u.Goal=g)).length).sum
 |[]=>rfl
 |g::G=>by
  simp only[List.flatMap_cons,List.map_cons,List.sum_cons];rw[agv,Vf G,RL];simp[kT]
theorem aiN (G:List Int) (hn:G.Nodup): ∀l:List aF,(∀u∈l,u.Goal∈G)->(G.map λg=>(l.filter λu=>decide (u.Goal=g)).length).sum=l.length:=by
 have one: ∀(G:List Int) (a:Int),G.Nodup->(G.map λg=>if a=g then 1 else 0).sum=if a∈G then 1 else 0:=by
  intro G a
  induction G with
  |nil=>simp
  |cons g G ih=>
   intro hn;rw[List.nodup_cons] at hn;simp only[List.map_cons,List.sum_cons,ih hn.2,List.mem_cons]
   by_cases e:a=g
   ·subst e;simp[hn.1]
   ·simp[e]
 intro l
 induction l with
 |nil=>
  intro _;have z: ∀G:List Int,(G.map λg=>(([]:List aF).filter λu=>decide (u.Goal=g)).length).sum=0:=by
   intro G
   induction G with
   |nil=>rfl
   |cons g G ih=>simp only[List.map_cons,List.sum_cons,ih];rfl
  exact z G
 |cons u r ih=>
  intro hl;have h1:=ih (λx hx=>hl x (List.mem_cons_of_mem _ hx));have h2:=one G u.Goal hn;rw[af (hl u (List.mem_cons_self ..))] at h2;have key: ∀G:List Int,(G.map λg=>((u::r).filter λu=>decide (u.Goal=g)).length).sum=(G.map λg=>if u.Goal=g then 1 else 0).sum+(G.map λg=>(r.filter λu=>decide (u.Goal=g)).length).sum:=by
   intro G
   induction G with
   |nil=>rfl
   |cons g G ihG=>
    simp only[List.map_cons,List.sum_cons,ihG]
    by_cases e:u.Goal=g
    ·rw[List.filter_cons_of_pos (by simpa using e),af e];simp;omega
    ·rw[List.filter_cons_of_neg (by simpa using e),ah e];omega
  rw[key,h1,h2];simp;omega
theorem Ko {w h:Int} {l:List aF}:kT (jL w h l)=l.length:=by
 unfold jL;rw[Vf,aiN _ (Mx l) l (λu hu=>(RI l _).2 ⟨u,hu,J⟩)]
theorem J5: ∀ps:List cg,(∀p∈ps,p.cW≠[])->ps.length<=kT ps
 |[],_=>by simp
 |p::r,h=>by
  have h1:=J5 r (λq hq=>h q (List.mem_cons_of_mem _ hq));have h2:0<p.cW.length:=List.length_pos_iff.2 (h p (List.mem_cons_self ..));simp only[List.length_cons,kT];omega
structure Xb (w h:Int) (l:List aF) (G:List Int) (ps:List cg):Prop where
 goal: ∀p∈ps,p.Goal∈G
 some_: ∀p∈ps,p.cW≠[]
 up: ∀p∈ps,p.cW.Pairwise (· < ·)
 of: ∀p∈ps,∀id∈p.cW,∃u∈l,u.Id=id/\u.Goal=p.Goal/\aX w h u.Cell=p.eT
 order:ps.Pairwise λa b=>G.idxOf a.Goal<=G.idxOf b.Goal/\ ¬(a.Goal=b.Goal/\a.eT=b.eT)
theorem Ow {w h:Int} {l:List aF} (hm:il w h l):Xb w h l (lN l) (jL w h l):=by
 have mem: ∀p∈jL w h l,∃g∈lN l,p∈f_ w h g l []:=λp hp=>by
  unfold jL at hp;exact List.mem_flatMap.1 hp
 refine⟨λp hp=>?_,λp hp=>?_,λp hp=>?_,λp hp id l_=>?_,?_⟩
 ·obtain⟨g,h1,h2⟩:=mem p hp;rw[(AH hm g).goal p h2];exact h1
 ·obtain⟨g,h1,h2⟩:=mem p hp;exact(AH hm g).some_ p h2
 ·obtain⟨g,h1,h2⟩:=mem p hp;exact(AH hm g).up p h2
 ·obtain⟨g,h1,h2⟩:=mem p hp;obtain⟨u,u1,u2,u3,u4⟩:=(AH hm g).of p h2 id l_;exact⟨u,u1,u2,by rw[u3,(AH hm g).goal p h2],u4⟩
 ·unfold jL;rw[List.pairwise_flatMap];refine⟨λg _=>?_,?_⟩
  ·have hg:=AH (w:=w) (h:=h) hm g;refine(List.Pairwise.and_mem.1 hg.apart).imp ?_;rintro a b ⟨ha,hb,q⟩;rw[hg.goal a ha,hg.goal b hb];exact⟨Nat.le_refl _,λz=>q z.2⟩
  ·have hn:=Mx l;rw[List.pairwise_iff_getElem];intro i j hi hj rE a ha b hb;rw[(AH hm _).goal a ha,(AH hm _).goal b hb];have e1:(lN l).idxOf (lN l)[i]=i:=hn.idxOf_getElem i hi;have e2:(lN l).idxOf (lN l)[j]=j:=hn.idxOf_getElem j hj;rw[e1,e2];refine⟨by omega,λz=>?_⟩
   have:=(List.pairwise_iff_getElem.1 hn) i j hi hj rE;exact this z.1
section
inductive tx (k:Int):List (Int×Int)->bY->bY->Prop
 |nil (n:bY):tx k [] n n
 |snoc {ps:List (Int×Int)} {n n1:bY} {b:Int} {ord:List Int} {c:eI} {goal s:Int} {r:fX×Er×bY} (h:tx k ps n n1) (hn:gW n1 k b ord) (hc:n1.core=some c) (hg:cO c.aI.m goal) (hs:bG c.aI.m.W c.aI.m.H s) (hf:Dc n1 k b ord c goal s r):tx k (ps++[(goal,s)]) n r.2.2
def Da (g:bt) (u:aF) (d:Int):Prop:=
 ∃R l f,uD g R/\R.goal=u.Goal/\l.length<=1025/\(∀y,y∈l↔yg g R (aX g.m.W g.m.H u.Cell) y)/\wo (fD g.m (aX g.m.W g.m.H u.Cell)) l KF f/\d=rd f.cz (du g.m.W g.m.H u.Cell)
theorem PO: ∀(ps:List cg) (g s id:Int) (p:cg),p∈ps-> ∃q∈jr ps g s id,q.eT=p.eT/\ ∀x∈p.cW,x∈q.cW
 |[],_,_,_,_,h=>by simp at h
 |a::r,g,s,id,p,h=>by
  simp only[jr];split
  ·rename_i e;rcases List.mem_cons.1 h with rfl |h
   ·exact⟨_,List.mem_cons_self ..,J,λx hx=>List.mem_append_left _ hx⟩
   ·exact⟨p,List.mem_cons_of_mem _ h,J,λx hx=>hx⟩
  ·rcases List.mem_cons.1 h with rfl |h
   ·exact⟨p,List.mem_cons_self ..,J,λx hx=>hx⟩
   ·obtain⟨q,q1,q2⟩:=PO r g s id p h;exact⟨q,List.mem_cons_of_mem _ q1,q2⟩
theorem PM: ∀(ps:List cg) (g s id:Int),∃q∈jr ps g s id,q.eT=s/\id∈q.cW
 |[],g,s,id=>⟨_,List.mem_cons_self ..,J,List.mem_cons_self ..⟩
 |a::r,g,s,id=>by
  simp only[jr];split
  ·rename_i e;exact⟨_,List.mem_cons_self ..,e,by simp⟩
  ·obtain⟨q,q1,q2⟩:=PM r g s id;exact⟨q,List.mem_cons_of_mem _ q1,q2⟩
theorem Mz (w h g:Int): ∀(l:List aF) (ps:List cg) (p:cg),p∈ps-> ∃q∈f_ w h g l ps,q.eT=p.eT/\ ∀x∈p.cW,x∈q.cW
 |[],_,p,h=>⟨p,h,J,λ_ z=>z⟩
 |u::r,ps,p,hp=>by
  simp only[f_];split
  ·obtain⟨q,q1,q2,q3⟩:=PO ps g (aX w h u.Cell) u.Id p hp;obtain⟨q',a1,a2,a3⟩:=Mz w h g r _ q q1;exact⟨q',a1,a2.trans q2,λx hx=>a3 x (q3 x hx)⟩
  ·exact Mz w h g r ps p hp
theorem RM (w h g:Int): ∀(l:List aF) (ps:List cg) (u:aF),u∈l->u.Goal=g-> ∃q∈f_ w h g l ps,q.eT=aX w h u.Cell/\u.Id∈q.cW
 |[],_,_,h,_=>by simp at h
 |a::r,ps,u,hu,hg=>by
  simp only[f_];rcases List.mem_cons.1 hu with rfl |hu
  ·rw[af hg];obtain⟨q,q1,q2,q3⟩:=PM ps g (aX w h u.Cell) u.Id;obtain⟨q',a1,a2,a3⟩:=Mz w h g r _ q q1;exact⟨q',a1,a2.trans q2,a3 _ q3⟩
  ·exact RM w h g r _ u hu hg
theorem agE {w h:Int} {l:List aF} {u:aF} (hu:u∈l): ∃q∈jL w h l,u.Id∈q.cW:=by
 obtain⟨q,q1,_,q3⟩:=RM w h u.Goal l [] u hu J;refine⟨q,?_,q3⟩;unfold jL;exact List.mem_flatMap.2 ⟨u.Goal,(RI l _).2 ⟨u,hu,J⟩,q1⟩
theorem T6 {w h:Int} {l:List aF} (hm:il w h l) {u v:aF} (hu:u∈l) (hv:v∈l) (e:u.Id=v.Id):u=v:=by
 obtain⟨i,i0,i1,rfl⟩:=jJ hu;obtain⟨j,j0,j1,rfl⟩:=jJ hv;rcases Int.lt_trichotomy i j with q |q |q
 ·have:=hm.B6 i0 q j1;omega
 ·rw[q]
 ·have:=hm.B6 j0 q i1;omega
variable {S : bJ} {k : Int} {L : List aF}
theorem aaO (bq:bY) (D:List (Int×Int)) (hL:L.length<=1000000): ∀(n m:Nat) (x:List Int) (i:Int),(L.length-i).toNat<=n->n<m->0<=i->i<=L.length->x=(L.take i.toNat).map (λu=>aO D u.Id)->
 eD.l3 m S L bq D x i=some (L.map (λu=>aO D u.Id),Er.nil,⟨S.most,bq,S.eY⟩):=by
 have fin: ∀(m:Nat) (x:List Int) (i:Int),¬i<L.length->x=(L.take i.toNat).map (λu=>aO D u.Id)->eD.l3 (m+1) S L bq D x i=some (L.map (λu=>aO D u.Id),Er.nil,⟨S.most,bq,S.eY⟩):=λm x i hi hx=>by
  rw[eD.l3,ah hi,hx,List.take_of_length_le U]
 intro n
 induction n with
 |zero=>
  intro m x i hn hm hi dT hx;obtain⟨m,rfl⟩:=bh hm;exact fin m x i U hx
 |succ n ih=>
  intro m x i hn hm hi dT hx;obtain⟨m,rfl⟩:=bh hm
  by_cases aP:i<L.length
  ·rw[eD.l3,af aP,af ⟨hi,aP⟩,af (by rw[hx];simp;omega),wi U U]
   refine ih m _ (i+1) U U U U ?_;rw[hx,HE hi aP];simp
  ·exact fin m x i aP hx
theorem aaN (x4:List (Int×Int)) (ps:List cg) (i:Int) (b_:bY) (F:List Int) (od:(rd ps i).cW.length<=1000000) (cu: ∀id∈(rd ps i).cW,0<=aO x4 id/\aO x4 id<F.length) (D0:List (Int×Int)): ∀(n m:Nat) (D:List (Int×Int)) (j:Int),((rd ps i).cW.length-j).toNat<=n->n<m->0<=j->j<=(rd ps i).cW.length->
 (∀id,(∃q:Int,0<=q/\q<j/\rd (rd ps i).cW q=id)->aO D id=rd F (aO x4 id))->(∀id,id∉(rd ps i).cW->aO D id=aO D0 id)->
 Ok (eD.l2 m x4 i ps b_ F D j) (λr=> ∃D',r=Sum.inr (b_,D')/\(∀id∈(rd ps i).cW,aO D' id=rd F (aO x4 id))/\ ∀id,id∉(rd ps i).cW->aO D' id=aO D0 id):=by
 have fin: ∀(m:Nat) (D:List (Int×Int)) (j:Int),¬j<(rd ps i).cW.length->(∀id,(∃q:Int,0<=q/\q<j/\rd (rd ps i).cW q=id)->aO D id=rd F (aO x4 id))->(∀id,id∉(rd ps i).cW->aO D id=aO D0 id)->
  Ok (eD.l2 (m+1) x4 i ps b_ F D j) (λr=> ∃D',r=Sum.inr (b_,D')/\(∀id∈(rd ps i).cW,aO D' id=rd F (aO x4 id))/\ ∀id,id∉(rd ps i).cW->aO D' id=aO D0 id):=λm D j hj ha hb=>by
  rw[eD.l2,ah hj];refine Ok.pure ⟨D,J,λid l_=>?_,hb⟩
  obtain⟨q,q0,q1,e⟩:=jJ l_;exact ha id ⟨q,q0,by omega,e⟩
 intro n
 induction n with
 |zero=>
  intro m D j hn hm hj iG ha hb;obtain⟨m,rfl⟩:=bh hm;exact fin m D j U ha hb
 |succ n ih=>
  intro m D j hn hm hj iG ha hb;obtain⟨m,rfl⟩:=bh hm
  by_cases aP:j<(rd ps i).cW.length
  ·have jg:=dN hj aP;rw[eD.l2,wi U U];refine Ok.pos aP (Ok.cx ⟨hj,aP⟩ (Ok.cx (cu _ jg) (ih m _ (j+1) U U U U (λid ⟨q,q0,q1,e⟩=>?_) (λid l_=>?_))))
   ·rw[sM];split
    ·rename_i z;rw[z]
    ·rename_i z;refine ha id ⟨q,q0,?_,e⟩;have:q≠j:=λy=>z (by rw[<-e,y])
     omega
   ·rw[sM,ah (λz=>l_ (by rw[<-z];exact jg))];exact hb id l_
  ·exact fin m D j aP ha hb
abbrev D2 (p:cg):Int×Int:=(p.Goal,p.eT)
theorem aaM {g:bt} (hm:il g.m.W g.m.H L) (hL:L.length<=1000) (hGs: ∃more,dA g more) (F2: ∀u∈L,cO g.m u.Goal) (x4:List (Int×Int)) (JP: ∀u∈L,aO x4 u.Id=du g.m.W g.m.H u.Cell) (n0:bY): ∀(n m:Nat) (nv:bY) (D:List (Int×Int)) (i:Int) (b:Int) (ord:List Int),((jL g.m.W g.m.H L).length-i).toNat<=n->n<m->0<=i->i<=(jL g.m.W g.m.H L).length->
 gW nv k b ord->0<=b->b+5000*((jL g.m.W g.m.H L).length-i)<=90000000000->(∃c,nv.core=some c/\c.aI=g)->tx k (((jL g.m.W g.m.H L).map D2).take i.toNat) n0 nv->
 (∀u∈L,(∃j:Int,0<=j/\j<i/\u.Id∈(rd (jL g.m.W g.m.H L) j).cW)->Da g u (aO D u.Id))->
 Ok (eD.l1 m S L x4 (jL g.m.W g.m.H L) nv D i) (λr=>r.2.1=Er.nil/\ ∃pe qF,r.2.2=⟨S.most,pe,S.eY⟩/\gW pe k (b+5000*((jL g.m.W g.m.H L).length-i)) qF/\(∃c,pe.core=some c/\c.aI=g)/\tx k ((jL g.m.W g.m.H L).map D2) n0 pe/\r.1.length=L.length/\ ∀j:Int,0<=j->j<L.length->Da g (rd L j) (rd r.1 j)):=by
 have Jy:=Ow hm;have mB:(jL g.m.W g.m.H L).length<=L.length:=by
  have:=J5 _ Jy.some_;rw[Ko] at this;exact this
 generalize od:jL g.m.W g.m.H L=ps at*;have fin: ∀(m:Nat) (nv:bY) (D:List (Int×Int)) (i b:Int) (ord:List Int),¬i<ps.length->i<=ps.length->gW nv k b ord->(∃c,nv.core=some c/\c.aI=g)->tx k ((ps.map D2).take i.toNat) n0 nv->
  (∀u∈L,(∃j:Int,0<=j/\j<i/\u.Id∈(rd ps j).cW)->Da g u (aO D u.Id))->
  Ok (eD.l1 (m+1) S L x4 ps nv D i) (λr=>r.2.1=Er.nil/\ ∃pe qF,r.2.2=⟨S.most,pe,S.eY⟩/\gW pe k (b+5000*(ps.length-i)) qF/\(∃c,pe.core=some c/\c.aI=g)/\tx k (ps.map D2) n0 pe/\r.1.length=L.length/\ ∀j:Int,0<=j->j<L.length->Da g (rd L j) (rd r.1 j)):=by
  intro m nv D i b ord hi dT hn hc hF ha;rw[eD.l1,ah hi,aaO nv D U L.length fuel [] 0 U (by rw[cH];omega) U U bk]
  refine Ok.pure ⟨J,nv,ord,J,by rw[show b+5000*((ps.length:Int)-i)=b by omega];exact hn,hc,?_,by simp,λj j0 j1=>?_⟩
  ·rw[List.take_of_length_le bl] at hF;exact hF
  ·simp only;rw[ze j0 j1];have hu:=dN j0 j1;obtain⟨q,q1,q2⟩:=agE (w:=g.m.W) (h:=g.m.H) hu;rw[od] at q1;obtain⟨x,x0,x1,e⟩:=jJ q1;exact ha _ hu ⟨x,x0,by omega,by rw[e];exact q2⟩
 intro n
 induction n with
 |zero=>
  intro m nv D i b ord hn wU hi dT hN hb FU hc hF ha;obtain⟨m,rfl⟩:=bh wU;exact fin m nv D i b ord U dT hN hc hF ha
 |succ n ih=>
  intro m nv D i b ord hn wU hi dT hN hb FU hc hF ha;obtain⟨m,rfl⟩:=bh wU
  by_cases aP:i<ps.length
  ·have hp:=dN hi aP;obtain⟨id0,ad'⟩:=List.exists_mem_of_ne_nil _ (Jy.some_ _ hp);obtain⟨u0,a1,a2,a3,a4⟩:=Jy.of _ hp id0 ad';obtain⟨c,c1,c2⟩:=hc;subst c2;have hg:cO c.aI.m (rd ps i).Goal:=by rw[<-a3];exact F2 u0 a1
   have ez: ∀u∈L,bU c.aI.m.W c.aI.m.H u.Cell:=λu hu=>by
    obtain⟨j,j0,j1,rfl⟩:=jJ hu;exact hm.cell j0 j1
   have hs:bG c.aI.m.W c.aI.m.H (rd ps i).eT:=by rw[<-a4];exact vS (ez u0 a1)
   rw[eD.l1,wi (x:=i+1) U U];refine Ok.pos aP ?_;rw[af (show 0<=i/\i<(ps.length:Int) from⟨hi,aP⟩)]
   obtain⟨r,er,hr⟩:=UN hN ⟨hb,by omega⟩ c1 hg hs
   obtain⟨f,e,n'⟩:=r;have he:=hr.err;simp only at he;subst he;obtain⟨R,l,c',qF,f1,f2,f3,f4,f5,f6,f7,f8,f9,f10,f11,f12,f13,f14,f15,f16,f17,f18⟩:=hr.Dy;simp only at f6 f7 f16;have ef:ue.f nv (rd ps i).Goal (rd ps i).eT=some (f,0,n'):=by
    unfold ue.f;rw[er,aK];simp only[UM,aK]
   have An:=Jy.of _ hp;obtain⟨more,hG⟩:=hGs;have BW: ∀u∈L,aX c.aI.m.W c.aI.m.H u.Cell=(rd ps i).eT->0<=du c.aI.m.W c.aI.m.H u.Cell/\du c.aI.m.W c.aI.m.H u.Cell<f.cz.length:=λu hu e=>by
    have lB:=ez u hu;have:=CM hG (c:=u.Cell) lB.2;rw[e] at this;rw[f6.dl];exact⟨this.1,this.2.1⟩
   have DR:(rd ps i).cW.length<=1000000:=by
    have h1:=Vg ps i hi aP;rw[<-od,Ko,od] at h1;omega
   have qw:=aaN x4 ps i n' f.cz DR (λid l_=>by
    obtain⟨u,u1,u2,u3,u4⟩:=An id l_;rw[<-u2,JP u u1];exact BW u u1 u4) D (rd ps i).cW.length fuel D 0 U (by rw[cH];omega) U U (λid ⟨q,q0,q1,_⟩=>by omega) (λid _=>rfl)
   refine Ok.bind (P:=λz=> ∃D',z=Sum.inr (n',D')/\(∀id∈(rd ps i).cW,aO D' id=rd f.cz (aO x4 id))/\ ∀id,id∉(rd ps i).cW->aO D' id=aO D id) ?_ λz hz=>?_
   ·refine Ok.bind (P:=λp=>p=(n',f.fa,f.cz,(0:Int))) (Ok.eq ef (Ok.pure J)) λp hp=>?_
    subst hp;exact Ok.neg bk qw
   obtain⟨D',F9,DU,JK⟩:=hz;subst F9;refine(ih m n' D' (i+1) (b+5000) qF U U U U f16 U U ⟨c',f7,f8⟩ ?_ (λu hu ⟨j,j0,j1,hj⟩=>?_)).mono λr vj=>?_
   ·rw[HE hi (by simpa using aP),ze hi aP]
    exact tx.snoc (r:=(f,Er.nil,n')) hF hN c1 hg hs hr
   ·by_cases z:u.Id∈(rd ps i).cW
    ·obtain⟨v,v1,v2,v3,v4⟩:=An _ z;have:=T6 hm v1 hu v2;subst this;rw[DU _ z,JP _ hu];exact⟨R,l,f,f1,by rw[f2,v3],f3,by rw[v4];exact f4,by rw[v4];exact f6,J⟩
    ·rw[JK _ z];refine ha u hu ⟨j,j0,?_,hj⟩;have:j≠i:=λy=>z (by rw[<-y];exact hj)
     omega
   ·obtain⟨h1,pe,o',h2,h3,h4⟩:=vj;exact⟨h1,pe,o',h2,by rw[show b+5000*((ps.length:Int)-i)=b+5000+5000*(ps.length-(i+1)) by omega];exact h3,h4⟩
  ·exact fin m nv D i b ord aP dT hN hc hF ha
theorem aaL {g:bt} (hm:il g.m.W g.m.H L) (hL:L.length<=1000) (Q:List Int×Er×bJ->Prop) (DP: ∀x4:List (Int×Int),(∀u∈L,aO x4 u.Id=du g.m.W g.m.H u.Cell)->Ok (eD.l1 fuel S L x4 (jL g.m.W g.m.H L) S.nav ([]:List (Int×Int)) 0) Q): ∀(n m:Nat) (x4:List (Int×Int)) (i:Int),(L.length-i).toNat<=n->n<m->0<=i->i<=L.length->(∀u∈L,(∃j:Int,0<=j/\j<i/\rd L j=u)->aO x4 u.Id=du g.m.W g.m.H u.Cell)->
 Ok (eD.l0 m S L (g.m.W,g.m.H) x4 i) Q:=by
 have fin: ∀(m:Nat) (x4:List (Int×Int)) (i:Int),¬i<L.length->(∀u∈L,(∃j:Int,0<=j/\j<i/\rd L j=u)->aO x4 u.Id=du g.m.W g.m.H u.Cell)->Ok (eD.l0 (m+1) S L (g.m.W,g.m.H) x4 i) Q:=λm x4 i hi ha=>by
  rw[eD.l0,ah hi];refine Ok.eq (agD U hm) (DP x4 λu hu=>?_);obtain⟨j,j0,j1,e⟩:=jJ hu;exact ha u hu ⟨j,j0,by omega,e⟩
 intro n
 induction n with
 |zero=>
  intro m x4 i hn wU hi dT ha;obtain⟨m,rfl⟩:=bh wU;exact fin m x4 i U ha
 |succ n ih=>
  intro m x4 i hn wU hi dT ha;obtain⟨m,rfl⟩:=bh wU
  by_cases aP:i<L.length
  ·rw[eD.l0,wi U U];refine Ok.pos aP (Ok.cx ⟨hi,aP⟩ (Ok.eq (Gx ..) (ih m _ (i+1) U U U U λu hu ⟨j,j0,j1,e⟩=>?_)));rw[sM];split
   ·rename_i z;rw[T6 hm (dN hi aP) hu z]
   ·rename_i z;refine ha u hu ⟨j,j0,?_,e⟩;have:j≠i:=λy=>z (by rw[<-e,y])
    omega
  ·exact fin m x4 i aP ha
theorem aaK {c:eI} {b:Int} {ord:List Int} (hn:gW S.nav k b ord) (hb:0<=b/\b<=80000000000) (hc:S.nav.core=some c) (hm:il c.aI.m.W c.aI.m.H L) (hL:L.length<=1000) (F2: ∀u∈L,cO c.aI.m u.Goal):
 Ok (eD.f S L) (λr=>r.2.1=Er.nil/\ ∃pe qF,r.2.2=⟨S.most,pe,S.eY⟩/\gW pe k (b+5000*(jL c.aI.m.W c.aI.m.H L).length) qF/\(∃c',pe.core=some c'/\c'.aI=c.aI)/\tx k ((jL c.aI.m.W c.aI.m.H L).map D2) S.nav pe/\r.1.length=L.length/\ ∀j:Int,0<=j->j<L.length->Da c.aI (rd L j) (rd r.1 j)):=by
 have mB:(jL c.aI.m.W c.aI.m.H L).length<=L.length:=by
  have:=J5 _ (Ow hm).some_;rw[Ko] at this;exact this
 unfold eD.f;refine Ok.eq (UR hc) (aaL hm hL _ (λx4 JP=>?_) L.length fuel [] 0 U (by rw[cH];omega) U U (λu _ ⟨j,j0,j1,_⟩=>by omega))
 refine(aaM hm hL ⟨0,(hn.core c hc).1.gs⟩ F2 x4 JP S.nav 1000 fuel S.nav [] 0 b ord U (by rw[cH];omega) U U hn hb.1 U ⟨c,hc,J⟩ (tx.nil _) (λu _ ⟨j,j0,j1,_⟩=>by omega)).mono λr hr=>?_
 rw[Int.sub_zero] at hr;exact hr
end
section
theorem Zt (l:List aZ) (c side:Int) (hb:l.length<=1000000): ∀(n k:Nat) (x:Int) (b:Bool) (i:Int),(l.length-i).toNat<=n->n<k->0<=i->
 Ok (kA.l0 k l c side x b i) (λr=>((r=x/\(b=true∨ ∀j:Int,i<=j->j<l.length-> ¬((rd l j).Cell=c/\(rd l j).cM=side)))∨ ∃y∈l,y.Cell=c/\y.cM=side/\y.Key=r)/\(∀j:Int,i<=j->j<l.length->(rd l j).Cell=c->(rd l j).cM=side->r<=(rd l j).Key)/\(b=true->r<=x)):=by
 have fin: ∀(k:Nat) (x:Int) (b:Bool) (i:Int),¬i<l.length->Ok (kA.l0 (k+1) l c side x b i) (λr=>((r=x/\(b=true∨ ∀j:Int,i<=j->j<l.length-> ¬((rd l j).Cell=c/\(rd l j).cM=side)))∨ ∃y∈l,y.Cell=c/\y.cM=side/\y.Key=r)/\(∀j:Int,i<=j->j<l.length->(rd l j).Cell=c->(rd l j).cM=side->r<=(rd l j).Key)/\(b=true->r<=x)):=λk x b i hi=>by
  rw[kA.l0,ah hi];exact Ok.pure ⟨.inl ⟨J,.inr λj j0 j1=>by omega⟩,λj j0 j1=>by omega,λ_=>Int.le_refl _⟩
 intro n
 induction n with
 |zero=>
  intro k x b i hn hk hi;obtain⟨k,rfl⟩:=bh hk;exact fin k x b i U
 |succ n ih=>
  intro k x b i hn hk hi;obtain⟨k,rfl⟩:=bh hk
  by_cases aP:i<l.length
  ·rw[kA.l0,wi U U];have hq:(if((rd l i).Cell==c)=true then(if((rd l i).cM==side)=true then(if(!b)=true then(some true) else(some (decide ((rd l i).Key<x)))) else(some false)) else(some false))=some (decide (((rd l i).Cell=c/\(rd l i).cM=side)/\(b=false∨(rd l i).Key<x))):=by
    by_cases a1:(rd l i).Cell=c
    ·by_cases a2:(rd l i).cM=side
     ·cases b<;>simp[a1,a2]
     ·simp[a1,a2]
    ·simp[a1]
   refine Ok.pos aP (Ok.cx ⟨hi,aP⟩ (Ok.eq hq (Ok.ite (λq=>?_) λq=>?_)))
   ·obtain⟨⟨q1,q2⟩,q3⟩:=of_decide_eq_true q;refine(ih k (rd l i).Key true (i+1) U U U).mono λr hr=>⟨?_,λj j0 j1 e1 e2=>?_,λjw=>?_⟩
    ·rcases hr.1 with⟨z,_⟩ |z
     ·exact .inr ⟨_,dN hi aP,q1,q2,z.symm⟩
     ·exact .inr z
    ·by_cases z:j=i
     ·rw[z];exact hr.2.2 J
     ·exact hr.2.1 j U j1 e1 e2
    ·have:=hr.2.2 J;rcases q3 with q3 |q3
     ·rw[q3] at jw;simp at jw
     ·omega
   ·have q: ¬(((rd l i).Cell=c/\(rd l i).cM=side)/\(b=false∨(rd l i).Key<x)):=by simpa using q
    refine(ih k x b (i+1) U U U).mono λr hr=>⟨?_,λj j0 j1 e1 e2=>?_,hr.2.2⟩
    ·rcases hr.1 with⟨z,w⟩ |z
     ·refine .inl ⟨z,?_⟩
      by_cases jw:b=true
      ·exact .inl jw
      ·refine .inr λj j0 j1 e=>?_
       by_cases y:j=i
       ·subst y;exact q ⟨e,.inl (by simpa using jw)⟩
       ·exact(w.resolve_left jw) j U j1 e
     ·exact .inr z
    ·by_cases z:j=i
     ·subst z
      by_cases jw:b=true
      ·have:=hr.2.2 jw;have: ¬(rd l j).Key<x:=λy=>q ⟨⟨e1,e2⟩,.inr y⟩
       omega
      ·exact absurd ⟨⟨e1,e2⟩,.inl (by simpa using jw)⟩ q
     ·exact hr.2.1 j U j1 e1 e2
  ·exact fin k x b i aP
theorem Zu {l:List aZ} (hb:l.length<=1000000) (c side:Int):((uL l c side=cL/\ ∀y∈l,¬(y.Cell=c/\y.cM=side))∨ ∃y∈l,y.Cell=c/\y.cM=side/\y.Key=uL l c side)/\ ∀y∈l,y.Cell=c->y.cM=side->uL l c side<=y.Key:=by
 obtain⟨r,e,h1,h2,_⟩:=Zt l c side hb l.length fuel 1099511627776 false 0 U (by rw[cH];omega) U
 have hv:uL l c side=r:=by unfold uL kA.f;rw[e];rfl
 rw[hv];refine⟨?_,λy hy e1 e2=>?_⟩
 ·rcases h1 with⟨a,b⟩ |a
  ·refine .inl ⟨a,λy hy z=>?_⟩
   obtain⟨j,j0,j1,rfl⟩:=jJ hy;exact(b.resolve_left bk) j j0 j1 z
  ·exact .inr a
 ·obtain⟨j,j0,j1,rfl⟩:=jJ hy;exact h2 j j0 j1 e1 e2
theorem af0 {w h s l d:Int} (hs:bG w h s) (l0:0<=l) (l1:l<(ax w h s).1*(ax w h s).2) (d0:0<=d) (d3:d<=3) {t:aJ} (hW:t.W=(ax w h s).1) (hH:t.H=(ax w h s).2) (hn:0<=eN t l d):
 eN t l d<(ax w h s).1*(ax w h s).2/\cD w h (de w h s l) d=de w h s (eN t l d):=by
 obtain⟨z1,z2,z3,z4⟩:=p7 hs;obtain⟨hc,e1,e2⟩:=Mw hs l0 l1;obtain⟨p1,p2,p3,p4,p5,p6⟩:=wO hs l0 l1;have FY:=Int.mul_ediv_add_emod l (ax w h s).1;have hm:=hc.1;have key: ∀x y:Int,0<=x->x<(ax w h s).1->0<=y->y<(ax w h s).2->x=l%(ax w h s).1+dX d->y=l/(ax w h s).1+dY d->y*(ax w h s).1+x<(ax w h s).1*(ax w h s).2/\cD w h (de w h s l) d=de w h s (y*(ax w h s).1+x):=by
  intro x y x0 x1 y0 y1 ex ey;have cu:=sm (w:=(ax w h s).1) (h:=(ax w h s).2) x0 x1 y0 y1;have yJ:=qD (a:=(ax w h s).1) (x:=x) (y:=y) x0 x1;refine⟨cu.2,?_⟩;obtain⟨q1,q2,q3,q4,q5,q6⟩:=wO hs cu.1 cu.2;rw[yJ.1] at q5;rw[yJ.2] at q6;have mc:cD w h (de w h s l) d=po w h (de w h s l%w+dX d) (de w h s l/w+dY d):=by unfold cD;rw[af ⟨hc,d0,by omega⟩]
  rw[mc,e1,e2];have hsp:=uo hs;unfold po de;rw[af (c:=bG w h s/\_) ⟨hs,cu⟩,yJ.1,yJ.2,af ⟨hm,by omega,by omega,by omega,by omega⟩,ex,ey,Int.add_assoc,Int.add_assoc]
 have hd:d=0∨d=1∨d=2∨d=3:=U;rw[Int.mul_comm] at FY;unfold eN at hn⊢;simp only[hW,hH] at hn⊢;rcases hd with rfl |rfl |rfl |rfl
 ·simp only[if_true] at hn⊢;split at hn
  ·rename_i z;rw[af z];have:=key (l%(ax w h s).1) (l/(ax w h s).1-1) p1 p2 U U (by simp[dX]) (by simp[dY];omega)
   rw[Int.sub_mul,Int.one_mul] at this;rw[show l-(ax w h s).1=l/(ax w h s).1*(ax w h s).1-(ax w h s).1+l%(ax w h s).1 by omega]
   exact this
  ·omega
 ·simp only[show ¬(1:Int)=0 by omega,if_true,if_false] at hn⊢
  split at hn
  ·rename_i z;rw[af z];have:=key (l%(ax w h s).1+1) (l/(ax w h s).1) U U p3 p4 (by simp[dX]) (by simp[dY])
   rw[show l+1=l/(ax w h s).1*(ax w h s).1+(l%(ax w h s).1+1) by omega]
   exact this
  ·omega
 ·simp only[show ¬(2:Int)=0 by omega,show ¬(2:Int)=1 by omega,if_true,if_false] at hn⊢
  split at hn
  ·rename_i z;rw[af z];have:=key (l%(ax w h s).1) (l/(ax w h s).1+1) p1 p2 U U (by simp[dX]) (by simp[dY])
   rw[Int.add_mul,Int.one_mul] at this;rw[show l+(ax w h s).1=l/(ax w h s).1*(ax w h s).1+(ax w h s).1+l%(ax w h s).1 by omega]
   exact this
  ·omega
 ·simp only[show ¬(3:Int)=0 by omega,show ¬(3:Int)=1 by omega,show ¬(3:Int)=2 by omega,if_false] at hn⊢
  split at hn
  ·rename_i z;rw[af z];have:=key (l%(ax w h s).1-1) (l/(ax w h s).1) U U p3 p4 (by simp[dX];omega) (by simp[dY])
   rw[show l-1=l/(ax w h s).1*(ax w h s).1+(l%(ax w h s).1-1) by omega]
   exact this
  ·omega
variable {g : bt} {more : Int} {R : ie}
theorem aaJ (h:dA g more) {l:List aZ} (hl:l.length<=1025) {c d:Int} (hc:cO g.m c) (hm: ∀y,y∈l↔yg g R (aX g.m.W g.m.H c) y) {K:Int} {f:fX} (hf:wo (fD g.m (aX g.m.W g.m.H c)) l K f) (hd:d=rd f.cz (du g.m.W g.m.H c)) (d0:0<=d) (d3:d<=3):AE g (cD g.m.W g.m.H c d):=by
 have ez:=o0 h.ok hc;have hs:=vS ez;have lS:=CM h hc;have cu:=D4 ez;have mz:=DB ez;have hb:l.length<=1000000:=U;have hI:cL=1099511627776:=rfl;rw[hf.dir _ lS.1 lS.2.1] at hd;have JN:d=Hi (fD g.m (aX g.m.W g.m.H c)) l f.fa (du g.m.W g.m.H c)/\rd f.fa (du g.m.W g.m.H c)≠cL:=by
  unfold yv at hd;split at hd
  ·omega
  ·rename_i z;split at hd
   ·omega
   ·exact⟨hd,z⟩
 obtain⟨fN,bH⟩:=JN;have iF:zR (fD g.m (aX g.m.W g.m.H c)) l f.fa (du g.m.W g.m.H c) d=true:=by
  unfold Hi at fN
  repeat' split at fN
  all_goals first
   |(subst fN;assumption)
   |omega
 unfold zR at iF
 by_cases z:eN (fD g.m (aX g.m.W g.m.H c)) (du g.m.W g.m.H c) d<0
 ·rw[af z] at iF;have iF:uL l (du g.m.W g.m.H c) d=rd f.fa (du g.m.W g.m.H c):=by simpa using iF
  rcases(Zu hb (du g.m.W g.m.H c) d).1 with⟨q,_⟩ |⟨y,hy,y1,y2,y3⟩
  ·rw[q] at iF;exact absurd iF.symm bH
  ·rcases(hm y).1 hy with⟨c',jX,e,he,ha,rfl⟩ |⟨_,_,rfl⟩
   ·obtain⟨n1,n2,n3,n4⟩:=uf jX;obtain⟨d',d0',d3',d4',rfl⟩:=L9 he;simp only at y1 y2;have adW:c'=c:=by
     have h1:=DB (o0 h.ok n2);rw[n4,y1,mz] at h1;exact h1.symm
    subst adW;have aR:=(A1.1 d4');have vi:=U8 (w:=g.m.W) (h:=g.m.H) (c:=c') (side:=d') aR.1.1;have B2:CL g.m.W g.m.H c' (fQ g.m.W g.m.H c' d')=d':=by
     rw[vi.2.2.2.2.1];exact Wr ez d0' U (by rw[<-vi.2.2.2.2.1];exact vi.2.2.2.1)
    rw[B2] at y2;subst y2;rw[<-vi.2.2.2.2.1];refine⟨aR.1,?_⟩;unfold fI;rw[af aR.1];exact aR.2
   ·simp only at y2;omega
 ·rw[ah z] at iF;have iF:=of_decide_eq_true iF;obtain⟨q1,q2⟩:=af0 hs cu.1 cu.2 d0 d3 (t:=fD g.m (aX g.m.W g.m.H c)) J J U;rw[mz] at q2;rw[q2];have Tt:=Aa hs U q1;have lB:fI g (de g.m.W g.m.H (aX g.m.W g.m.H c) (eN (fD g.m (aX g.m.W g.m.H c)) (du g.m.W g.m.H c) d))=rd (fD g.m (aX g.m.W g.m.H c)).C (eN (fD g.m (aX g.m.W g.m.H c)) (du g.m.W g.m.H c) d):=by
   have e:fI g (de g.m.W g.m.H (aX g.m.W g.m.H c) (eN (fD g.m (aX g.m.W g.m.H c)) (du g.m.W g.m.H c) d))=rd g.m.C (de g.m.W g.m.H (aX g.m.W g.m.H c) (eN (fD g.m (aX g.m.W g.m.H c)) (du g.m.W g.m.H c) d)):=by unfold fI;exact af Tt
   rw[e];exact(Pe U U).symm
  exact⟨Tt,by rw[lB];exact iF.1⟩
end
end Go.Proofs.YthodkonhneebbaaGreatDoor
