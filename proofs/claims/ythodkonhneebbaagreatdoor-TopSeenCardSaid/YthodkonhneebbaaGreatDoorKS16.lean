/- What the functions do, in plain Lean, on the objects that are kept in order. -/
import Derived.Test.YthodkonhneebbaaGreatDoorKS15
import Derived.Test.YthodkonhneebbaaGreatDoorKS11
import Derived.Test.YthodkonhneebbaaGreatDoorKS12
import Derived.Test.YthodkonhneebbaaGreatDoorKS14
import Derived.Test.YthodkonhneebbaaGreatDoorKS6
import Derived.Test.YthodkonhneebbaaGreatDoorKS5
import Derived.Test.YthodkonhneebbaaGreatDoorKS13
namespace Go.Proofs.YthodkonhneebbaaGreatDoor
open Go.Hx
set_option linter.unusedVariables false
set_option linter.unusedSimpArgs false
abbrev dB:Int:=2147483647
abbrev RB:Int:=104538400
def rn (f:Int->Int):Nat->Int
 |0=>0
 |n+1=>rn f n+f n
theorem XE {f:Int->Int} {B:Int}: ∀(n:Nat),(∀i:Int,0<=i->i<n->f i<=B)->rn f n<=n*B
 |0,_=>by simp[rn]
 |n+1,h=>by
  have:=XE n (λi a b=>h i a U);have:=h n U U;rw[rn,Int.natCast_add,Int.add_mul,Int.natCast_one,Int.one_mul];omega
theorem XF {f:Int->Int}: ∀(n:Nat),(∀i:Int,0<=i->i<n->0<=f i)->0<=rn f n
 |0,_=>Int.le_refl _
 |n+1,h=>by
  have:=XF n (λi a b=>h i a U);have:=h n U U;rw[rn];omega
theorem XC {f f':Int->Int}: ∀(n:Nat),(∀i:Int,0<=i->i<n->f' i=f i)->rn f' n=rn f n
 |0,_=>rfl
 |n+1,h=>by rw[rn,rn,XC n (λi a b=>h i a U),h n U U]
theorem XD {f f':Int->Int} {c:Int}: ∀(n:Nat),0<=c->c<n->f' c+1<=f c->(∀i:Int,0<=i->i<n->i≠c->f' i=f i)->rn f' n+1<=rn f n
 |0,h0,h1,_,_=>by omega
 |n+1,h0,h1,hd,he=>by
  rw[rn,rn]
  by_cases z:c=n
  ·subst z;rw[XC n (λi a b=>he i a U U)];omega
  ·have:=XD n h0 U hd (λi a b=>he i a U);rw[he n U U (λy=>z y.symm)];omega
theorem MK {p q:Int->Bool}: ∀{n:Nat},(∀i:Int,0<=i->i<n->p i=true->q i=true)->eV p n<=eV q n
 |0,_=>Nat.le_refl _
 |n+1,h=>by
  have:=MK (p:=p) (q:=q) (n:=n) (λi a b=>h i a U);unfold eV;have h':=h n U U
  cases hp:p n
  ·simp;omega
  ·rw[h' hp];simp;omega
theorem RD {p q:Int->Bool} {c:Int}: ∀{n:Nat},0<=c->c<n->p c=false->q c=true->(∀i:Int,0<=i->i<n->p i=true->q i=true)->eV p n+1<=eV q n
 |0,h0,h1,_,_,_=>by omega
 |n+1,h0,h1,hp,hq,he=>by
  unfold eV
  by_cases z:c=n
  ·subst z;have:=MK (p:=p) (q:=q) (n:=n) (λi a b=>he i a U);rw[hp,hq];simp;omega
  ·have:=RD (n:=n) h0 U hp hq (λi a b=>he i a U);have h':=he n U U
   cases hp':p n
   ·simp;omega
   ·rw[h' hp'];simp;omega
def zB (D:List Int) (v:Int):Nat:=eV (λc=>decide (rd D c<v)) D.length
def nQ (D:List Int):Int:=rn (λc=>min (rd D c) (RB+1)) D.length
section
variable {g : bC} {more : Int} {M : dM} {goal : Int} {im : List (Int × Int)}
def Pv (g:bC) (goal:Int) (im:List (Int×Int)) (D:List Int) (c d:Int):Prop:=
 (c∈bL g.m (aY g.m.W g.m.H goal)/\bR im c=true/\aR im c=d)∨ ∃b e,node g.m b/\rd D b≠dB/\Comes g.m b e/\e.To=c/\rd D b+e.kS<=d
structure Rt (g:bC) (goal:Int) (im:List (Int×Int)) (D:List Int) (l:List dL) (x:Int):Prop where
 len_:(D.length:Int)=g.m.W*g.m.H
 dv: ∀c:Int,0<=c->c<D.length->rd D c≠dB->node g.m c/\0<=rd D c/\rd D c<=500000+65024*(zB D (rd D c):Int)/\Pv g goal im D c (rd D c)
 hp: ∀e∈l,node g.m e.item/\rd D e.item≠dB/\rd D e.item<=e.key
 rel: ∀c,node g.m c->c≠x->rd D c≠dB->⟨rd D c,c⟩∈l∨ ∀e,Comes g.m c e->rd D e.To≠dB/\rd D e.To<=rd D c+e.kS
theorem WW (D:List Int) (v:Int):zB D v<=D.length:=F6 _ _
theorem Rt.bound {D:List Int} {l:List dL} {x:Int} (hN:g.m.W*g.m.H<=1600) (h:Rt g goal im D l x) {c:Int} (c0:0<=c) (c1:c<D.length) (hc:rd D c≠dB):0<=rd D c/\rd D c<=RB:=by
 have yV:RB=104538400:=rfl;obtain⟨_,a,b,_⟩:=h.dv c c0 c1 hc;have:=WW D (rd D c);have:=h.len_;omega
theorem tF (h:du g more) {D:List Int} (hl:(D.length:Int)=g.m.W*g.m.H) {c:Int} (hc:node g.m c):0<=c/\c<D.length:=by
 have:=(C7 hc).2;rw[hl];exact this
theorem Wl {D D':List Int} (hd: ∀b,node g.m b->rd D b≠dB->rd D' b≠dB/\rd D' b<=rd D b) {c d:Int} (h:Pv g goal im D c d):Pv g goal im D' c d:=by
 rcases h with z |⟨b,e,h1,h2,h3,h4,h5⟩
 ·exact .inl z
 ·have:=hd b h1 h2;exact .inr ⟨b,e,h1,this.1,h3,h4,by omega⟩
theorem ahr {D:List Int} (hD: ∀c:Int,0<=c->c<D.length->0<=rd D c):0<=nQ D/\nQ D<=D.length*(RB+1):=by
 refine⟨XF _ λi a b=>?_,XE _ λi a b=>by omega⟩
 have:=hD i a b;have yV:RB=104538400:=rfl;omega
theorem WY (h:du g more) (hN:g.m.W*g.m.H<=1600) {D:List Int} {l:List dL} {x:Int} (hr:Rt g goal im D l x) (hlen:l.length+2*nQ D<1000000000000) {v nd ge:Int} (gg ep:Int) (hv:node g.m v) (hx:v≠x) (n0:0<=nd) (n1:nd<=500000+65024*(zB D nd:Int)) (hp:Pv g goal im D v nd):
 Ok (tL.f ⟨gg,ep,D⟩ v nd) (λr=>(r=(false,⟨gg,ep,D⟩)/\rd D v≠dB/\rd D v<=nd)∨ ∃D',r=(true,⟨gg,ep,D'⟩)/\nQ D'+1<=nQ D/\rd D' v=nd/\(∀c:Int,0<=c->c≠v->rd D' c=rd D c)/\nd<rd D v/\D'.length=D.length/\
  ∀l':List dL,(∀e,e∈l'↔e∈l∨e=⟨nd,v⟩)->Rt g goal im D' l' x):=by
 have hF:dB=2147483647:=rfl;have yV:RB=104538400:=rfl;have A1:=tF h hr.len_ hv;have hrk:=WW D nd;have Cs:=hr.len_;have hvb:rd D v=dB∨(0<=rd D v/\rd D v<=RB):=by
  by_cases z:rd D v=dB
  ·exact .inl z
  ·exact .inr (hr.bound hN A1.1 A1.2 z)
 unfold tL.f;simp only;rw[af A1,wi U U];refine Ok.ite (λq=>Ok.pure (.inl ⟨J,by omega,by omega⟩)) λq=>?_
 rw[U1 U U];have dS: ∀c:Int,0<=c->rd (List.set D v.toNat nd) c=if c=v then nd else rd D c:=λc c0=>lB A1.1 A1.2 c0
 have ED:rd (List.set D v.toNat nd) v=nd:=by rw[dS v A1.1,af J]
 have hle: ∀c:Int,0<=c->rd (List.set D v.toNat nd) c<=rd D c:=λc c0=>by
  rw[dS c c0];split
  ·rename_i z;rw[z];omega
  ·omega
 have hnf: ∀c:Int,0<=c->rd D c≠dB->rd (List.set D v.toNat nd) c≠dB:=λc c0 hc=>by
  rw[dS c c0];split
  ·omega
  ·exact hc
 have Kn: ∀b,node g.m b->rd D b≠dB->rd (List.set D v.toNat nd) b≠dB/\rd (List.set D v.toNat nd) b<=rd D b:=λb hb hf=>by
  have:=tF h hr.len_ hb;exact⟨hnf b this.1 hf,hle b this.1⟩
 have UH: ∀w,zB D w<=zB (List.set D v.toNat nd) w:=λw=>by
  unfold zB;rw[List.length_set];refine MK λi a b c=>?_
  have:=hle i a;simp only[decide_eq_true_iff] at c⊢;omega
 refine Ok.pure (.inr ⟨_,J,?_,ED,λc c0 hc=>by rw[dS c c0,ah hc],by omega,by simp,λl' AU=>?_⟩)
 ·unfold nQ;rw[List.length_set];refine XD D.length A1.1 A1.2 ?_ λi a b hi=>?_
  ·rw[ED];omega
  ·rw[dS i a,ah hi]
 ·refine⟨by simpa using hr.len_,λc c0 c1 hc=>?_,λe he=>?_,λc hc xy hf=>?_⟩
  ·rw[List.length_set] at c1
   by_cases z:c=v
   ·subst z;rw[ED];have:=UH nd;exact⟨hv,n0,by omega,Wl Kn hp⟩
   ·rw[dS c c0,ah z] at hc⊢;obtain⟨a1,a2,a3,a4⟩:=hr.dv c c0 c1 hc;have:=UH (rd D c);exact⟨a1,a2,by omega,Wl Kn a4⟩
  ·rcases(AU e).1 he with z |rfl
   ·obtain⟨b1,b2,b3⟩:=hr.hp e z;have:=Kn _ b1 b2;exact⟨b1,this.1,by omega⟩
   ·exact⟨hv,by simp only;rw[ED];omega,by simp only;rw[ED];omega⟩
  ·have GB:=tF h hr.len_ hc
   by_cases z:c=v
   ·subst z;rw[ED];exact .inl ((AU _).2 (.inr J))
   ·rw[dS c GB.1,ah z] at hf⊢;rcases hr.rel c hc xy hf with y |y
    ·exact .inl ((AU _).2 (.inl y))
    ·refine .inr λe he=>?_
     obtain⟨q1,q2⟩:=y e he;have:=Kn _ (F7 h hc he).1 q1;exact⟨this.1,by omega⟩
theorem Dl (hN:g.m.W*g.m.H<=1600) {D:List Int} {l:List dL} {x:Int} (hr:Rt g goal im D l x):0<=nQ D/\nQ D<=200000000000:=by
 have hF:dB=2147483647:=rfl;have yV:RB=104538400:=rfl;have hl:=hr.len_;have:=ahr (D:=D) λc c0 c1=>by
  by_cases z:rd D c=dB
  ·omega
  ·exact(hr.bound hN c0 c1 z).1
 have:(D.length:Int)*(RB+1)<=1600*(RB+1):=Int.mul_le_mul_of_nonneg_right U U;omega
theorem aiM (h:du g more) (hN:g.m.W*g.m.H<=1600) (gg ep gl:Int) {b key:Int} (hb:node g.m b) (E:List eB) (hE: ∀e∈E,Comes g.m b e) (hEb:E.length<=260): ∀(n k:Nat) (D:List Int) (l:List dL) (i:Int),(E.length-i).toNat<=n->n<k->0<=i->i<=E.length->Rt g goal im D l b->rd D b=key->key≠dB->l.length+2*nQ D+(E.length-i)<1000000000000->
 (∀j:Int,0<=j->j<i->rd D (rd E j).To≠dB/\rd D (rd E j).To<=key+(rd E j).kS)->
 Ok (gi.l2 k gl key E gg ep D l i) (λr=>r.1=gg/\r.2.1=ep/\Rt g goal im r.2.2.1 r.2.2.2 b/\rd r.2.2.1 b=key/\r.2.2.2.length+2*nQ r.2.2.1<=l.length+2*nQ D/\(∀e∈E,rd r.2.2.1 e.To≠dB/\rd r.2.2.1 e.To<=key+e.kS)/\ ∀c,node g.m c->rd D c≠dB->rd r.2.2.1 c≠dB/\rd r.2.2.1 c<=rd D c):=by
 have hF:dB=2147483647:=rfl;have yV:RB=104538400:=rfl;have fin: ∀(k:Nat) (D:List Int) (l:List dL) (i:Int),¬i<E.length->Rt g goal im D l b->rd D b=key->(∀j:Int,0<=j->j<i->rd D (rd E j).To≠dB/\rd D (rd E j).To<=key+(rd E j).kS)->
  Ok (gi.l2 (k+1) gl key E gg ep D l i) (λr=>r.1=gg/\r.2.1=ep/\Rt g goal im r.2.2.1 r.2.2.2 b/\rd r.2.2.1 b=key/\r.2.2.2.length+2*nQ r.2.2.1<=l.length+2*nQ D/\(∀e∈E,rd r.2.2.1 e.To≠dB/\rd r.2.2.1 e.To<=key+e.kS)/\ ∀c,node g.m c->rd D c≠dB->rd r.2.2.1 c≠dB/\rd r.2.2.1 c<=rd D c):=λk D l i hi hr hk ha=>by
  rw[gi.l2,ah hi];refine Ok.pure ⟨J,J,hr,hk,Int.le_refl _,λe he=>?_,λc _ hc=>⟨hc,Int.le_refl _⟩⟩
  obtain⟨j,j0,j1,rfl⟩:=jL he;exact ha j j0 U
 intro n
 induction n with
 |zero=>
  intro k D l i hn hk hi dZ hr j8 AR hlen ha;obtain⟨k,rfl⟩:=bl hk;exact fin k D l i U hr j8 ha
 |succ n ih=>
  intro k D l i hn hk hi dZ hr j8 AR hlen ha;obtain⟨k,rfl⟩:=bl hk
  by_cases aS:i<E.length
  ·have ju:=dU hi aS;have vR:=hE _ ju;obtain⟨c1,c2,c3,c4⟩:=F7 h hb vR;have uM:=tF h hr.len_ hb;obtain⟨d1,d2,d3,d4⟩:=hr.dv b uM.1 uM.2 (by rw[j8];exact AR)
   have Gz:=hr.bound hN uM.1 uM.2 (by rw[j8];exact AR)
   rw[j8] at d2 d3 d4 Gz;have Np:KT=65024:=rfl;have EB:=Dl hN hr;have hrk:zB D key+1<=zB D (key+(rd E i).kS):=by
    unfold zB;refine RD uM.1 uM.2 (by rw[j8];simp) (by rw[j8];simp;omega) λc _ _ hc=>?_
    simp only[decide_eq_true_iff] at hc⊢;omega
   rw[gi.l2,wi (x:=key+(rd E i).kS) U U,wi (x:=i+1) U U];refine Ok.pos aS (Ok.cx ⟨hi,aS⟩ ((WY (ge:=0) h hN hr U gg ep c1 c2 U U (.inr ⟨b,_,hb,by rw[j8];exact AR,vR,J,by rw[j8];omega⟩)).bind λr vY=>?_))
   rcases vY with⟨rfl,z1,z2⟩ |⟨D',rfl,z1,z2,z3,z4,z5,z6⟩
   ·refine Ok.neg bd (ih k D l (i+1) U U U U hr j8 AR U λj j0 j1=>?_)
    by_cases z:j=i
    ·subst z;exact⟨z1,z2⟩
    ·exact ha j j0 U
   ·refine Ok.pos J ((Lc ⟨l⟩ _ _ (by simp only;omega)).bind λq hq=>?_)
    have Oj:=z6 q.l hq.2;have gf:rd D' b=key:=by rw[z3 b uM.1 (λy=>c2 y.symm),j8]
    have GQ:=hq.1;simp only at GQ;refine(ih k D' q.l (i+1) U U U U Oj gf AR U λj j0 j1=>?_).mono λr CA=>⟨CA.1,CA.2.1,CA.2.2.1,CA.2.2.2.1,by have:=CA.2.2.2.2.1;omega,CA.2.2.2.2.2.1,λc hc qQ=>?_⟩
    rotate_left
    ·have GB:=tF h hr.len_ hc;have hd:rd D' c≠dB/\rd D' c<=rd D c:=by
      by_cases y:c=(rd E i).To
      ·rw[y,z2];rw[y] at qQ;have:=hr.bound hN (y▸GB.1) (y▸GB.2) qQ;exact⟨by omega,by omega⟩
      ·rw[z3 c GB.1 y];exact⟨qQ,Int.le_refl _⟩
     have:=CA.2.2.2.2.2.2 c hc hd.1;exact⟨this.1,by omega⟩
    by_cases y:(rd E j).To=(rd E i).To
    ·rw[y,z2]
     by_cases z:j=i
     ·subst z;exact⟨by omega,Int.le_refl _⟩
     ·have w:=(ha j j0 U).2;rw[y] at w;exact⟨by omega,by omega⟩
    ·have hj:=F7 h hb (hE _ (dU j0 (show j<E.length by omega)))
     have:=tF h hr.len_ hj.1;rw[z3 _ this.1 y];refine ha j j0 ?_;have:j≠i:=λz=>y (by rw[z])
     omega
  ·exact fin k D l i aS hr j8 ha
structure yz (g:bC) (goal:Int) (im:List (Int×Int)) (D:List Int):Prop where
 len_:(D.length:Int)=g.m.W*g.m.H
 dv: ∀c:Int,0<=c->c<D.length->rd D c≠dB->node g.m c/\0<=rd D c/\rd D c<=RB/\Pv g goal im D c (rd D c)
 rel: ∀c,node g.m c->rd D c≠dB-> ∀e,Comes g.m c e->rd D e.To≠dB/\rd D e.To<=rd D c+e.kS
 sd: ∀c∈bL g.m (aY g.m.W g.m.H goal),bR im c=true->rd D c≠dB/\rd D c<=aR im c
theorem Xf (h:du g more) (hN:g.m.W*g.m.H<=1600) (hF':qE g M) (gg ep gl:Int): ∀(n k:Nat) (D:List Int) (l:List dL) (key b:Int) (ok:Bool),(l.length+2*nQ D+(if ok then 1 else 0)).toNat<=n->n<k->l.length+2*nQ D<999999990000->
 (ok=true->Rt g goal im D (⟨key,b⟩::l) (-1))->(ok=false->l=[]/\Rt g goal im D [] (-1))->(∀c∈bL g.m (aY g.m.W g.m.H goal),bR im c=true->rd D c≠dB/\rd D c<=aR im c)->
 Ok (gi.l1 k gl M g gg ep D l key b ok) (λr=> ∃D',r=some ⟨gg,ep,D'⟩/\yz g goal im D'):=by
 have Nl:dB=2147483647:=rfl;have yV:RB=104538400:=rfl;have fin: ∀(k:Nat) (D:List Int) (l:List dL) (key b:Int) (ok:Bool),ok=false->Rt g goal im D [] (-1)->(∀c∈bL g.m (aY g.m.W g.m.H goal),bR im c=true->rd D c≠dB/\rd D c<=aR im c)->Ok (gi.l1 (k+1) gl M g gg ep D l key b ok) (λr=> ∃D',r=some ⟨gg,ep,D'⟩/\yz g goal im D'):=λk D l key b ok vW hr hs=>by
  subst vW;rw[gi.l1];refine Ok.neg bd (Ok.pure ⟨D,J,hr.len_,λc c0 c1 hc=>?_,λc hc hf e he=>?_,hs⟩)
  ·obtain⟨a,b,_,d⟩:=hr.dv c c0 c1 hc;exact⟨a,b,(hr.bound hN c0 c1 hc).2,d⟩
  ·have:=tF h hr.len_ hc;exact((hr.rel c hc U hf).resolve_left bd) e he
 intro n
 induction n with
 |zero=>
  intro k D l key b ok hn hk hlen hp hf hs;obtain⟨k,rfl⟩:=bl hk
  cases ok
  ·exact fin k D l key b false J (hf J).2 hs
  ·have:=Dl hN (hp J);simp only[if_true] at hn;omega
 |succ n ih=>
  intro k D l key b ok hn hk hlen hp hf hs;obtain⟨k,rfl⟩:=bl hk
  cases ok
  ·exact fin k D l key b false J (hf J).2 hs
  have hr:=hp J;simp only[if_true] at hn;have hph:=Dl hN hr;obtain⟨b1,b2,b3⟩:=hr.hp ⟨key,b⟩ (List.mem_cons_self ..);simp only at b1 b2 b3;have uM:=tF h hr.len_ b1;have Gz:=hr.bound hN uM.1 uM.2 b2;rw[gi.l1];refine Ok.pos J (Ok.bind (P:=λr=>r.1=gg/\r.2.1=ep/\Rt g goal im r.2.2.1 r.2.2.2 (-1)/\r.2.2.2.length+2*nQ r.2.2.1<=l.length+2*nQ D/\ ∀c∈bL g.m (aY g.m.W g.m.H goal),bR im c=true->rd r.2.2.1 c≠dB/\rd r.2.2.1 c<=aR im c) (Ok.cx uM ?_) λr vY=>?_)
  ·rw[wi U U];refine Ok.ite (λq=>Ok.pure ⟨J,J,⟨hr.len_,hr.dv,λe he=>hr.hp e (List.mem_cons_of_mem _ he),λc hc xy qQ=>?_⟩,Int.le_refl _,hs⟩) λq=>?_
   ·rcases hr.rel c hc xy qQ with y |y
    ·rcases List.mem_cons.1 y with y |y
     ·simp only[dL.mk.injEq] at y;rw[y.2] at y;omega
     ·exact .inl y
    ·exact .inr y
   ·have j8:rd D b=key:=U;have GS:Rt g goal im D l b:=⟨hr.len_,hr.dv,λe he=>hr.hp e (List.mem_cons_of_mem _ he),λc hc xy qQ=>by
     have:=tF h hr.len_ hc;rcases hr.rel c hc U qQ with y |y
     ·rcases List.mem_cons.1 y with y |y
      ·simp only[dL.mk.injEq] at y;exact absurd y.2 xy
      ·exact .inl y
     ·exact .inr y⟩
    refine(afr h hF' b).bind λE hE=>?_
    obtain⟨hE1,Gk⟩:=hE;have SP:=(Gk.resolve_right λz=>z.1 b1).2;refine(aiM h hN gg ep gl b1 E (λe he=>(SP e).1 he) hE1 260 fuel D l 0 U (by rw[cI];omega) U U GS j8 U U (λj j0 j1=>by omega)).mono λr Oj=>?_
    obtain⟨s1,s2,s3,s4,s5,s6,s7⟩:=Oj;refine⟨s1,s2,⟨s3.len_,s3.dv,s3.hp,λc hc xy qQ=>?_⟩,s5,λc hc hm=>?_⟩
    ·by_cases z:c=b
     ·subst z;exact .inr λe he=>by rw[s4];exact s6 e ((SP e).2 he)
     ·exact s3.rel c hc z qQ
    ·have w:=hs c hc hm;have:=s7 c (K3 hc) w.1;exact⟨this.1,by omega⟩
  ·obtain⟨q1,q2,q3,q4,q5⟩:=vY;obtain⟨r1,r2,D',l'⟩:=r;simp only at q1 q2 q3 q4 q5⊢;subst q1;subst q2;have aky:=Dl hN q3;refine(K9 ⟨l'⟩ (by simp only;omega)).bind λv hv=>?_
   rcases hv with⟨e1,e2⟩ |⟨e1,e2,e3,e4,e5,e6⟩
   ·simp only at e1;subst e1;subst e2;exact ih k D' [] 0 0 false (by simp only[List.length_nil] at*;simp;omega) U (by simp;simp at q4;omega) bd (λ_=>⟨J,q3⟩) q5
   ·simp only at e1 e3 e4 e5 e6;rw[e2];refine ih k D' v.2.2.2.l v.1 v.2.1 true (by simp only[if_true];omega) U U (λ_=>?_) bd q5
    rw[e3];have h0:=dU (a:=l') (i:=0) U (by have:=List.length_pos_iff.2 e1;omega)
    refine⟨q3.len_,q3.dv,λe he=>?_,λc hc xy qQ=>?_⟩
    ·rcases List.mem_cons.1 he with rfl |he
     ·exact q3.hp _ h0
     ·exact q3.hp e (e5 e he)
    ·rcases q3.rel c hc xy qQ with y |y
     ·refine .inl ?_;rcases e6 _ y with z |z
      ·rw[z];exact List.mem_cons_self ..
      ·exact List.mem_cons_of_mem _ z
     ·exact .inr y
end
section
variable {g : bC} {more : Int} {M : dM} {goal : Int} {im : List (Int × Int)}
theorem aiL (h:du g more) (hN:g.m.W*g.m.H<=1600) (hF:qE g M) (Kj: ∀c,bR im c=true->0<=aR im c/\aR im c<=500000) (gg ep:Int) (L:List Int) (hL:L=bL g.m (aY g.m.W g.m.H goal)): ∀(n k:Nat) (D:List Int) (l:List dL) (i:Int),(L.length-i).toNat<=n->n<k->0<=i->i<=L.length->Rt g goal im D l (-1)->l.length+2*nQ D+(L.length-i)<999999990000->
 (∀j:Int,0<=j->j<i->bR im (rd L j)=true->rd D (rd L j)≠dB/\rd D (rd L j)<=aR im (rd L j))->
 Ok (gi.l0 k goal M g im L gg ep D l i) (λr=> ∃D',r=some ⟨gg,ep,D'⟩/\yz g goal im D'):=by
 have Nl:dB=2147483647:=rfl;have hlN:L.length<=256:=by rw[hL];exact wj ..
 have fin: ∀(k:Nat) (D:List Int) (l:List dL) (i:Int),¬i<L.length->Rt g goal im D l (-1)->l.length+2*nQ D<999999990000->(∀j:Int,0<=j->j<i->bR im (rd L j)=true->rd D (rd L j)≠dB/\rd D (rd L j)<=aR im (rd L j))->
  Ok (gi.l0 (k+1) goal M g im L gg ep D l i) (λr=> ∃D',r=some ⟨gg,ep,D'⟩/\yz g goal im D'):=λk D l i hi hr hlen ha=>by
  rw[gi.l0,ah hi];have EB:=Dl hN hr;have Kv: ∀c∈bL g.m (aY g.m.W g.m.H goal),bR im c=true->rd D c≠dB/\rd D c<=aR im c:=λc hc hm=>by
   rw[<-hL] at hc;obtain⟨j,j0,j1,rfl⟩:=jL hc;exact ha j j0 U hm
  refine(K9 ⟨l⟩ (by simp only;omega)).bind λv hv=>?_
  rcases hv with⟨e1,e2⟩ |⟨e1,e2,e3,e4,e5,e6⟩
  ·simp only at e1;subst e1;subst e2;exact Xf h hN hF gg ep goal 1000000000000 fuel D [] 0 0 false bm (by rw[cI];omega) (by simp;simp at hlen;omega) bd (λ_=>⟨J,hr⟩) Kv
  ·simp only at e1 e3 e4 e5 e6;rw[e2];refine Xf h hN hF gg ep goal 1000000000000 fuel D v.2.2.2.l v.1 v.2.1 true (by simp only[if_true];omega) (by rw[cI];omega) U (λ_=>?_) bd Kv
   rw[e3];have h0:=dU (a:=l) (i:=0) U (by have:=List.length_pos_iff.2 e1;omega)
   refine⟨hr.len_,hr.dv,λe he=>?_,λc hc xy qQ=>?_⟩
   ·rcases List.mem_cons.1 he with rfl |he
    ·exact hr.hp _ h0
    ·exact hr.hp e (e5 e he)
   ·rcases hr.rel c hc xy qQ with y |y
    ·refine .inl ?_;rcases e6 _ y with z |z
     ·rw[z];exact List.mem_cons_self ..
     ·exact List.mem_cons_of_mem _ z
    ·exact .inr y
 intro n
 induction n with
 |zero=>
  intro k D l i hn hk hi dZ hr hlen ha;obtain⟨k,rfl⟩:=bl hk;exact fin k D l i U hr U ha
 |succ n ih=>
  intro k D l i hn hk hi dZ hr hlen ha;obtain⟨k,rfl⟩:=bl hk
  by_cases aS:i<L.length
  ·have ju:rd L i∈bL g.m (aY g.m.W g.m.H goal):=by rw[<-hL];exact dU hi aS
   have UF:=K3 ju;have EB:=Dl hN hr;rw[gi.l0,wi (x:=i+1) U U];refine Ok.pos aS ?_;rw[af (show 0<=i/\i<(L.length:Int) from⟨hi,aS⟩)]
   cases hm:bR im (rd L i)
   ·simp only[Bool.false_eq_true,if_false,aI];refine ih k D l (i+1) U U U U hr U λj j0 j1 hj=>?_
    by_cases z:j=i
    ·subst z;rw[hm] at hj;simp at hj
    ·exact ha j j0 U hj
   ·have hv:=Kj _ hm;simp only[if_true];have hrx:=WY (ge:=0) h hN hr U gg ep UF (by have:=tF h hr.len_ UF;omega) hv.1 U (.inl ⟨ju,hm,J⟩)
    obtain⟨r,e,vY⟩:=hrx;rw[e];simp only[aI];rcases vY with⟨rfl,z1,z2⟩ |⟨D',rfl,z1,z2,z3,z4,z5,z6⟩
    ·simp only[Bool.false_eq_true,if_false,aI];refine ih k D l (i+1) U U U U hr U λj j0 j1 hj=>?_
     by_cases z:j=i
     ·subst z;exact⟨z1,z2⟩
     ·exact ha j j0 U hj
    ·simp only[if_true];obtain⟨q,eq,hq⟩:=Lc ⟨l⟩ (aR im (rd L i)) (rd L i) (by simp only;omega)
     rw[eq];simp only[aI];have GQ:=hq.1;simp only at GQ;refine ih k D' q.l (i+1) U U U U (z6 q.l hq.2) U λj j0 j1 hj=>?_
     by_cases y:rd L j=rd L i
     ·rw[y,z2];exact⟨by omega,Int.le_refl _⟩
     ·have hjm:rd L j∈bL g.m (aY g.m.W g.m.H goal):=by rw[<-hL];exact dU j0 U
      have:=tF h hr.len_ (K3 hjm);rw[z3 _ this.1 y];refine ha j j0 ?_ hj;have:j≠i:=λz=>y (by rw[z])
      omega
  ·exact fin k D l i aS hr U ha
def Qs (g:bC) (goal:Int) (im:List (Int×Int)):Prop:=(∀f M,jB.f f goal M g=some im)/\ ∀c,bR im c=true->0<=aR im c/\aR im c<=500000
def sG (g:bC) (r:ic):Prop:=r.bM=g.bM/\ ∃im,Qs g r.goal im/\yz g r.goal im r.aQ
theorem aiK (h:du g more) (hN:g.m.W*g.m.H<=1600) (hF:qE g M) (f:ki) (hg:cP g.m goal):Ok (gi.f f goal M g) (λr=> ∃R,r=some R/\R.goal=goal/\sG g R):=by
 have Nl:dB=2147483647:=rfl;have yV:RB=104538400:=rfl;have hmp:=uZ h.ok.1;unfold gi.f;obtain⟨im,e,Kj⟩:=aix h hN f M hg;have afe:Qs g goal im:=⟨λf' M'=>e,Kj⟩
 have hs:=tZ (nK h.ok hg);refine Ok.eq (Dv g) (Ok.eq (Ge g) ?_);simp only;rw[wi U U];have GV:=aib (v:=dB) (n:=(g.m.W*g.m.H).toNat) U U;rw[show(((g.m.W*g.m.H).toNat:Nat):Int)=g.m.W*g.m.H by omega] at GV
 refine Ok.eq GV (Ok.eq (v:=some ⟨[]⟩) J ?_);refine Ok.eq e (Ok.eq (tY ..) (Ok.eq (ag9 hF _ hs) ?_));have Uq: ∀c:Int,0<=c->c<(g.m.W*g.m.H).toNat->rd (List.replicate (g.m.W*g.m.H).toNat dB) c=dB:=λc c0 c1=>wq c0 c1
 have hR:Rt g goal im (List.replicate (g.m.W*g.m.H).toNat dB) [] (-1):=by
  refine⟨by simp;omega,λc c0 c1 hc=>?_,by simp,λc hc _ qQ=>?_⟩
  ·rw[List.length_replicate] at c1;exact absurd (Uq c c0 c1) hc
  ·have:=(C7 hc).2;exact absurd (Uq c this.1 (by have:=this.2;omega)) qQ
 have hph:=Dl hN hR;have UE:=wj g.m (aY g.m.W g.m.H goal);refine(aiL h hN hF Kj goal g.bM _ J 256 fuel _ [] 0 U (by rw[cI];omega) U U hR bm (λj j0 j1=>by omega)).mono λr hr=>?_
 obtain⟨D',rfl,hD⟩:=hr;exact⟨_,J,J,J,im,afe,hD⟩
structure LP (g:bC) (f:ki):Prop where
 kept: ∀R,f.kept=some R->cP g.m R.goal/\R.bM<=g.bM/\(R.bM=g.bM->sG g R)
 eV:0<=f.count/\f.count<=1000000000000
def Va (g:bC) (f:ki) (goal:Int):Prop:= ∃R,f.kept=some R/\R.goal=goal/\R.bM=g.bM
theorem aic (h:du g more) (hN:g.m.W*g.m.H<=1600) (hv: ∀s:Int,bK g.m.W g.m.H s->fK g s<=g.bM) {f:ki} (hf:LP g f) (hM:Am g M) (hc:M.count+4096<=1000000000000) (N6:f.count+1<=1000000000000) (hg:cP g.m goal):
 Ok (xX.f f goal M g) (λr=> ∃R,r.1=some R/\R.goal=goal/\sG g R/\r.2.1.kept=some R/\LP g r.2.1/\f.count<=r.2.1.count/\r.2.1.count<=f.count+1/\(Va g f goal->r.2.1=f)/\qE g r.2.2/\r.2.2.clean=g.bM/\r.2.2.count=M.count+(p7 g M M.parts.length).length):=by
 have Eo:=Nb h hg;unfold xX.f;refine Ok.eq (vz h _) (Ok.neg bm ((ah6 h hv hM hc).bind λv Oq=>?_));obtain⟨hF,lO,kG⟩:=Oq;have e:(cT f.kept (some true) (λx5=>if(x5.goal !=goal)=true then(some true) else((oC.f g).bind λv6=>some (x5.bM !=v6))))=some (match f.kept with |none=>true |some R=>(R.goal !=goal||R.bM !=g.bM)):=by
  cases f.kept with
  |none=>rfl
  |some R=>
   show(if(R.goal !=goal)=true then _ else _)=some (R.goal !=goal||R.bM !=g.bM)
   by_cases z:R.goal=goal
   ·rw[ah (by simp[z]),Ge];simp[z]
   ·rw[af (by simpa using z)];simp[z]
 refine Ok.eq e (Ok.ite (λq=>?_) λq=>?_)
 ·refine(aiK h hN hF f hg).bind λr hr=>?_
  obtain⟨R,rfl,r1,r2⟩:=hr;have akt:=hf.eV;refine Ok.eq (v:=f.count+1) (zV U U U U) (Ok.pure ⟨R,rfl,r1,r2,rfl,⟨λR' tc=>?_,?_⟩,?_,?_,λ⟨R',k1,k2,k3⟩=>?_,hF,lO,kG⟩)
  ·simp only[Option.some.injEq] at tc;subst tc;exact⟨by rw[r1];exact hg,by rw[r2.1];omega,λ_=>r2⟩
  ·simp only;omega
  ·simp only;omega
  ·simp only;omega
  ·rw[k1] at q;simp[k2,k3] at q
 ·cases hk:f.kept with
  |none=>rw[hk] at q;simp at q
  |some R=>
   rw[hk] at q;simp at q;have hkk:=hf.kept R hk;exact Ok.pure ⟨R,J,q.1,hkk.2.2 q.2,hk,hf,Int.le_refl _,by simp only;omega,λ_=>rfl,hF,lO,kG⟩
theorem ZF (h:du g more) (hN:g.m.W*g.m.H<=1600) {R:ic} (hR:sG g R) (c:Int):Dj.f R c=some (if cP g.m c/\rd R.aQ c≠dB then rd R.aQ c else cN):=by
 have Nl:dB=2147483647:=rfl;have yV:RB=104538400:=rfl;obtain⟨_,im,_,hD⟩:=hR;have hl:=hD.len_;unfold Dj.f;have e:(if c<0 then(some true) else(if c≥(List.length R.aQ:Int) then(some true) else(if(0<=c/\c<(List.length R.aQ:Int)) then(some ((rd R.aQ c)==2147483647)) else none)))=some (decide (¬(cP g.m c/\rd R.aQ c≠dB))):=by
  unfold cP
  by_cases a:c<0
  ·rw[af a];simp;omega
  ·by_cases b:c≥(List.length R.aQ:Int)
   ·rw[ah a,af b];simp;omega
   ·rw[ah a,ah b,af U];congr 1;rw[Bool.eq_iff_iff];simp;omega
 rw[e];simp only[aI]
 by_cases z:cP g.m c/\rd R.aQ c≠dB
 ·have hz:=z.1;obtain⟨z0,z1⟩:=hz;have:=hD.dv c z0 U z.2;rw[ah (by simpa using z),af U,af z,wi U U]
 ·rw[af (decide_eq_true z),ah z]
end
section
variable {g : bC} {more : Int} {R : ic}
def wV (g:bC) (R:ic) (c:Int):Int:=if cP g.m c/\rd R.aQ c≠dB then rd R.aQ c else cN
theorem Q7 (hN:g.m.W*g.m.H<=1600) (hR:sG g R) {c:Int} (hc:wV g R c≠cN):cP g.m c/\rd R.aQ c≠dB/\wV g R c=rd R.aQ c/\0<=wV g R c/\wV g R c<=RB:=by
 unfold wV at hc⊢;split at hc
 ·rename_i z;obtain⟨_,im,_,hD⟩:=hR;have hl:=hD.len_;have hz:=z.1;obtain⟨z0,z1⟩:=hz;have:=hD.dv c z0 U z.2;rw[af z];exact⟨z.1,z.2,J,this.2.1,this.2.2.1⟩
 ·exact absurd J hc
def ux (g:bC) (R:ic) (c:Int) (e:eB) (x:a_):Prop:=wV g R e.To≠cN/\x=⟨dC g.m.W g.m.H c,Dr g.m.W g.m.H c e.To,e.kS+wV g R e.To⟩
theorem afp (h:du g more) (hN:g.m.W*g.m.H<=1600) (hR:sG g R) (L:List Int) (i:Int) (E:List eB) (hE:E.length<=4) (hEc: ∀e∈E,0<=e.kS/\e.kS<=255) (x0:List a_) (uR:x0.length<=10000): ∀(n k:Nat) (x:List a_) (j:Int),(E.length-j).toNat<=n->n<k->0<=j->j<=E.length->(x.length:Int)<=x0.length+j->
 (∀y,y∈x↔y∈x0∨ ∃q:Int,0<=q/\q<j/\ux g R (rd L i) (rd E q) y)->
 Ok (iI.l1 k R (g.m.W,g.m.H) L i E x j) (λr=>r.length<=x0.length+4/\ ∀y,y∈r↔y∈x0∨ ∃e∈E,ux g R (rd L i) e y):=by
 have yV:RB=104538400:=rfl;have fin: ∀(k:Nat) (x:List a_) (j:Int),¬j<E.length->j<=E.length->(x.length:Int)<=x0.length+j->(∀y,y∈x↔y∈x0∨ ∃q:Int,0<=q/\q<j/\ux g R (rd L i) (rd E q) y)->
  Ok (iI.l1 (k+1) R (g.m.W,g.m.H) L i E x j) (λr=>r.length<=x0.length+4/\ ∀y,y∈r↔y∈x0∨ ∃e∈E,ux g R (rd L i) e y):=λk x j hj iY hl hm=>by
  rw[iI.l1,ah hj];refine Ok.pure ⟨by omega,λy=>(hm y).trans (or_congr_right ⟨λ⟨q,q0,q1,w⟩=>⟨_,dU q0 U,w⟩,λ⟨e,he,w⟩=>?_⟩)⟩
  obtain⟨q,q0,q1,rfl⟩:=jL he;exact⟨q,q0,by omega,w⟩
 intro n
 induction n with
 |zero=>
  intro k x j hn hk hj iY hl hm;obtain⟨k,rfl⟩:=bl hk;exact fin k x j U iY hl hm
 |succ n ih=>
  intro k x j hn hk hj iY hl hm;obtain⟨k,rfl⟩:=bl hk
  by_cases aS:j<E.length
  ·have hc:=hEc _ (dU hj aS);have xA: ∀y,(y∈x0∨ ∃q:Int,0<=q/\q<j+1/\ux g R (rd L i) (rd E q) y)↔y∈x∨ux g R (rd L i) (rd E j) y:=λy=>by
    rw[hm y];constructor
    ·rintro(a |⟨q,q0,q1,w⟩)
     ·exact .inl (.inl a)
     ·by_cases z:q=j
      ·subst z;exact .inr w
      ·exact .inl (.inr ⟨q,q0,by omega,w⟩)
    ·rintro((a |⟨q,q0,q1,w⟩) |w)
     ·exact .inl a
     ·exact .inr ⟨q,q0,by omega,w⟩
     ·exact .inr ⟨j,hj,by omega,w⟩
   rw[iI.l1,wi (x:=j+1) U U];refine Ok.pos aS (Ok.cx ⟨hj,aS⟩ (Ok.eq (v:=wV g R (rd E j).To) (ZF h hN hR _) (Ok.ite (λq=>Ok.eq (Hg ..) (Ok.eq (ai6 ..) (Ok.cx U ?_))) λq=>?_)))
   ·have q:wV g R (rd E j).To≠cN:=by simpa using q
    have ha:=Q7 hN hR q;rw[wi U U];refine ih k _ (j+1) U U U U bm λy=>?_
    rw[xA y];unfold ux;simp[q]
   ·have q:wV g R (rd E j).To=cN:=by simpa using q
    refine ih k x (j+1) U U U U U λy=>?_
    rw[xA y];unfold ux;simp[q]
  ·exact fin k x j aS iY hl hm
def yA (g:bC) (R:ic) (s:Int) (x:a_):Prop:=
 (∃c∈bL g.m s,∃e∈wC g.m c,ux g R c e x)∨(aY g.m.W g.m.H R.goal=s/\fB g R.goal≠255/\x=⟨dC g.m.W g.m.H R.goal,4,0⟩)
theorem MO {m:aL} {c:Int} {e:eB} (he:e∈wC m c): ∃d:Int,0<=d/\d<=3/\mg m (gj m.W m.H c d)=true/\e=⟨gj m.W m.H c d,rd m.C (gj m.W m.H c d)⟩:=by
 unfold wC at he;split at he
 ·unfold xZ at he;obtain⟨j,hj,rfl⟩:=List.mem_map.1 he;obtain⟨j1,j2⟩:=List.mem_filter.1 hj;have:=List.mem_range.1 j1;exact⟨j,by omega,by omega,j2,J⟩
 ·simp at he
theorem afo (h:du g more) (hN:g.m.W*g.m.H<=1600) (hR:sG g R) (s:Int): ∀(n k:Nat) (x:List a_) (i:Int),((bL g.m s).length-i).toNat<=n->n<k->0<=i->i<=(bL g.m s).length->(x.length:Int)<=4*i->
 (∀y,y∈x↔ ∃q:Int,0<=q/\q<i/\ ∃e∈wC g.m (rd (bL g.m s) q),ux g R (rd (bL g.m s) q) e y)->
 Ok (iI.l0 k g R s (g.m.W,g.m.H) (bL g.m s) x i) (λr=>r.length<=1025/\(∀y,y∈r↔yA g R s y)/\r.Pairwise (λa b=> ¬tQ b a)):=by
 have hl:=wj g.m s;have fin: ∀(k:Nat) (x:List a_) (i:Int),¬i<(bL g.m s).length->i<=(bL g.m s).length->(x.length:Int)<=4*i->(∀y,y∈x↔ ∃q:Int,0<=q/\q<i/\ ∃e∈wC g.m (rd (bL g.m s) q),ux g R (rd (bL g.m s) q) e y)->
  Ok (iI.l0 (k+1) g R s (g.m.W,g.m.H) (bL g.m s) x i) (λr=>r.length<=1025/\(∀y,y∈r↔yA g R s y)/\r.Pairwise (λa b=> ¬tQ b a)):=λk x i hi dZ hx hm=>by
  rw[iI.l0,ah hi];have qg: ∀y,y∈x↔ ∃c∈bL g.m s,∃e∈wC g.m c,ux g R c e y:=λy=>(hm y).trans ⟨λ⟨q,q0,q1,w⟩=>⟨_,dU q0 U,w⟩,λ⟨c,hc,w⟩=>by
   obtain⟨q,q0,q1,rfl⟩:=jL hc;exact⟨q,q0,by omega,w⟩⟩
  refine Ok.eq (v:=R.goal) J (Ok.eq (v:=decide (aY g.m.W g.m.H R.goal=s/\fB g R.goal≠255)) ?_ (Ok.ite (λq=>?_) λq=>?_))
  ·simp only[tY,aI]
   by_cases z:aY g.m.W g.m.H R.goal=s
   ·rw[af (by simpa using z),vz h];simp[z];rw[Bool.eq_iff_iff];simp
   ·rw[ah (by simpa using z)];simp[z]
  ·have q:=of_decide_eq_true q;refine Ok.eq (Hg ..) (Ok.cx U ((PV _ bm).bind λr hr=>Ok.pure ⟨by have:=hr.1;simp at this;omega,λy=>?_,hr.2.2⟩))
   rw[hr.2.1 y,List.mem_append,qg y];unfold yA;simp[q.1,q.2]
  ·have q: ¬(aY g.m.W g.m.H R.goal=s/\fB g R.goal≠255):=by simpa using q
   refine(PV _ U).bind λr hr=>Ok.pure ⟨by omega,λy=>?_,hr.2.2⟩
   rw[hr.2.1 y,qg y];unfold yA;exact⟨.inl,λw=>w.resolve_right λz=>q ⟨z.1,z.2.1⟩⟩
 intro n
 induction n with
 |zero=>
  intro k x i hn hk hi dZ hx hm;obtain⟨k,rfl⟩:=bl hk;exact fin k x i U dZ hx hm
 |succ n ih=>
  intro k x i hn hk hi dZ hx hm;obtain⟨k,rfl⟩:=bl hk
  by_cases aS:i<(bL g.m s).length
  ·rw[iI.l0,wi U U];refine Ok.pos aS (Ok.bind (Ok.cx ⟨hi,aS⟩ (Ok.eq (abq h _) (afp h hN hR (bL g.m s) i (wC g.m (rd (bL g.m s) i)) (RL ..) (λe he=>?_) x U 4 fuel x 0 (by have:=RL g.m (rd (bL g.m s) i);omega) (by rw[cI];omega) U U U (λy=>⟨.inl,λw=>w.resolve_right λ⟨q,q0,q1,_⟩=>by omega⟩)))) λr hr=>ih k r (i+1) U U U U U λy=>?_)
   ·obtain⟨d,_,_,d2,rfl⟩:=MO he;have:=(Bx.1 d2).1;have:=h.sP _ this.1 this.2;simp only;omega
   ·rw[hr.2 y,hm y];constructor
    ·rintro(⟨q,q0,q1,w⟩ |w)
     ·exact⟨q,q0,by omega,w⟩
     ·exact⟨i,hi,by omega,w⟩
    ·rintro⟨q,q0,q1,w⟩
     by_cases z:q=i
     ·subst z;exact .inr w
     ·exact .inl ⟨q,q0,by omega,w⟩
  ·exact fin k x i aS dZ hx hm
theorem afq (h:du g more) (hN:g.m.W*g.m.H<=1600) (hR:sG g R) (s:Int):Ok (iI.f g R s) (λr=>r.length<=1025/\(∀y,y∈r↔yA g R s y)/\r.Pairwise (λa b=> ¬tQ b a)):=by
 have hl:=wj g.m s;unfold iI.f;refine Ok.eq (Dv g) (Ok.eq (v:=R.bM) rfl (Ok.eq (Ge g) (Ok.neg (by simp[hR.1]) (Ok.eq (VM h s) (afo h hN hR s 256 fuel [] 0 U (by rw[cI];omega) U U bd (λy=>⟨λq=>by simp at q,λ⟨q,q0,q1,_⟩=>by omega⟩))))))
theorem aiQ (h:du g more) (hN:g.m.W*g.m.H<=1600) (hR:sG g R) (hg:cP g.m R.goal) {s:Int} (hs:bK g.m.W g.m.H s) {x:a_} (hx:yA g R s x):qG (fN g.m s) x/\x.Key+254*256<=104603678:=by
 have yV:RB=104538400:=rfl;rcases hx with⟨c,hc,e,he,ha,rfl⟩ |⟨h1,h2,rfl⟩
 ·obtain⟨n1,n2,n3,n4⟩:=u9 hc;obtain⟨d,d0,d3,d4,rfl⟩:=MO he;have eK:=nK h.ok n2;have kH:=Bq h n2;rw[n4] at kH;have aT:=(Bx.1 d4).1;have vX:=VY (w:=g.m.W) (h:=g.m.H) (c:=c) (side:=d) aT.1;have hb:=h.sP _ aT.1 aT.2;have hav:=Q7 hN hR ha;simp only at ha hav;have bQ:=(Bx.1 d4).2;have cu:=EK eK;have nf:=Ed eK;rw[n4] at cu nf;have Ux:=K7 hs cu.1 cu.2 d0 d3;rw[nf] at Ux;have CC:Dr g.m.W g.m.H c (gj g.m.W g.m.H c d)=d:=by
   rw[vX.2.2.2.2.1];exact Xl eK d0 U (by rw[<-vX.2.2.2.2.1];exact vX.2.2.2.1)
  refine⟨⟨kH.1,kH.2.1,?_,by simp only;omega,by simp only;omega,?_⟩,by simp only;omega⟩
  ·simp only;rw[kH.2.2];unfold fB;rw[af n2];exact(Bx.1 n1).2
  ·simp only;rw[CC];exact .inr ⟨d0,d3,(Ux.1 aT.1).2⟩
 ·have kH:=Bq h hg;rw[h1] at kH;exact⟨⟨kH.1,kH.2.1,by simp only;rw[kH.2.2];exact h2,by simp,by simp,.inl J⟩,by simp⟩
end
section
theorem P0 {a b:fZ} (ha:qD a CB) (hb:qD b CB):mP.f a b=some ⟨a.bA+b.bA,a.bB+b.bB,a.bz+b.bz,a.bw+b.bw,a.bF+b.bF,a.bD+b.bD⟩:=by
 obtain⟨a1,a2,a3,a4,a5,a6⟩:=ha;obtain⟨b1,b2,b3,b4,b5,b6⟩:=hb;have Nj:CB=1000000000000:=rfl;unfold mP.f mh.f;simp only[aI];have e0: ∀a b c d e f:Int,rd [a,b,c,d,e,f] 0=a:=λ_ _ _ _ _ _=>rfl
 have e1: ∀a b c d e f:Int,rd [a,b,c,d,e,f] 1=b:=λ_ _ _ _ _ _=>rfl
 have e2: ∀a b c d e f:Int,rd [a,b,c,d,e,f] 2=c:=λ_ _ _ _ _ _=>rfl
 have e3: ∀a b c d e f:Int,rd [a,b,c,d,e,f] 3=d:=λ_ _ _ _ _ _=>rfl
 have e4: ∀a b c d e f:Int,rd [a,b,c,d,e,f] 4=e:=λ_ _ _ _ _ _=>rfl
 have e5: ∀a b c d e f:Int,rd [a,b,c,d,e,f] 5=f:=λ_ _ _ _ _ _=>rfl
 have s0: ∀a b c d e f v:Int,List.set [a,b,c,d,e,f] (Int.toNat 0) v=[v,b,c,d,e,f]:=λ_ _ _ _ _ _ _=>rfl
 have s1: ∀a b c d e f v:Int,List.set [a,b,c,d,e,f] (Int.toNat 1) v=[a,v,c,d,e,f]:=λ_ _ _ _ _ _ _=>rfl
 have s2: ∀a b c d e f v:Int,List.set [a,b,c,d,e,f] (Int.toNat 2) v=[a,b,v,d,e,f]:=λ_ _ _ _ _ _ _=>rfl
 have s3: ∀a b c d e f v:Int,List.set [a,b,c,d,e,f] (Int.toNat 3) v=[a,b,c,v,e,f]:=λ_ _ _ _ _ _ _=>rfl
 have s4: ∀a b c d e f v:Int,List.set [a,b,c,d,e,f] (Int.toNat 4) v=[a,b,c,d,v,f]:=λ_ _ _ _ _ _ _=>rfl
 have s5: ∀a b c d e f v:Int,List.set [a,b,c,d,e,f] (Int.toNat 5) v=[a,b,c,d,e,v]:=λ_ _ _ _ _ _ _=>rfl
 have w0:aa (0+1)=1:=rfl;have w1:aa (1+1)=2:=rfl;have w2:aa (2+1)=3:=rfl;have w3:aa (3+1)=4:=rfl;have w4:aa (4+1)=5:=rfl;have w5:aa (5+1)=6:=rfl;simp only[e0,e1,e2,e3,e4,e5];have st: ∀(k:Nat) (x7 x8 x9 aN bj bx y7 y8 y9 z_ Aa Ab i v:Int),0<=i->i<6->sv.f (rd [y7,y8,y9,z_,Aa,Ab] i) (rd [x7,x8,x9,aN,bj,bx] i)=some v->
  mP.l0 (k+1) x7 x8 x9 aN bj bx y7 y8 y9 z_ Aa Ab i=mP.l0 k x7 x8 x9 aN bj bx (rd (List.set [y7,y8,y9,z_,Aa,Ab] (Int.toNat i) v) 0) (rd (List.set [y7,y8,y9,z_,Aa,Ab] (Int.toNat i) v) 1) (rd (List.set [y7,y8,y9,z_,Aa,Ab] (Int.toNat i) v) 2) (rd (List.set [y7,y8,y9,z_,Aa,Ab] (Int.toNat i) v) 3) (rd (List.set [y7,y8,y9,z_,Aa,Ab] (Int.toNat i) v) 4) (rd (List.set [y7,y8,y9,z_,Aa,Ab] (Int.toNat i) v) 5) (aa (i+1)):=by
  intro k x7 x8 x9 aN bj bx y7 y8 y9 z_ Aa Ab i v h0 h1 hv;rw[mP.l0,af h1,af ⟨h0,h1⟩,af ⟨h0,h1⟩,hv,aI,af ⟨h0,h1⟩]
 obtain⟨k,hk⟩: ∃q,fuel=q+1+1+1+1+1+1+1:=⟨fuel-7,by rw[cI]⟩
 rw[hk];rw[st _ _ _ _ _ _ _ _ _ _ _ _ _ 0 (a.bA+b.bA) U U (by rw[e0,e0];exact zV U U U U)]
 simp only[s0,e0,e1,e2,e3,e4,e5,w0];rw[st _ _ _ _ _ _ _ _ _ _ _ _ _ 1 (a.bB+b.bB) U U (by rw[e1,e1];exact zV U U U U)]
 simp only[s1,e0,e1,e2,e3,e4,e5,w1];rw[st _ _ _ _ _ _ _ _ _ _ _ _ _ 2 (a.bz+b.bz) U U (by rw[e2,e2];exact zV U U U U)]
 simp only[s2,e0,e1,e2,e3,e4,e5,w2];rw[st _ _ _ _ _ _ _ _ _ _ _ _ _ 3 (a.bw+b.bw) U U (by rw[e3,e3];exact zV U U U U)]
 simp only[s3,e0,e1,e2,e3,e4,e5,w3];rw[st _ _ _ _ _ _ _ _ _ _ _ _ _ 4 (a.bF+b.bF) U U (by rw[e4,e4];exact zV U U U U)]
 simp only[s4,e0,e1,e2,e3,e4,e5,w4];rw[st _ _ _ _ _ _ _ _ _ _ _ _ _ 5 (a.bD+b.bD) U U (by rw[e5,e5];exact zV U U U U)]
 simp only[s5,e0,e1,e2,e3,e4,e5,w5];rw[mP.l0,ah U]
structure LV (m:aL):Prop where
 ok:uv m
 sP: ∀c:Int,0<=c->c<m.W*m.H->1<=rd m.C c/\rd m.C c<=255
 ln:m.W*m.H<=1600
structure X8 (c:d_) (b:Int):Prop where
 gs:du c.aB 0
 ln:c.aB.m.W*c.aB.m.H<=1600
 Ft: ∀s:Int,bK c.aB.m.W c.aB.m.H s->1<=fK c.aB s/\fK c.aB s<=c.aB.bM
 ep:c.aB.bM<=b
 ms:Am c.aB c.iK
 fs:LP c.aB c.jg
def gy (n:bV):fZ:=⟨n.aV.bA+(match n.core with |none=>0 |some c=>c.iK.count)+n.fV.count.bA,n.aV.bB+(match n.core with |none=>0 |some c=>c.jg.count)+n.fV.count.bB,n.aV.bz+n.fV.count.bz,n.aV.bw+n.fV.count.bw,n.aV.bF+n.fV.count.bF,n.aV.bD+n.fV.count.bD⟩
structure il (n:bV) (k b:Int) (ord:List Int):Prop where
 oI:rJ n.fV.keys k ord
 aV:qD n.aV b
 sc:qD n.fV.count b
 z:n.fV.count.bA=0/\n.fV.count.bB=0
 ko:qD (gy n) b
 none_:n.core=none->n.fV.fields=[]/\ord=[]
 core: ∀c,n.core=some c->X8 c b/\c.iK.count<=b/\c.jg.count<=b/\BW c.aB n.fV k ord
def kD (n:bV):fZ:=⟨(match n.core with |none=>0 |some c=>c.iK.count),(match n.core with |none=>0 |some c=>c.jg.count),0,0,0,0⟩
section
variable {n : bV} {k b : Int} {ord : List Int}
theorem RE (n:bV):zw.f n=some (kD n):=by
 unfold zw.f kD
 cases n.core with
 |none=>rfl
 |some c=>rfl
theorem il.cv (h:il n k b ord) (hb:0<=b):qD (kD n) b:=by
 unfold kD
 cases hc:n.core with
 |none=>exact⟨⟨Int.le_refl _,hb⟩,⟨Int.le_refl _,hb⟩,⟨Int.le_refl _,hb⟩,⟨Int.le_refl _,hb⟩,⟨Int.le_refl _,hb⟩,⟨Int.le_refl _,hb⟩⟩
 |some c=>
  obtain⟨h1,h2,h3,_⟩:=h.core c hc;exact⟨⟨h1.ms.eV.1,h2⟩,⟨h1.fs.eV.1,h3⟩,⟨Int.le_refl _,hb⟩,⟨Int.le_refl _,hb⟩,⟨Int.le_refl _,hb⟩,⟨Int.le_refl _,hb⟩⟩
theorem abf {x y:fZ} {b c:Int} (hx:qD x b) (hy:qD y c):qD ⟨x.bA+y.bA,x.bB+y.bB,x.bz+y.bz,x.bw+y.bw,x.bF+y.bF,x.bD+y.bD⟩ (b+c):=by
 obtain⟨a1,a2,a3,a4,a5,a6⟩:=hx;obtain⟨b1,b2,b3,b4,b5,b6⟩:=hy;exact⟨by simp only;omega,by simp only;omega,by simp only;omega,by simp only;omega,by simp only;omega,by simp only;omega⟩
theorem ajm (h:il n k b ord) (hb:0<=b/\b<=100000000000):C2.f n=some (gy n):=by
 have Nj:CB=1000000000000:=rfl;have GC:=h.cv hb.1;unfold C2.f Fe.f;rw[RE,aI,P0 (h.aV.mono U) (GC.mono U),aI,aI,P0 ((abf h.aV GC).mono U) (h.sc.mono U)];simp[gy,kD]
theorem ag3 {k:Int} (h1:1<=k) (h2:k<=1000000): ∃n,xO.f k=some (some n)/\il n k 0 []/\n.core=none/\gy n=⟨0,0,0,0,0,0⟩:=by
 obtain⟨s,e,hs,hf,hc⟩:=ai9 h1 h2;have hz:qD ⟨0,0,0,0,0,0⟩ 0:=⟨by simp,by simp,by simp,by simp,by simp,by simp⟩
 unfold xO.f;rw[ah U,e];exact⟨_,J,⟨hs,hz,by rw[hc];exact hz,by rw[hc];exact⟨J,J⟩,by simp[gy,hc];exact hz,λ_=>⟨hf,J⟩,λc hc=>by simp at hc⟩,J,by simp[gy,hc]⟩
theorem ER {c:d_} (h:il n k b ord) (hc:n.core=some c) (x:Int):qk.f n x=some (fB c.aB x):=by
 unfold qk.f;rw[hc]
 show(iU.f c.aB x).bind _=_
 rw[vz (h.core c hc).1.gs];rfl
theorem VN {c:d_} (hc:n.core=some c):zv.f n=some (c.aB.m.W,c.aB.m.H):=by
 unfold zv.f;rw[hc];rfl
theorem il.mono {b':Int} (h:il n k b ord) (hb:b<=b'):il n k b' ord:=
 ⟨h.oI,h.aV.mono hb,h.sc.mono hb,h.z,h.ko.mono hb,h.none_,λc hc=>by
   obtain⟨h1,h2,h3,h4⟩:=h.core c hc;exact⟨⟨h1.gs,h1.ln,h1.Ft,by have:=h1.ep;omega,h1.ms,h1.fs⟩,by omega,by omega,h4⟩⟩
structure Af (n:bV) (k b:Int) (ord:List Int) (c:d_) (goal s:Int) (r:fR×Er×bV):Prop where
 err:r.2.1=Er.nil
 AG: ∃R l c' mH,sG c.aB R/\R.goal=goal/\l.length<=1025/\(∀y,y∈l↔yA c.aB R s y)/\l.Pairwise (λa b=> ¬tQ b a)/\uo (fN c.aB.m s) l KF r.1/\
  r.2.2.core=some c'/\c'.aB=c.aB/\c'.jg.kept=some R/\qE c.aB c'.iK/\c'.iK.clean=c.aB.bM/\c'.iK.count=c.iK.count+(p7 c.aB c.iK c.iK.parts.length).length/\
  c.jg.count<=c'.jg.count/\c'.jg.count<=c.jg.count+1/\(Va c.aB c.jg goal->c'.jg=c.jg)/\
  il r.2.2 k (b+5000) mH/\Qj c.aB n.fV k ord goal s l (r.1,0,r.2.2.fV)/\r.2.2.aV=n.aV/\iI.f c.aB R s=some l
theorem VJ {c:d_} (h:il n k b ord) (hb:0<=b/\b<=100000000000) (hc:n.core=some c) {goal s:Int} (hg:cP c.aB.m goal) (hs:bK c.aB.m.W c.aB.m.H s):
 Ok (qX.f n goal s) (Af n k b ord c goal s):=by
 have Nj:CB=1000000000000:=rfl;obtain⟨gN,UB,N6,zh⟩:=h.core c hc;have hG:=gN.gs;have Eo:=Nb hG hg;have Cs:=MR c.aB c.iK c.iK.parts.length;have Of:=gN.ms.len_;have NY:=pn c.aB.m.W c.aB.m.H;unfold qX.f;rw[hc];refine Ok.eq (v:=false) J (Ok.neg bd ?_)
 show Ok ((l_.f c.aB s).bind _) _
 refine Ok.eq ((P4 hG s).trans (by rw[SI hs])) (Ok.eq (vz hG _) (Ok.neg bm ((aic hG gN.ln (λs hs=>(gN.Ft s hs).2) gN.fs gN.ms U U hg).bind λv hv=>?_)))
 obtain⟨R,e1,e2,e3,e4,e5,e6,e7,e8,e9,p8,yQ⟩:=hv;rw[e1]
 show Ok ((iI.f c.aB R s).bind _) _
 obtain⟨l,el,l1,l2,l3⟩:=afq hG gN.ln e3 s;refine Ok.eq el ?_;rw[Qc hG,aI];have ae1:=ai1 hG (λs hs=>(gN.Ft s hs).2) zh (h.sc.mono U) hg hs l U (λx hx=>aiQ hG gN.ln e3 (by rw[e2];exact hg) hs ((l2 x).1 hx))
 refine(ae1.bind' (g:=λv32:fR×Int×jD=>(v32.1.fc,v32.1.bX,v32.2.1,v32.2.2)) λq hq=>?_);have GP:=hq.code;obtain⟨f,z,sh⟩:=q;simp only at GP;subst GP;simp only;refine Ok.neg bd (Ok.pure ⟨J,R,l,⟨c.aB,v.2.2,v.2.1⟩,?_⟩);obtain⟨cc,A,B,g1,g2⟩:=hq.sh;obtain⟨k1,k2,k3,k4,k5,k6,k7,k8,k9⟩:=hq.eV;simp only at g1 g2 k1 k2 k3 k4 k5 k6 k7 k8 k9;obtain⟨s1,s2,s3,s4,s5,s6⟩:=h.sc;refine⟨cc::(A++B),e3,e2,l1,l2,l3,hq.AG,J,J,e4,e9,p8,yQ,e6,e7,e8,⟨g1.oI,h.aV.mono U,⟨by simp only;omega,by simp only;omega,by simp only;omega,by simp only;omega,by simp only;omega,by simp only;omega⟩,?_,?_,λz=>by simp at z,λc' j7=>?_⟩,hq,J,el⟩
 ·have:=h.z;simp only;omega
 ·have ht:=h.ko;unfold gy at ht⊢;simp only[hc] at ht;obtain⟨t1,t2,t3,t4,t5,t6⟩:=ht;simp only at t1 t2 t3 t4 t5 t6;exact⟨by simp only;omega,by simp only;omega,by simp only;omega,by simp only;omega,by simp only;omega,by simp only;omega⟩
 ·simp only[Option.some.injEq] at j7;subst j7;exact⟨⟨hG,gN.ln,gN.Ft,by have:=gN.ep;simp only;omega,e9.ms,e5⟩,by simp only;omega,by simp only;omega,g1⟩
theorem ag1 {c:d_} (h:il n k b ord) (hc:n.core=some c) {goal s:Int} (gO: ¬(cP c.aB.m goal/\bK c.aB.m.W c.aB.m.H s)):
 qX.f n goal s=some (⟨[],[]⟩,Er.wrap 222 [goal] (Er.eF 3),n):=by
 obtain⟨gN,UB,N6,zh⟩:=h.core c hc;unfold qX.f;rw[hc];simp only[cT,aI,Bool.false_eq_true,if_false];rw[P4 gN.gs,aI,vz gN.gs,aI,af]
 by_cases z:cP c.aB.m goal
 ·have: ¬bK c.aB.m.W c.aB.m.H s:=λy=>gO ⟨z,y⟩
  unfold Gh;rw[ah this];simp
 ·unfold fB;rw[ah z];simp
theorem VH:zy.f Er.nil=some 0:=rfl
theorem agV (g:Int):zy.f (Er.wrap 222 [g] (Er.eF 3))=some 7:=rfl
theorem K1 (h:il n k b ord): ∃n',tD.f n=some n'/\il n' k b []/\gy n'=gy n/\n'.aV=n.aV/\n'.fV.count=n.fV.count/\
 ((n.core=none/\n'.core=none)∨ ∃c,n.core=some c/\n'.core=some ⟨c.aB,c.iK,⟨none,c.jg.count⟩⟩):=by
 obtain⟨s,e,hs,hf,kG⟩:=Sj h.oI;unfold tD.f;rw[e,aI]
 cases hc:n.core with
 |none=>
  have vG:gy ⟨none,s,n.aV⟩=gy n:=by simp[gy,kG,hc]
  exact⟨_,J,⟨hs,h.aV,by rw[kG];exact h.sc,by rw[kG];exact h.z,by rw[vG];exact h.ko,λ_=>⟨hf,J⟩,λc hc=>by simp at hc⟩,vG,J,kG,.inl ⟨J,J⟩⟩
 |some c=>
  obtain⟨h1,h2,h3,h4⟩:=h.core c hc;have vG:gy ⟨some ⟨c.aB,c.iK,⟨none,c.jg.count⟩⟩,s,n.aV⟩=gy n:=by simp[gy,kG,hc]
  refine⟨_,J,⟨hs,h.aV,by rw[kG];exact h.sc,by rw[kG];exact h.z,by rw[vG];exact h.ko,λz=>by simp at z,λc' j7=>?_⟩,vG,J,kG,.inr ⟨c,J,J⟩⟩
  ·simp only[Option.some.injEq] at j7;subst j7;exact⟨⟨h1.gs,h1.ln,h1.Ft,h1.ep,h1.ms,⟨λR hR=>by simp at hR,h1.fs.eV⟩⟩,h2,h3,BW.empty _ hs hf⟩
theorem ag2 {c:d_} (h:il n k b ord) (hc:n.core=some c):wh.f n=some c.aB.m:=by
 obtain⟨gN,_⟩:=h.core c hc;have:=gN.ln;have:=gN.gs.ok.2.1;unfold wh.f;rw[hc];simp only[cT];rw[acp _ U];rfl
theorem O1 (h:il n k b ord) (hb:0<=b/\b<=100000000000) {m:aL} (hm:LV m): ∃n' c',u7.f n m=some (0,n')/\n'.core=some c'/\il n' k (b+1) []/\c'.aB.m=m/\c'.jg=⟨none,0⟩/\gy n'=gy n/\(∀s:Int,bK m.W m.H s->(rd c'.iK.parts s).version≠fK c'.aB s)/\n'.fV.count=n.fV.count:=by
 have Nj:CB=1000000000000:=rfl;have GF:=hm.ln;have hl:=hm.ok.2.1;obtain⟨s,e,hs,hf,kG⟩:=Sj h.oI;have GC:=h.cv hb.1;have afb:=P0 (h.aV.mono (b':=CB) U) (GC.mono (b':=CB) U);have key: ∀ep:Int,0<=ep->ep<=b-> ∃n' c',((lN.f m ep).bind λv6=>cT v6 none λvi=>(r8.f vi).bind λv7=>cT v7 none λrE=>(ra.f rE vi).bind λv8=>cT v8 none λyn=>(pO.f n.fV).bind λv9=>some ((0:Int),bV.mk (some (d_.mk vi rE yn)) v9 ⟨n.aV.bA+(kD n).bA,n.aV.bB+(kD n).bB,n.aV.bz+(kD n).bz,n.aV.bw+(kD n).bw,n.aV.bF+(kD n).bF,n.aV.bD+(kD n).bD⟩))=some (0,n')/\n'.core=some c'/\il n' k (b+1) []/\c'.aB.m=m/\c'.jg=⟨none,0⟩/\gy n'=gy n/\(∀s:Int,bK m.W m.H s->(rd c'.iK.parts s).version≠fK c'.aB s)/\n'.fV.count=n.fV.count:=by
  intro ep h0 h1;have hgn:JL m ep=some (bC.mk m (ep+1) (List.replicate (eh m.W m.H).toNat (ep+1))):=by unfold JL;rw[af ⟨hm.ok,h0,by omega⟩]
  rw[acq m ep U,hgn];have NY:=pn m.W m.H;have hG:du (bC.mk m (ep+1) (List.replicate (eh m.W m.H).toNat (ep+1))) 0:=⟨hm.ok,hm.sP,by simp;omega,by simp only;omega⟩
  have Ot: ∀s:Int,bK m.W m.H s->fK (bC.mk m (ep+1) (List.replicate (eh m.W m.H).toNat (ep+1))) s=ep+1:=λs hs=>by
   unfold fK;rw[af hs];simp only;rw[wq hs.1 (by have:=hs.2;omega)]
  obtain⟨M,eM,hM,hM0,_,hMv⟩:=agA hG (λs hs=>by rw[Ot s hs];omega)
  simp only[cT,aI,eM,ra.f,e];have ht:=h.ko;have hz:=h.z;have hpc:qD ⟨n.aV.bA+(kD n).bA,n.aV.bB+(kD n).bB,n.aV.bz+(kD n).bz,n.aV.bw+(kD n).bw,n.aV.bF+(kD n).bF,n.aV.bD+(kD n).bD⟩ (b+1):=by
   obtain⟨t1,t2,t3,t4,t5,t6⟩:=ht;obtain⟨s1,s2,s3,s4,s5,s6⟩:=h.sc;obtain⟨p1,p2,p3,p4,p5,p6⟩:=h.aV;obtain⟨v1,v2,v3,v4,v5,v6⟩:=GC;simp only[gy] at t1 t2 t3 t4 t5 t6;simp only[kD] at v1 v2 v3 v4 v5 v6⊢;exact⟨by simp only;omega,by simp only;omega,by simp only;omega,by simp only;omega,by simp only;omega,by simp only;omega⟩
  have vG: ∀G,gy ⟨some ⟨G,M,⟨none,0⟩⟩,s,⟨n.aV.bA+(kD n).bA,n.aV.bB+(kD n).bB,n.aV.bz+(kD n).bz,n.aV.bw+(kD n).bw,n.aV.bF+(kD n).bF,n.aV.bD+(kD n).bD⟩⟩=gy n:=λG=>by simp only[gy,kG,hM0,kD];congr 1<;>omega
  refine⟨_,_,J,J,⟨hs,hpc,by rw[kG];exact h.sc.mono U,by rw[kG];exact h.z,by rw[vG];exact ht.mono U,λz=>by simp at z,λc' j7=>?_⟩,J,J,vG _,λs hs=>?_,kG⟩
  ·simp only[Option.some.injEq] at j7;subst j7;refine⟨⟨hG,GF,λs hs=>?_,by simp only;omega,hM,⟨λR hR=>by simp at hR,by simp⟩⟩,by simp only;omega,by simp only;omega,BW.empty _ hs hf⟩
   rw[Ot s hs];simp only;omega
  ·simp only;rw[hMv s hs,Ot s hs];omega
 unfold u7.f;rw[Q3 m U,decide_eq_true hm.ok];simp only[aI,Bool.not_true,Bool.false_eq_true,if_false];rw[RE,aI,afb,aI]
 cases hc:n.core with
 |none=>exact key 0 (Int.le_refl _) hb.1
 |some c=>
  obtain⟨h1,_⟩:=h.core c hc;have:=h1.gs.ep;exact key c.aB.bM U h1.ep
end
end
section
variable {g : bC} {more : Int}
theorem OE (h:du g more) {c v:Int} (hc:cP g.m c) {d:Int} (d0:0<=d):rd (mY g c v).m.C d=if d=c then v else rd g.m.C d:=by
 have hl:=h.ok.2.1;exact lB hc.1 (by rw[hl];exact hc.2) d0
theorem Vl (h:du g more) {c v:Int} (hc:cP g.m c) {s:Int} (hs:bK g.m.W g.m.H s) (bQ:s≠aY g.m.W g.m.H c):fN (mY g c v).m s=fN g.m s:=by
 have hz:=zR g.m.W g.m.H s
 show aL.mk _ _ _=aL.mk _ _ _
 congr 1
 unfold kQ;refine List.map_congr_left λl hl=>?_
 have hl:l<((ax g.m.W g.m.H s).1*(ax g.m.W g.m.H s).2).toNat:=List.mem_range.1 hl;have cu:=AH hs (l:=(l:Int)) U U;have zg:=Ll hs (l:=(l:Int)) U U
 show rd (mY g c v).m.C (dn g.m.W g.m.H s l)=_
 rw[OE h hc cu.1,ah (λz=>bQ (by rw[<-z,zg]))]
theorem aa7 {w h s c:Int} (hc:c∈rh w h s):0<=c/\bK w h s/\aY w h c=s:=by
 unfold rh wB at hc;obtain⟨l,hl,rfl⟩:=List.mem_map.mp hc;have hz:=zR w h s;have kl:=List.mem_range.mp (List.mem_filter.mp hl).1;have hs:=PU (w:=w) (h:=h) (s:=s) (l:=(l:Int)) U U;exact⟨(AH hs U U).1,hs,Ll hs U U⟩
theorem af5 (h:du g more) {c v:Int} (hc:cP g.m c) {s:Int} (bQ:s≠aY g.m.W g.m.H c):bL (mY g c v).m s=bL g.m s:=by
 unfold bL;refine List.filter_congr λd hd=>?_
 obtain⟨d0,_,d2⟩:=aa7 hd;have hd2:aY g.m.W g.m.H d=s:=d2;unfold mg;rw[OE h hc d0,ah (λz=>bQ (by rw[<-z];exact hd2.symm))]
 rfl
theorem OG (h:du g more) {c v:Int} (hc:cP g.m c) {s:Int} (hs:bK g.m.W g.m.H s):fK (mY g c v) s=if s=aY g.m.W g.m.H c then g.bM+1 else fK g s:=by
 have nD:=tZ (nK h.ok hc);have UR:=h.vs;have e:fK (mY g c v) s=rd (List.set g.pS (aY g.m.W g.m.H c).toNat (g.bM+1)) s:=by unfold fK;exact af hs
 rw[e,lB nD.1 (by rw[UR];exact nD.2) hs.1]
 split
 ·rfl
 ·unfold fK;rw[af hs]
variable {n : bV} {k b : Int} {ord : List Int}
theorem O0 {c:d_} (h:il n k b ord) (hb:0<=b/\b<=100000000000) (hc:n.core=some c) {x v:Int} (hx:cP c.aB.m x) (v1:1<=v) (v2:v<=255):
 ∃n',xM.f n x v=some (0,n')/\n'.core=some ⟨mY c.aB x v,c.iK,c.jg⟩/\n'.fV=n.fV/\n'.aV=n.aV/\il n' k (b+1) ord/\gy n'=gy n:=by
 obtain⟨gN,UB,N6,zh⟩:=h.core c hc;have hG:=gN.gs;have N5:=hG.ep;have aks:=gN.ep;have hG1:du c.aB 1:=⟨hG.ok,hG.sP,hG.vs,by omega⟩
 have hG':=af6 hG1 (Int.le_refl 1) hx v1 v2;unfold xM.f;rw[hc];simp only[cT];rw[abM hG];have e:JK c.aB x v=(0,mY c.aB x v):=by unfold JK;rw[ah (λq=>q hx),ah U]
 rw[e];have part: ∀s p,bK c.aB.m.W c.aB.m.H s->s≠aY c.aB.m.W c.aB.m.H x->BU c.aB.m s p->BU (mY c.aB x v).m s p:=λs p hs bQ hp=>by
  have e1:=af5 (v:=v) hG hx bQ;have e2:=Vl (v:=v) hG hx hs bQ;refine⟨by rw[e1];exact hp.nodes,by rw[e1];exact hp.len_,?_⟩
  rw[e1,e2];exact hp.RF
 have vG: ∀G,gy ⟨some ⟨G,c.iK,c.jg⟩,n.fV,n.aV⟩=gy n:=λG=>by simp[gy,hc]
 refine⟨_,J,J,J,J,⟨h.oI,h.aV.mono U,h.sc.mono U,h.z,by rw[vG];exact h.ko.mono U,λz=>by simp at z,λc' j7=>?_⟩,vG _⟩
 simp only[Option.some.injEq] at j7;subst j7;have vR:(mY c.aB x v).bM=c.aB.bM+1:=rfl;refine⟨⟨hG',gN.ln,λs hs=>?_,by rw[vR];omega,⟨gN.ms.len_,λs hs=>?_,λs hs e=>?_,λe=>?_,?_,gN.ms.eV⟩,⟨λR hR=>?_,gN.fs.eV⟩⟩,by simp only;omega,by simp only;omega,⟨zh.oI,zh.fl,λd d0 d1=>?_⟩⟩
 ·have fT:bK c.aB.m.W c.aB.m.H s:=hs;have:=gN.Ft s fT;simp only[vR];rw[OG hG hx fT];split<;>omega
 ·have:=gN.ms.le s hs;simp only[vR];omega
 ·have fT:bK c.aB.m.W c.aB.m.H s:=hs;have hle:=gN.ms.le s fT;simp only at e⊢;rw[OG hG hx fT] at e
  by_cases z:s=aY c.aB.m.W c.aB.m.H x
  ·rw[af z] at e;omega
  ·rw[ah z] at e;exact part s _ fT z (gN.ms.ok s fT e)
 ·have:=gN.ms.MH;simp only[vR] at e;omega
 ·have:=gN.ms.MH;simp only[vR];omega
 ·obtain⟨k1,k2,k3⟩:=gN.fs.kept R hR;exact⟨k1,by simp only[vR];omega,λe=>by simp only[vR] at e;omega⟩
 ·obtain⟨s1,s2,s3,s4⟩:=zh.ok d d0 d1;refine⟨s1,s2,by simp only[vR];omega,λe=>?_⟩
  simp only at e⊢;rw[OG hG hx s2] at e
  by_cases z:(rd n.fV.keys.ak d).key.2=aY c.aB.m.W c.aB.m.H x
  ·rw[af z] at e;omega
  ·rw[ah z] at e;have:=s4 e;rw[Vl hG hx s2 z];exact this
theorem O7 {c:d_} (h:il n k b ord) (hb:0<=b/\b<=100000000000) (hc:n.core=some c) (goal x:Int):
 Ok (xN.f n goal x) (λr=>(cP c.aB.m goal/\cP c.aB.m x/\r.2.2.1=0/\ ∃f,Af n k b ord c goal (aY c.aB.m.W c.aB.m.H x) (f,Er.nil,r.2.2.2)/\r.1=rd f.fc (dC c.aB.m.W c.aB.m.H x)/\r.2.1=rd f.bX (dC c.aB.m.W c.aB.m.H x))∨
  (¬(cP c.aB.m goal/\cP c.aB.m x)/\r.2.2.1=7/\r.2.2.2=n)):=by
 obtain⟨gN,_⟩:=h.core c hc;have hG:=gN.gs;unfold xN.f zx.f;rw[VN hc,aI,tY,aI];simp only
 by_cases z:cP c.aB.m goal/\cP c.aB.m x
 ·have hs:=tZ (nK hG.ok z.2);have kH:=Bq hG z.2;refine Ok.bind (P:=λr=>r.2.2.1=Er.nil/\ ∃f,Af n k b ord c goal (aY c.aB.m.W c.aB.m.H x) (f,Er.nil,r.2.2.2)/\r.1=rd f.fc (dC c.aB.m.W c.aB.m.H x)/\r.2.1=rd f.bX (dC c.aB.m.W c.aB.m.H x)) ((VJ h hb hc z.1 hs).bind λr hr=>?_) λr hr=>?_
  ·obtain⟨f,e,n'⟩:=r;have he:=hr.err;simp only at he;subst he;obtain⟨R,l,c',mH,_,_,_,_,_,hF,_⟩:=hr.AG;simp only at hF⊢;refine Ok.neg (by simp[Er.isNil]) (Ok.eq (Hg ..) (Ok.cx (by rw[hF.aQ.dl];exact⟨kH.1,kH.2.1⟩) (Ok.cx (by rw[hF.dl];exact⟨kH.1,kH.2.1⟩) (Ok.pure ⟨J,f,hr,J,J⟩))))
  ·rw[hr.1];exact Ok.eq VH (Ok.pure (.inl ⟨z.1,z.2,J,hr.2⟩))
 ·have gO: ¬(cP c.aB.m goal/\bK c.aB.m.W c.aB.m.H (aY c.aB.m.W c.aB.m.H x)):=λy=>z ⟨y.1,by
   have j7:bZ c.aB.m.W c.aB.m.H x:=Classical.byContradiction λw=>by
    have:=zP.2 w;have:=y.2.1;omega
   exact j7.2⟩
  rw[ag1 h hc gO];refine Ok.bind (P:=λr=>r.2.2.1=Er.wrap 222 [goal] (Er.eF 3)/\r.2.2.2=n) (Ok.eq J (Ok.pos J (Ok.pure ⟨J,J⟩))) λr hr=>?_
  rw[hr.1];exact Ok.eq (agV goal) (Ok.pure (.inr ⟨z,J,hr.2⟩))
end
def LQ (w h:Int) (l:List aF) (j:Int):Prop:=
 (if j=0 then-1 else(rd l (j-1)).Id)<(rd l j).Id/\bZ w h (rd l j).Cell/\bZ w h (rd l j).Goal/\ ∀q,0<=q->q<j->(rd l q).Cell≠(rd l j).Cell
def iC (w h:Int) (l:List aF):Prop:=iO w h/\ ∀j:Int,0<=j->j<l.length->LQ w h l j
theorem ago {w h:Int} {l:List aF} (hb:l.length<=4611686018427387000): ∀(n k:Nat) (i:Int) (m:List (Int×Bool)),i+n=l.length->0<=i->n<k->
 (∀c,aR m c=true↔ ∃q,0<=q/\q<i/\(rd l q).Cell=c)->
 ∃r,pF.l0 k w h l (if i=0 then-1 else(rd l (i-1)).Id) m i=some r/\(r=true↔ ∀j,i<=j->j<l.length->LQ w h l j):=by
 intro n
 induction n with
 |zero=>
  intro k i m hi h0 hk hm;obtain⟨k,rfl⟩:=bl hk;exact⟨true,by rw[pF.l0,ah U],⟨λ_ j j0 j1=>by omega,λ_=>rfl⟩⟩
 |succ n ih=>
  intro k i m hi h0 hk hm;obtain⟨k,rfl⟩:=bl hk;rw[pF.l0,af U,af U];simp only[tY,aI]
  by_cases g:LQ w h l i
  ·obtain⟨g1,g2,g3,g4⟩:=g;have Cy:aR m (rd l i).Cell=false:=by
    rw[Bool.eq_false_iff];intro q;obtain⟨z,z0,z1,z2⟩:=(hm _).1 q;exact g4 z z0 z1 z2
   have s1: ¬aY w h (rd l i).Cell<0:=λq=>zP.1 q g2
   have s2: ¬aY w h (rd l i).Goal<0:=λq=>zP.1 q g3
   rw[ah U,ah s1,ah s2,Cy];simp only[aI,Bool.false_eq_true,if_false];rw[wi U U];obtain⟨r,r1,r2⟩:=ih k (i+1) (cJ m (rd l i).Cell true) U U U (λc=>by
    rw[u5]
    by_cases e:(rd l i).Cell=c
    ·rw[af e];exact⟨λ_=>⟨i,h0,by omega,e⟩,λ_=>rfl⟩
    ·rw[ah e,hm c];constructor
     ·rintro⟨q,q0,q1,q2⟩;exact⟨q,q0,by omega,q2⟩
     ·rintro⟨q,q0,q1,q2⟩
      by_cases z:q=i
      ·subst z;exact absurd q2 e
      ·exact⟨q,q0,by omega,q2⟩)
   rw[ah U,show i+1-1=i by omega] at r1
   refine⟨r,r1,r2.trans ⟨λq j j0 j1=>?_,λq j j0 j1=>q j U j1⟩⟩
   by_cases z:j=i
   ·subst z;exact⟨g1,g2,g3,g4⟩
   ·exact q j U j1
  ·have hf: ∀last,last=(if i=0 then-1 else(rd l (i-1)).Id)->((if(rd l i).Id<=last then(some true) else(if aY w h (rd l i).Cell<0 then(some true) else(if aY w h (rd l i).Goal<0 then(some true) else(some (aR m (rd l i).Cell))))):Option Bool)=some true:=by
    intro last hla
    by_cases a:(rd l i).Id<=last
    ·rw[af a]
    ·rw[ah a]
     by_cases b:aY w h (rd l i).Cell<0
     ·rw[af b]
     ·rw[ah b]
      by_cases c:aY w h (rd l i).Goal<0
      ·rw[af c]
      ·rw[ah c]
       congr 1
       rw[hm];refine Classical.byContradiction λq=>g ⟨by rw[<-hla];omega,Classical.byContradiction λz=>b (zP.2 z),Classical.byContradiction λz=>c (zP.2 z),λz z0 z1 z2=>q ⟨z,z0,z1,z2⟩⟩
   rw[hf _ J];simp only[aI,if_true];exact⟨false,J,⟨λq=>(by cases q),λq=>absurd (q i U U) g⟩⟩
theorem Wh {w h:Int} {l:List aF} (hb:l.length<=4611686018427387000): ∃r,pF.f w h l=some r/\(r=true↔iC w h l):=by
 unfold pF.f;rw[A',aI]
 by_cases hm:iO w h
 ·rw[ah (by simpa using hm)]
  obtain⟨r,r1,r2⟩:=ago (w:=w) (h:=h) hb l.length fuel 0 [] U U (by rw[cI];omega) (λc=>by
   constructor
   ·intro q;simp[aR,cS] at q
   ·rintro⟨q,q0,q1,_⟩;omega)
  rw[af J] at r1;exact⟨r,r1,r2.trans ⟨λq=>⟨hm,q⟩,λq=>q.2⟩⟩
 ·rw[af (by rw[decide_eq_false hm];rfl)]
  exact⟨false,J,⟨λq=>(by cases q),λq=>absurd q.1 hm⟩⟩
theorem iC.cell {w h:Int} {l:List aF} (hm:iC w h l) {j:Int} (j0:0<=j) (j1:j<l.length):bZ w h (rd l j).Cell:=(hm.2 j j0 j1).2.1
theorem iC.apart {w h:Int} {l:List aF} (hm:iC w h l) {i j:Int} (i0:0<=i) (i1:i<l.length) (j0:0<=j) (j1:j<l.length) (rW:i≠j):(rd l i).Cell≠(rd l j).Cell:=by
 rcases Int.lt_or_gt_of_ne rW with q |q
 ·exact(hm.2 j j0 j1).2.2.2 i i0 q
 ·exact λe=>(hm.2 i i0 i1).2.2.2 j j0 q e.symm
theorem iC.ids {w h:Int} {l:List aF} (hm:iC w h l): ∀(n:Nat) (i j:Int),j=i+n->0<=i->0<n->j<l.length->(rd l i).Id<(rd l j).Id:=by
 intro n
 induction n with
 |zero=>intro i j _ _ h;omega
 |succ n ih=>
  intro i j hj i0 _ j1;have h1:=(hm.2 j U j1).1;rw[ah U] at h1
  by_cases hn:n=0
  ·have:j-1=i:=U;rw[this] at h1;exact h1
  ·have:=ih i (j-1) U i0 U U;omega
theorem iC.CF {w h:Int} {l:List aF} (hm:iC w h l) {i j:Int} (i0:0<=i) (rW:i<j) (j1:j<l.length):(rd l i).Id<(rd l j).Id:=
 hm.ids (j-i).toNat i j U i0 U j1
theorem afv {a b:List Int} (hb:a.length<=4611686018427387904) (hl:b.length=a.length): ∀(n k:Nat) (i:Int),i+n=a.length->0<=i->n<k->
 ∃r,pH.l0 k a b i=some r/\(r=true↔a.drop i.toNat=b.drop i.toNat):=by
 intro n
 induction n with
 |zero=>
  intro k i hi h0 hk;obtain⟨k,rfl⟩:=bl hk;exact⟨true,by rw[pH.l0,ah U],by rw[List.drop_of_length_le U,List.drop_of_length_le U];simp⟩
 |succ n ih=>
  intro k i hi h0 hk;obtain⟨k,rfl⟩:=bl hk;rw[pH.l0,af U,af U,af U,yP h0 (by omega:i<(a.length:Int)),yP h0 (by omega:i<(b.length:Int))]
  by_cases e:rd a i=rd b i
  ·rw[ah (by simpa using e),wi U U]
   obtain⟨r,h1,h2⟩:=ih k (i+1) U U U;exact⟨r,h1,by rw[h2,e];simp⟩
  ·rw[af (by simpa using e)]
   exact⟨false,J,by simp[e]⟩
theorem afu {a b:List Int} (hb:a.length<4611686018427387904): ∃r,pH.f a b=some r/\(r=true↔a=b):=by
 unfold pH.f
 by_cases h:a.length=b.length
 ·rw[ah (by simp[h])]
  obtain⟨r,h1,h2⟩:=afv (a:=a) (b:=b) U h.symm a.length fuel 0 U U (by rw[cI];omega)
  exact⟨r,h1,by simpa using h2⟩
 ·rw[af bm];exact⟨false,J,⟨λq=>(by cases q),λq=>absurd (by rw[q]) h⟩⟩
theorem afw {a:List Int} (hb:a.length<4611686018427387904):pH.f a a=some true:=by
 obtain⟨r,h1,h2⟩:=afu (a:=a) (b:=a) hb;rw[h1,h2.2 J]
def uI:List Int->List aF->List Int
 |acc,[]=>acc
 |acc,u::r=>uI (if u.Goal∈acc then acc else acc++[u.Goal]) r
def l9 (l:List aF):List Int:=uI [] l
theorem Sw: ∀(l:List aF) (acc:List Int),(uI acc l).length<=acc.length+l.length
 |[],acc=>by simp[uI]
 |u::r,acc=>by
  have:=Sw r (if u.Goal∈acc then acc else acc++[u.Goal])
  simp only[uI,List.length_cons];split at this<;>rename_i h
  ·rw[af h];omega
  ·rw[ah h];simp only[List.length_append,List.length_cons,List.length_nil] at this;omega
theorem Sy: ∀(l:List aF) (acc:List Int) (g:Int),g∈uI acc l↔g∈acc∨ ∃u∈l,u.Goal=g
 |[],acc,g=>by simp[uI]
 |u::r,acc,g=>by
  simp only[uI];rw[Sy r _ g]
  by_cases h:u.Goal∈acc
  ·rw[af h];constructor
   ·rintro(q |⟨x,x1,x2⟩)
    ·exact .inl q
    ·exact .inr ⟨x,List.mem_cons_of_mem _ x1,x2⟩
   ·rintro(q |⟨x,x1,x2⟩)
    ·exact .inl q
    ·rcases List.mem_cons.1 x1 with rfl |x1
     ·exact .inl (x2▸h)
     ·exact .inr ⟨x,x1,x2⟩
  ·rw[ah h];constructor
   ·rintro(q |⟨x,x1,x2⟩)
    ·rcases List.mem_append.1 q with q |q
     ·exact .inl q
     ·exact .inr ⟨u,List.mem_cons_self ..,(List.mem_singleton.1 q).symm⟩
    ·exact .inr ⟨x,List.mem_cons_of_mem _ x1,x2⟩
   ·rintro(q |⟨x,x1,x2⟩)
    ·exact .inl (List.mem_append_left _ q)
    ·rcases List.mem_cons.1 x1 with rfl |x1
     ·exact .inl (List.mem_append_right _ (by simp[x2]))
     ·exact .inr ⟨x,x1,x2⟩
theorem Sz: ∀(l:List aF) (acc:List Int),acc.Nodup->(uI acc l).Nodup
 |[],acc,h=>h
 |u::r,acc,h=>by
  simp only[uI];refine Sz r _ ?_;split
  ·exact h
  ·rename_i q;rw[List.nodup_append];exact⟨h,by simp,λa ha b hb=>by simp at hb;subst hb;intro e;subst e;exact q ha⟩
theorem SB (l:List aF):(l9 l).length<=l.length:=by
 have:=Sw l [];unfold l9;simpa using this
theorem Nd (l:List aF):(l9 l).Nodup:=Sz l [] List.nodup_nil
theorem SC (l:List aF) (g:Int):g∈l9 l↔ ∃u∈l,u.Goal=g:=by
 have:=Sy l [] g;unfold l9;simpa using this
theorem ahq {l:List aF} (hb:l.length<=1000000): ∀(n k:Nat) (i:Int) (acc:List Int) (m:List (Int×Bool)),i+n=l.length->0<=i->n<k->(acc.length:Int)<=i->
 (∀c,aR m c=true↔c∈acc)->nR.l0 k l acc m i=some (uI acc (l.drop i.toNat)):=by
 intro n
 induction n with
 |zero=>
  intro k i acc m hi h0 hk ha hm;obtain⟨k,rfl⟩:=bl hk;rw[nR.l0,ah U,List.drop_of_length_le U];rfl
 |succ n ih=>
  intro k i acc m hi h0 hk ha hm;obtain⟨k,rfl⟩:=bl hk;rw[nR.l0,af U,af U,yP h0 U];simp only[uI]
  by_cases h:(rd l i).Goal∈acc
  ·rw[ah (by rw[(hm _).2 h];decide),af h,wi U U]
   exact ih k (i+1) acc m U U U U hm
  ·have:aR m (rd l i).Goal=false:=by rw[Bool.eq_false_iff];exact λq=>h ((hm _).1 q)
   rw[af (by rw[this];rfl),ah h,af U,wi U U]
   refine ih k (i+1) _ _ U U U bm (λc=>?_);rw[u5]
   by_cases e:(rd l i).Goal=c
   ·rw[af e];simp[e]
   ·rw[ah e,hm c];simp[Ne.symm e]
theorem ahp {l:List aF} (hb:l.length<=1000000):nR.f l=some (l9 l):=by
 unfold nR.f;have:=ahq hb l.length fuel 0 [] [] U U (by rw[cI];omega) bd (λc=>by simp[aR,cS])
 unfold l9;simpa using this
def jH:List ck->Int->Int->Int->List ck
 |[],g,s,id=>[⟨g,s,[id]⟩]
 |p::r,g,s,id=>if p.fe=s then⟨p.Goal,p.fe,p.de++[id]⟩::r else p::jH r g s id
def fE:List ck->Int->Nat
 |[],_=>0
 |p::r,s=>if p.fe=s then 0 else fE r s+1
def gw (w h g:Int):List aF->List ck->List ck
 |[],ps=>ps
 |u::r,ps=>gw w h g r (if u.Goal=g then jH ps g (aY w h u.Cell) u.Id else ps)
def jN (w h:Int) (l:List aF):List ck:=(l9 l).flatMap λg=>gw w h g l []
theorem rd0 {α:Type} [Inhabited α] (x:α) (l:List α):rd (x::l) 0=x:=rfl
theorem Pr {α:Type} [Inhabited α] (x:α) (l:List α) (n:Nat):rd (x::l) ((n+1:Nat):Int)=rd l (n:Int):=Ps x l n
theorem Pk: ∀(ps:List ck) (s:Int),fE ps s<=ps.length
 |[],_=>by simp[fE]
 |p::r,s=>by have:=Pk r s;simp only[fE,List.length_cons];split<;>omega
theorem Qv: ∀(ps:List ck) (g s id:Int),fE ps s<ps.length->
 jH ps g s id=ps.set (fE ps s) ⟨(rd ps (fE ps s:Int)).Goal,(rd ps (fE ps s:Int)).fe,(rd ps (fE ps s:Int)).de++[id]⟩
 |[],_,_,_,h=>by simp at h
 |p::r,g,s,id,h=>by
  simp only[jH,fE]
  by_cases e:p.fe=s
  ·rw[af e,af e];rfl
  ·simp only[fE,ah e,List.length_cons] at h;rw[ah e,ah e,Qv r g s id U,Pr];rfl
theorem Qy: ∀(ps:List ck) (g s id:Int),fE ps s=ps.length->jH ps g s id=ps++[⟨g,s,[id]⟩]
 |[],_,_,_,_=>rfl
 |p::r,g,s,id,h=>by
  simp only[jH]
  by_cases e:p.fe=s
  ·simp only[fE,af e,List.length_cons] at h;omega
  ·simp only[fE,ah e,List.length_cons] at h;rw[ah e,Qy r g s id U];rfl
theorem Qx: ∀(ps:List ck) (g s id:Int),(jH ps g s id).length<=ps.length+1/\ps.length<=(jH ps g s id).length
 |[],_,_,_=>by simp[jH]
 |p::r,g,s,id=>by have:=Qx r g s id;simp only[jH];split<;>simp<;>omega
def lz:List ck->Nat
 |[]=>0
 |p::r=>p.de.length+lz r
theorem ahm (a b:List ck):lz (a++b)=lz a+lz b:=by
 induction a with
 |nil=>simp[lz]
 |cons p r ih=>simp[lz,ih];omega
theorem Mg: ∀(ps:List ck) (g s id:Int),lz (jH ps g s id)=lz ps+1
 |[],_,_,_=>by simp[jH,lz]
 |p::r,g,s,id=>by have:=Mg r g s id;simp only[jH];split<;>simp[lz]<;>omega
theorem Wf: ∀(ps:List ck) (i:Int),0<=i->i<ps.length->(rd ps i).de.length<=lz ps:=by
 intro ps
 induction ps with
 |nil=>intro i h0 h1;simp at h1;omega
 |cons p r ih=>
  intro i h0 h1;simp only[List.length_cons] at h1
  by_cases e:i=0
  ·subst e;rw[rd0];simp[lz]
  ·have:=ih (i-1) U U;have e2:i=(((i-1).toNat+1:Nat):Int):=U;rw[e2,Pr,show(((i-1).toNat:Nat):Int)=i-1 by omega]
   simp only[lz];omega
theorem SE (w h g:Int): ∀(l m:List aF) (ps:List ck),gw w h g (l++m) ps=gw w h g m (gw w h g l ps)
 |[],m,ps=>rfl
 |u::r,m,ps=>by simp only[List.cons_append,gw];exact SE w h g r m _
theorem Nh (w h g:Int): ∀(l:List aF) (ps:List ck),(gw w h g l ps).length<=ps.length+l.length/\lz (gw w h g l ps)<=lz ps+l.length
 |[],ps=>by simp[gw]
 |u::r,ps=>by
  have h1:=Nh w h g r (if u.Goal=g then jH ps g (aY w h u.Cell) u.Id else ps)
  have h2:=Qx ps g (aY w h u.Cell) u.Id;have h3:=Mg ps g (aY w h u.Cell) u.Id;simp only[gw,List.length_cons]
  by_cases e:u.Goal=g
  ·rw[af e] at h1⊢;omega
  ·rw[ah e] at h1⊢;omega
structure PI (w h:Int) (l:List aF) (i:Int) (m:List (Int×List ck)) (at':List ((Int×Int)×Int)):Prop where
 of: ∀g,aR m g=gw w h g (l.take i.toNat) []
 has: ∀g s,bR at' (g,s)=true↔fE (gw w h g (l.take i.toNat) []) s<(gw w h g (l.take i.toNat) []).length
 place: ∀g s,bR at' (g,s)=true->aR at' (g,s)=(fE (gw w h g (l.take i.toNat) []) s:Int)
theorem Wc: ∀(ps:List ck) (g s:Int) (ids:List Int) (t:Int),fE ps s=ps.length->fE (ps++[⟨g,s,ids⟩]) t=if t=s then ps.length else fE ps t+if fE ps t=ps.length then 1 else 0:=by
 intro ps
 induction ps with
 |nil=>intro g s ids t h;simp[fE];split<;>split<;>(try omega)<;>simp_all
 |cons p r ih=>
  intro g s ids t h
  by_cases e:p.fe=s
  ·simp only[fE,af e,List.length_cons] at h;omega
  ·simp only[fE,ah e,List.length_cons] at h;have hih:=ih g s ids t U;rw[List.cons_append,List.length_cons]
   by_cases y:p.fe=t
   ·have a1:fE (p::(r++[(⟨g,s,ids⟩:ck)])) t=0:=af y;have a2:fE (p::r) t=0:=af y;have z: ¬t=s:=λq=>e (y.trans q);rw[a1,a2,ah z,ah U]
   ·have a1:fE (p::(r++[(⟨g,s,ids⟩:ck)])) t=fE (r++[(⟨g,s,ids⟩:ck)]) t+1:=ah y;have a2:fE (p::r) t=fE r t+1:=ah y;rw[a1,a2,hih]
    by_cases z:t=s
    ·rw[af z,af z]
    ·rw[ah z,ah z]
     by_cases x:fE r t=r.length
     ·rw[af x,af U]
     ·rw[ah x,ah U]
theorem Wd: ∀(ps:List ck) (j:Nat) (q:ck) (t:Int),j<ps.length->q.fe=(rd ps (j:Int)).fe->fE (ps.set j q) t=fE ps t:=by
 intro ps
 induction ps with
 |nil=>intro j q t h;simp at h
 |cons p r ih=>
  intro j q t h hq
  cases j with
  |zero=>simp only[List.set_cons_zero,fE];rw[hq];rfl
  |succ j=>
   simp only[List.set_cons_succ,fE];rw[ih j q t (by simpa using h) (by rw[Pr] at hq;exact hq)]
theorem agv {m:List (Int×List ck)} {g:Int} (h:aR m g≠[]):bR m g=true:=by
 unfold bR;unfold aR at h
 cases e:cS m g with
 |none=>rw[e] at h;exact absurd J h
 |some _=>rfl
theorem VD {m:List (Int×List ck)} {g:Int} (v:List ck) (h:bR m g=true) (g':Int):aR (tr m g v) g'=if g=g' then v else aR m g':=by
 unfold tr;rw[af h,u5]
theorem ajD {w h:Int} {l:List aF} {i:Int} (h0:0<=i) (h1:i<l.length) (g:Int):
 gw w h g (l.take (i+1).toNat) []=if(rd l i).Goal=g then jH (gw w h g (l.take i.toNat) []) g (aY w h (rd l i).Cell) (rd l i).Id else gw w h g (l.take i.toNat) []:=by
 rw[Iv h0 h1,SE];rfl
theorem pl1 {w h:Int} {l:List aF} (hb:l.length<=1000000) {m:List (Int×List ck)} (hm: ∀g,aR m g=gw w h g l []): ∀(n k:Nat) (i:Int) (gone:List Int) (out:List ck),i+n=(l9 l).length->0<=i->n<k->
 (∀g,g∈gone↔g∈(l9 l).take i.toNat)->(out.length:Int)<=i*1000000->kc.l1 k (l9 l) m gone out i=some (out++((l9 l).drop i.toNat).flatMap λg=>gw w h g l []):=by
 have hg:=SB l;have qS:=Nd l;intro n
 induction n with
 |zero=>
  intro k i gone out hi h0 hk ho hl;obtain⟨k,rfl⟩:=bl hk;rw[kc.l1,ah U,List.drop_of_length_le U];simp
 |succ n ih=>
  intro k i gone out hi h0 hk ho hl;obtain⟨k,rfl⟩:=bl hk;have hlen:=Nh w h (rd (l9 l) i) l [];simp only[List.length_nil,Nat.zero_add,show lz ([]:List ck)=0 from rfl] at hlen
  have hmul:i*1000000+1000000<=1000000000000:=U;rw[kc.l1,af U,af U,af,hm,af U,wi U U,yP h0 U]
  ·rw[ih k (i+1) _ _ U U U ?_ ?_]
   ·simp
   ·intro g;rw[Iv h0 U];simp only[List.mem_cons,List.mem_append,List.not_mem_nil,or_false,ho g];exact or_comm
   ·simp only[List.length_append];omega
  ·rw[ho];intro cu;obtain⟨j,j0,j1,j2⟩:=jL cu;simp only[List.length_take] at j1;have e1:rd ((l9 l).take i.toNat) j=rd (l9 l) j:=by
    unfold rd;rw[List.getD_eq_getElem?_getD,List.getD_eq_getElem?_getD,List.getElem?_take_of_lt U]
   rw[e1] at j2;have:=va qS (i:=j) (j:=i) j0 U U;exact this j2
theorem pl0 {w h:Int} {l:List aF} (hb:l.length<=1000000): ∀(n k:Nat) (i:Int) (m:List (Int×List ck)) (at':List ((Int×Int)×Int)),i+n=l.length->0<=i->n<k->
 PI w h l i m at'->kc.l0 k w h l m at' i=some (jN w h l):=by
 intro n
 induction n with
 |zero=>
  intro k i m at' hi h0 hk hp;obtain⟨k,rfl⟩:=bl hk;rw[kc.l0,ah U,ahp hb,aI];have hg:=SB l;have:=pl1 (w:=w) (h:=h) hb (m:=m) (λg=>by rw[hp.of g,List.take_of_length_le U]) (l9 l).length fuel 0 [] [] U U (by rw[cI];omega) (λg=>by simp) bd
  simpa[jN] using this
 |succ n ih=>
  intro k i m at' hi h0 hk hp;obtain⟨k,rfl⟩:=bl hk;rw[kc.l0,af U,af U,tY,aI];have AX:=hp.of;have hlen:=λg=>Nh w h g (l.take i.toNat) [];simp only[List.length_nil,Nat.zero_add,List.length_take] at hlen;generalize hg:(rd l i).Goal=g0 at*;generalize hs:aY w h (rd l i).Cell=s0 at*;have hL:=hlen g0;generalize oG:gw w h g0 (l.take i.toNat) []=ps at*;have hT: ∀g,gw w h g (l.take (i+1).toNat) []=if g0=g then jH ps g0 s0 (rd l i).Id else gw w h g (l.take i.toNat) []:=λg=>by
   rw[ajD h0 U,hg,hs]
   by_cases e:g0=g
   ·subst e;rw[af rfl,af rfl,oG]
   ·rw[ah e,ah e]
  have akA:lz ([]:List ck)=0:=rfl
  by_cases AQ:bR at' (g0,s0)=true
  ·have cu:=(hp.has g0 s0).1 AQ;have mB:=hp.place g0 s0 AQ;rw[oG] at cu mB;rw[ah (by rw[AQ];decide)]
   simp only[aI];rw[mB,AX g0,oG,af U];have Ew:=Wf ps (fE ps s0) U U;rw[af U];simp only[aI];rw[wi U U];have Od:bR m g0=true:=agv (by rw[AX g0,oG];intro e;rw[e] at cu;simp at cu)
   have ea:=Qv ps g0 s0 (rd l i).Id cu;rw[show((fE ps s0:Int)).toNat=fE ps s0 by omega]
   refine ih k (i+1) _ _ U U U ⟨λg=>?_,λg s=>?_,λg s hh=>?_⟩
   ·rw[VD _ Od,hT]
    by_cases e:g0=g
    ·rw[af e,af e,ea]
    ·rw[ah e,ah e,AX]
   ·rw[hT]
    by_cases e:g0=g
    ·subst e;rw[af J,ea,Wd _ _ _ _ cu (by rfl),List.length_set,hp.has g0 s,oG]
    ·rw[ah e,hp.has]
   ·rw[hT]
    by_cases e:g0=g
    ·subst e;rw[af J,ea,Wd _ _ _ _ cu (by rfl),hp.place g0 s hh,oG]
    ·rw[ah e,hp.place _ _ hh]
  ·have Oh:fE ps s0=ps.length:=by
    have h1:=Pk ps s0;have h2: ¬fE ps s0<ps.length:=λq=>AQ ((hp.has g0 s0).2 (by rw[oG];exact q))
    omega
   have AR:bR at' (g0,s0)=false:=by rw[Bool.eq_false_iff];exact AQ
   rw[af (by rw[AR];rfl),AX g0,oG,af U]
   simp only[aI,u5,if_true];have hr:rd (ps++[(⟨g0,s0,[]⟩:ck)]) (ps.length:Int)=⟨g0,s0,[]⟩:=by rw[Pt U U,af J]
   rw[hr,af bm,af bd];simp only[aI];rw[wi U U];have Od:bR (cJ m g0 (ps++[(⟨g0,s0,[]⟩:ck)])) g0=true:=by rw[EN];simp
   have ea:=Qy ps g0 s0 (rd l i).Id Oh;have es:List.set (ps++[(⟨g0,s0,[]⟩:ck)]) (Int.toNat (ps.length:Int)) ⟨g0,s0,[]++[(rd l i).Id]⟩=ps++[⟨g0,s0,[(rd l i).Id]⟩]:=by
    rw[show((ps.length:Int)).toNat=ps.length by omega,List.set_append_right _ _ U];simp
   rw[es];refine ih k (i+1) _ _ U U U ⟨λg=>?_,λg s=>?_,λg s hh=>?_⟩
   ·rw[VD _ Od,hT]
    by_cases e:g0=g
    ·rw[af e,af e,ea]
    ·rw[ah e,ah e,u5,ah e,AX]
   ·rw[hT,EN]
    by_cases e:g0=g
    ·subst e;rw[af J,ea,Wc _ _ _ _ _ Oh,List.length_append]
     by_cases z:s=s0
     ·subst z;simp
     ·have h1:=hp.has g0 s;have h2:=Pk ps s;rw[oG] at h1;rw[ah z];simp only[Prod.mk.injEq,true_and,List.length_cons,List.length_nil,Bool.or_eq_true,decide_eq_true_eq,h1]
      by_cases y:fE ps s=ps.length
      ·rw[af y];omega
      ·rw[ah y];omega
    ·rw[ah e,<-hp.has];simp[e]
   ·rw[hT,u5]
    by_cases e:g0=g
    ·subst e;rw[af J,ea,Wc _ _ _ _ _ Oh]
     by_cases z:s=s0
     ·subst z;simp
     ·have bQ: ¬((g0,s0)=(g0,s)):=λq=>z (Prod.mk.inj q).2.symm;rw[ah bQ,ah z];rw[EN] at hh;simp only[bQ,decide_false,Bool.false_or] at hh;have h1:=(hp.has g0 s).1 hh;rw[oG] at h1;rw[hp.place _ _ hh,oG,ah U];rfl
    ·have bQ: ¬((g0,s0)=(g,s)):=λq=>e (Prod.mk.inj q).1;rw[ah e,ah bQ];rw[EN] at hh;simp only[bQ,decide_false,Bool.false_or] at hh;exact hp.place _ _ hh
theorem ahu {w h:Int} {l:List aF} (hb:l.length<=1000000) (hm:iC w h l):kc.f w h l=some (jN w h l):=by
 obtain⟨r,r1,r2⟩:=Wh (w:=w) (h:=h) (l:=l) U;unfold kc.f;rw[r1,aI,ah (by rw[r2.2 hm];decide)]
 exact pl0 hb l.length fuel 0 [] [] U U (by rw[cI];omega) ⟨λg=>by simp[aR,cS,gw];rfl,λg s=>by simp[bR,cS,gw,fE],λg s hh=>by simp[bR,cS] at hh⟩
structure GI (w h g:Int) (l:List aF) (ps:List ck):Prop where
 goal: ∀p∈ps,p.Goal=g
 apart:ps.Pairwise λa b=>a.fe≠b.fe
 some_: ∀p∈ps,p.de≠[]
 of: ∀p∈ps,∀id∈p.de,∃u∈l,u.Id=id/\u.Goal=g/\aY w h u.Cell=p.fe
 up: ∀p∈ps,p.de.Pairwise (· < ·)
theorem FP: ∀(ps:List ck) (g s id:Int) (p:ck),p∈jH ps g s id->p∈ps∨p=⟨g,s,[id]⟩∨ ∃q∈ps,q.fe=s/\p=⟨q.Goal,q.fe,q.de++[id]⟩
 |[],g,s,id,p,h=>by simp only[jH,List.mem_singleton] at h;exact .inr (.inl h)
 |q::r,g,s,id,p,h=>by
  simp only[jH] at h;split at h
  ·rename_i e;rcases List.mem_cons.1 h with h |h
   ·exact .inr (.inr ⟨q,List.mem_cons_self ..,e,h⟩)
   ·exact .inl (List.mem_cons_of_mem _ h)
  ·rcases List.mem_cons.1 h with h |h
   ·exact .inl (h▸List.mem_cons_self ..)
   ·rcases FP r g s id p h with h |h |⟨z,h1,h2⟩
    ·exact .inl (List.mem_cons_of_mem _ h)
    ·exact .inr (.inl h)
    ·exact .inr (.inr ⟨z,List.mem_cons_of_mem _ h1,h2⟩)
theorem Qz: ∀(ps:List ck) (g s id:Int),(jH ps g s id).map (·.fe)=if s∈ps.map (·.fe) then ps.map (·.fe) else ps.map (·.fe)++[s]
 |[],g,s,id=>by simp[jH]
 |q::r,g,s,id=>by
  have:=Qz r g s id;simp only[jH]
  by_cases e:q.fe=s
  ·rw[af e];simp[e]
  ·rw[ah e];simp only[List.map_cons,this,List.mem_cons]
   by_cases z:s∈r.map (·.fe)
   ·rw[af z,af (.inr z)]
   ·rw[ah z,ah (by rintro(y |y);exact e y.symm;exact z y)];rfl
theorem GI.step {w h g:Int} {l:List aF} {ps:List ck} {u:aF} (hi:GI w h g l ps) (hu: ∀x∈l,x.Id<u.Id) (hg:u.Goal=g):GI w h g (l++[u]) (jH ps g (aY w h u.Cell) u.Id):=by
 refine⟨λp hp=>?_,?_,λp hp=>?_,λp hp id my=>?_,λp hp=>?_⟩
 ·rcases FP _ _ _ _ _ hp with q |q |⟨z,z1,z2,z3⟩
  ·exact hi.goal p q
  ·rw[q]
  ·rw[z3];exact hi.goal z z1
 ·have h1:(ps.map (·.fe)).Pairwise (· ≠ ·):=List.pairwise_map.2 hi.apart;have h2:((jH ps g (aY w h u.Cell) u.Id).map (·.fe)).Pairwise (· ≠ ·):=by
   rw[Qz];split
   ·exact h1
   ·rename_i z;rw[List.pairwise_append];exact⟨h1,by simp,λa ha b hb=>by simp at hb;subst hb;intro e;subst e;exact z ha⟩
  exact List.pairwise_map.1 h2
 ·rcases FP _ _ _ _ _ hp with q |q |⟨z,z1,z2,z3⟩
  ·exact hi.some_ p q
  ·rw[q];simp
  ·rw[z3];simp
 ·rcases FP _ _ _ _ _ hp with q |q |⟨z,z1,z2,z3⟩
  ·obtain⟨x,x1,x2⟩:=hi.of p q id my;exact⟨x,List.mem_append_left _ x1,x2⟩
  ·subst q;simp only[List.mem_singleton] at my;exact⟨u,by simp,my.symm,hg,J⟩
  ·subst z3;rcases List.mem_append.1 my with y |y
   ·obtain⟨x,x1,x2⟩:=hi.of z z1 id y;exact⟨x,List.mem_append_left _ x1,x2⟩
   ·simp only[List.mem_singleton] at y;exact⟨u,by simp,y.symm,hg,z2.symm⟩
 ·rcases FP _ _ _ _ _ hp with q |q |⟨z,z1,z2,z3⟩
  ·exact hi.up p q
  ·rw[q];simp
  ·rw[z3];simp only;rw[List.pairwise_append];refine⟨hi.up z z1,by simp,λa ha b hb=>?_⟩
   simp at hb;subst hb;obtain⟨x,x1,x2,_⟩:=hi.of z z1 a ha;rw[<-x2];exact hu x x1
theorem GI.more {w h g:Int} {l:List aF} {ps:List ck} (hi:GI w h g l ps) (m:List aF):GI w h g (l++m) ps:=
 ⟨hi.goal,hi.apart,hi.some_,λp hp id my=>by
   obtain⟨x,x1,x2⟩:=hi.of p hp id my;exact⟨x,List.mem_append_left _ x1,x2⟩,hi.up⟩
theorem Nf {w h g:Int}: ∀(m l:List aF) (ps:List ck),GI w h g l ps->((l++m).map (·.Id)).Pairwise (· < ·)->GI w h g (l++m) (gw w h g m ps)
 |[],l,ps,hi,_=>by simpa[gw] using hi
 |u::r,l,ps,hi,hp=>by
  have hu: ∀x∈l,x.Id<u.Id:=λx hx=>by
   rw[List.map_append,List.pairwise_append] at hp;exact hp.2.2 _ (List.mem_map_of_mem hx) _ bd
  have e:l++u::r=(l++[u])++r:=by simp
  rw[e] at hp⊢;simp only[gw]
  by_cases hg:u.Goal=g
  ·rw[af hg];exact Nf r _ _ (hi.step hu hg) hp
  ·rw[ah hg];exact Nf r _ _ (hi.more [u]) hp
theorem SF {w h g:Int}: ∀(m:List aF) (ps:List ck),lz (gw w h g m ps)=lz ps+(m.filter λu=>decide (u.Goal=g)).length
 |[],ps=>by simp[gw]
 |u::r,ps=>by
  simp only[gw];rw[SF r]
  by_cases hg:u.Goal=g
  ·rw[af hg,Mg,List.filter_cons_of_pos (by simpa using hg)];simp;omega
  ·rw[ah hg,List.filter_cons_of_neg (by simpa using hg)]
theorem iC.pair {w h:Int} {l:List aF} (hm:iC w h l):(l.map (·.Id)).Pairwise (· < ·):=by
 rw[List.pairwise_map];exact Pu (λi j i0 ij j1=>hm.CF i0 ij j1)
theorem Bf {w h:Int} {l:List aF} (hm:iC w h l) (g:Int):GI w h g l (gw w h g l []):=by
 have:=Nf (w:=w) (h:=h) (g:=g) l [] [] ⟨by simp,by simp,by simp,by simp,by simp⟩ (by simpa using hm.pair)
 simpa using this
theorem We {w h:Int} {l:List aF}: ∀G:List Int,lz (G.flatMap λg=>gw w h g l [])=(G.map λg=>(l.filter λu=>decide (u.Goal=g)).length).sum
 |[]=>rfl
 |g::G=>by
  simp only[List.flatMap_cons,List.map_cons,List.sum_cons];rw[ahm,We G,SF];simp[lz]
theorem ajB (G:List Int) (hn:G.Nodup): ∀l:List aF,(∀u∈l,u.Goal∈G)->(G.map λg=>(l.filter λu=>decide (u.Goal=g)).length).sum=l.length:=by
 have one: ∀(G:List Int) (a:Int),G.Nodup->(G.map λg=>if a=g then 1 else 0).sum=if a∈G then 1 else 0:=by
  intro G a
  induction G with
  |nil=>simp
  |cons g G ih=>
   intro hn;rw[List.nodup_cons] at hn;simp only[List.map_cons,List.sum_cons,ih hn.2,List.mem_cons]
   by_cases e:a=g
   ·subst e;simp[hn.1]
   ·simp[e]
 intro l
 induction l with
 |nil=>
  intro _;have z: ∀G:List Int,(G.map λg=>(([]:List aF).filter λu=>decide (u.Goal=g)).length).sum=0:=by
   intro G
   induction G with
   |nil=>rfl
   |cons g G ih=>simp only[List.map_cons,List.sum_cons,ih];rfl
  exact z G
 |cons u r ih=>
  intro hl;have h1:=ih (λx hx=>hl x (List.mem_cons_of_mem _ hx));have h2:=one G u.Goal hn;rw[af (hl u (List.mem_cons_self ..))] at h2;have key: ∀G:List Int,(G.map λg=>((u::r).filter λu=>decide (u.Goal=g)).length).sum=(G.map λg=>if u.Goal=g then 1 else 0).sum+(G.map λg=>(r.filter λu=>decide (u.Goal=g)).length).sum:=by
   intro G
   induction G with
   |nil=>rfl
   |cons g G ihG=>
    simp only[List.map_cons,List.sum_cons,ihG]
    by_cases e:u.Goal=g
    ·rw[List.filter_cons_of_pos (by simpa using e),af e];simp;omega
    ·rw[List.filter_cons_of_neg (by simpa using e),ah e];omega
  rw[key,h1,h2];simp;omega
theorem HN {w h:Int} {l:List aF}:lz (jN w h l)=l.length:=by
 unfold jN;rw[We,ajB _ (Nd l) l (λu hu=>(SC l _).2 ⟨u,hu,J⟩)]
theorem Hb: ∀ps:List ck,(∀p∈ps,p.de≠[])->ps.length<=lz ps
 |[],_=>by simp
 |p::r,h=>by
  have h1:=Hb r (λq hq=>h q (List.mem_cons_of_mem _ hq));have h2:0<p.de.length:=List.length_pos_iff.2 (h p (List.mem_cons_self ..));simp only[List.length_cons,lz];omega
structure X9 (w h:Int) (l:List aF) (G:List Int) (ps:List ck):Prop where
 goal: ∀p∈ps,p.Goal∈G
 some_: ∀p∈ps,p.de≠[]
 up: ∀p∈ps,p.de.Pairwise (· < ·)
 of: ∀p∈ps,∀id∈p.de,∃u∈l,u.Id=id/\u.Goal=p.Goal/\aY w h u.Cell=p.fe
 order:ps.Pairwise λa b=>G.idxOf a.Goal<=G.idxOf b.Goal/\ ¬(a.Goal=b.Goal/\a.fe=b.fe)
theorem La {w h:Int} {l:List aF} (hm:iC w h l):X9 w h l (l9 l) (jN w h l):=by
 have mem: ∀p∈jN w h l,∃g∈l9 l,p∈gw w h g l []:=λp hp=>by
  unfold jN at hp;exact List.mem_flatMap.1 hp
 refine⟨λp hp=>?_,λp hp=>?_,λp hp=>?_,λp hp id my=>?_,?_⟩
 ·obtain⟨g,h1,h2⟩:=mem p hp;rw[(Bf hm g).goal p h2];exact h1
 ·obtain⟨g,h1,h2⟩:=mem p hp;exact(Bf hm g).some_ p h2
 ·obtain⟨g,h1,h2⟩:=mem p hp;exact(Bf hm g).up p h2
 ·obtain⟨g,h1,h2⟩:=mem p hp;obtain⟨u,u1,u2,u3,u4⟩:=(Bf hm g).of p h2 id my;exact⟨u,u1,u2,by rw[u3,(Bf hm g).goal p h2],u4⟩
 ·unfold jN;rw[List.pairwise_flatMap];refine⟨λg _=>?_,?_⟩
  ·have hg:=Bf (w:=w) (h:=h) hm g;refine(List.Pairwise.and_mem.1 hg.apart).imp ?_;rintro a b ⟨ha,hb,q⟩;rw[hg.goal a ha,hg.goal b hb];exact⟨Nat.le_refl _,λz=>q z.2⟩
  ·have hn:=Nd l;rw[List.pairwise_iff_getElem];intro i j hi hj rW a ha b hb;rw[(Bf hm _).goal a ha,(Bf hm _).goal b hb];have e1:(l9 l).idxOf (l9 l)[i]=i:=hn.idxOf_getElem i hi;have e2:(l9 l).idxOf (l9 l)[j]=j:=hn.idxOf_getElem j hj;rw[e1,e2];refine⟨by omega,λz=>?_⟩
   have:=(List.pairwise_iff_getElem.1 hn) i j hi hj rW;exact this z.1
section
inductive uq (k:Int):List (Int×Int)->bV->bV->Prop
 |nil (n:bV):uq k [] n n
 |snoc {ps:List (Int×Int)} {n n1:bV} {b:Int} {ord:List Int} {c:d_} {goal s:Int} {r:fR×Er×bV} (h:uq k ps n n1) (hn:il n1 k b ord) (hc:n1.core=some c) (hg:cP c.aB.m goal) (hs:bK c.aB.m.W c.aB.m.H s) (hf:Af n1 k b ord c goal s r):uq k (ps++[(goal,s)]) n r.2.2
def Ae (g:bC) (u:aF) (d:Int):Prop:=
 ∃R l f,sG g R/\R.goal=u.Goal/\(l.length<=1025/\iI.f g R (aY g.m.W g.m.H u.Cell)=some l)/\(∀y,y∈l↔yA g R (aY g.m.W g.m.H u.Cell) y)/\uo (fN g.m (aY g.m.W g.m.H u.Cell)) l KF f/\d=rd f.bX (dC g.m.W g.m.H u.Cell)
theorem Qw: ∀(ps:List ck) (g s id:Int) (p:ck),p∈ps-> ∃q∈jH ps g s id,q.fe=p.fe/\ ∀x∈p.de,x∈q.de
 |[],_,_,_,_,h=>by simp at h
 |a::r,g,s,id,p,h=>by
  simp only[jH];split
  ·rename_i e;rcases List.mem_cons.1 h with rfl |h
   ·exact⟨_,List.mem_cons_self ..,J,λx hx=>List.mem_append_left _ hx⟩
   ·exact⟨p,List.mem_cons_of_mem _ h,J,λx hx=>hx⟩
  ·rcases List.mem_cons.1 h with rfl |h
   ·exact⟨p,List.mem_cons_self ..,J,λx hx=>hx⟩
   ·obtain⟨q,q1,q2⟩:=Qw r g s id p h;exact⟨q,List.mem_cons_of_mem _ q1,q2⟩
theorem Qu: ∀(ps:List ck) (g s id:Int),∃q∈jH ps g s id,q.fe=s/\id∈q.de
 |[],g,s,id=>⟨_,List.mem_cons_self ..,J,List.mem_cons_self ..⟩
 |a::r,g,s,id=>by
  simp only[jH];split
  ·rename_i e;exact⟨_,List.mem_cons_self ..,e,by simp⟩
  ·obtain⟨q,q1,q2⟩:=Qu r g s id;exact⟨q,List.mem_cons_of_mem _ q1,q2⟩
theorem Ng (w h g:Int): ∀(l:List aF) (ps:List ck) (p:ck),p∈ps-> ∃q∈gw w h g l ps,q.fe=p.fe/\ ∀x∈p.de,x∈q.de
 |[],_,p,h=>⟨p,h,J,λ_ z=>z⟩
 |u::r,ps,p,hp=>by
  simp only[gw];split
  ·obtain⟨q,q1,q2,q3⟩:=Qw ps g (aY w h u.Cell) u.Id p hp;obtain⟨q',a1,a2,a3⟩:=Ng w h g r _ q q1;exact⟨q',a1,a2.trans q2,λx hx=>a3 x (q3 x hx)⟩
  ·exact Ng w h g r ps p hp
theorem SG (w h g:Int): ∀(l:List aF) (ps:List ck) (u:aF),u∈l->u.Goal=g-> ∃q∈gw w h g l ps,q.fe=aY w h u.Cell/\u.Id∈q.de
 |[],_,_,h,_=>by simp at h
 |a::r,ps,u,hu,hg=>by
  simp only[gw];rcases List.mem_cons.1 hu with rfl |hu
  ·rw[af hg];obtain⟨q,q1,q2,q3⟩:=Qu ps g (aY w h u.Cell) u.Id;obtain⟨q',a1,a2,a3⟩:=Ng w h g r _ q q1;exact⟨q',a1,a2.trans q2,a3 _ q3⟩
  ·exact SG w h g r _ u hu hg
theorem ahv {w h:Int} {l:List aF} {u:aF} (hu:u∈l): ∃q∈jN w h l,u.Id∈q.de:=by
 obtain⟨q,q1,_,q3⟩:=SG w h u.Goal l [] u hu J;refine⟨q,?_,q3⟩;unfold jN;exact List.mem_flatMap.2 ⟨u.Goal,(SC l _).2 ⟨u,hu,J⟩,q1⟩
theorem U2 {w h:Int} {l:List aF} (hm:iC w h l) {u v:aF} (hu:u∈l) (hv:v∈l) (e:u.Id=v.Id):u=v:=by
 obtain⟨i,i0,i1,rfl⟩:=jL hu;obtain⟨j,j0,j1,rfl⟩:=jL hv;rcases Int.lt_trichotomy i j with q |q |q
 ·have:=hm.CF i0 q j1;omega
 ·rw[q]
 ·have:=hm.CF j0 q i1;omega
variable {S : bH} {k : Int} {L : List aF}
theorem abD (bx:bV) (D:List (Int×Int)) (hL:L.length<=1000000): ∀(n m:Nat) (x:List Int) (i:Int),(L.length-i).toNat<=n->n<m->0<=i->i<=L.length->x=(L.take i.toNat).map (λu=>aR D u.Id)->
 eP.l3 m S L bx D x i=some (L.map (λu=>aR D u.Id),Er.nil,⟨S.most,bx,S.cZ⟩):=by
 have fin: ∀(m:Nat) (x:List Int) (i:Int),¬i<L.length->x=(L.take i.toNat).map (λu=>aR D u.Id)->eP.l3 (m+1) S L bx D x i=some (L.map (λu=>aR D u.Id),Er.nil,⟨S.most,bx,S.cZ⟩):=λm x i hi hx=>by
  rw[eP.l3,ah hi,hx,List.take_of_length_le U]
 intro n
 induction n with
 |zero=>
  intro m x i hn hm hi dZ hx;obtain⟨m,rfl⟩:=bl hm;exact fin m x i U hx
 |succ n ih=>
  intro m x i hn hm hi dZ hx;obtain⟨m,rfl⟩:=bl hm
  by_cases aS:i<L.length
  ·rw[eP.l3,af aS,af ⟨hi,aS⟩,af (by rw[hx];simp;omega),wi U U]
   refine ih m _ (i+1) U U U U ?_;rw[hx,Iv hi aS];simp
  ·exact fin m x i aS hx
theorem abC (x4:List (Int×Int)) (ps:List ck) (i:Int) (dE:bV) (F:List Int) (oG:(rd ps i).de.length<=1000000) (cu: ∀id∈(rd ps i).de,0<=aR x4 id/\aR x4 id<F.length) (D0:List (Int×Int)): ∀(n m:Nat) (D:List (Int×Int)) (j:Int),((rd ps i).de.length-j).toNat<=n->n<m->0<=j->j<=(rd ps i).de.length->
 (∀id,(∃q:Int,0<=q/\q<j/\rd (rd ps i).de q=id)->aR D id=rd F (aR x4 id))->(∀id,id∉(rd ps i).de->aR D id=aR D0 id)->
 Ok (eP.l2 m x4 i ps dE F D j) (λr=> ∃D',r=Sum.inr (dE,D')/\(∀id∈(rd ps i).de,aR D' id=rd F (aR x4 id))/\ ∀id,id∉(rd ps i).de->aR D' id=aR D0 id):=by
 have fin: ∀(m:Nat) (D:List (Int×Int)) (j:Int),¬j<(rd ps i).de.length->(∀id,(∃q:Int,0<=q/\q<j/\rd (rd ps i).de q=id)->aR D id=rd F (aR x4 id))->(∀id,id∉(rd ps i).de->aR D id=aR D0 id)->
  Ok (eP.l2 (m+1) x4 i ps dE F D j) (λr=> ∃D',r=Sum.inr (dE,D')/\(∀id∈(rd ps i).de,aR D' id=rd F (aR x4 id))/\ ∀id,id∉(rd ps i).de->aR D' id=aR D0 id):=λm D j hj ha hb=>by
  rw[eP.l2,ah hj];refine Ok.pure ⟨D,J,λid my=>?_,hb⟩
  obtain⟨q,q0,q1,e⟩:=jL my;exact ha id ⟨q,q0,by omega,e⟩
 intro n
 induction n with
 |zero=>
  intro m D j hn hm hj iY ha hb;obtain⟨m,rfl⟩:=bl hm;exact fin m D j U ha hb
 |succ n ih=>
  intro m D j hn hm hj iY ha hb;obtain⟨m,rfl⟩:=bl hm
  by_cases aS:j<(rd ps i).de.length
  ·have ju:=dU hj aS;rw[eP.l2,wi U U];refine Ok.pos aS (Ok.cx ⟨hj,aS⟩ (Ok.cx (cu _ ju) (ih m _ (j+1) U U U U (λid ⟨q,q0,q1,e⟩=>?_) (λid my=>?_))))
   ·rw[u5];split
    ·rename_i z;rw[z]
    ·rename_i z;refine ha id ⟨q,q0,?_,e⟩;have:q≠j:=λy=>z (by rw[<-e,y])
     omega
   ·rw[u5,ah (λz=>my (by rw[<-z];exact ju))];exact hb id my
  ·exact fin m D j aS ha hb
abbrev EI (p:ck):Int×Int:=(p.Goal,p.fe)
theorem abB {g:bC} (hm:iC g.m.W g.m.H L) (hL:L.length<=1000) (hGs: ∃more,du g more) (GK: ∀u∈L,cP g.m u.Goal) (x4:List (Int×Int)) (Kx: ∀u∈L,aR x4 u.Id=dC g.m.W g.m.H u.Cell) (n0:bV): ∀(n m:Nat) (nv:bV) (D:List (Int×Int)) (i:Int) (b:Int) (ord:List Int),((jN g.m.W g.m.H L).length-i).toNat<=n->n<m->0<=i->i<=(jN g.m.W g.m.H L).length->
 il nv k b ord->0<=b->b+5000*((jN g.m.W g.m.H L).length-i)<=90000000000->(∃c,nv.core=some c/\c.aB=g)->uq k (((jN g.m.W g.m.H L).map EI).take i.toNat) n0 nv->
 (∀u∈L,(∃j:Int,0<=j/\j<i/\u.Id∈(rd (jN g.m.W g.m.H L) j).de)->Ae g u (aR D u.Id))->
 Ok (eP.l1 m S L x4 (jN g.m.W g.m.H L) nv D i) (λr=>r.2.1=Er.nil/\ ∃oL mH,r.2.2=⟨S.most,oL,S.cZ⟩/\il oL k (b+5000*((jN g.m.W g.m.H L).length-i)) mH/\(∃c,oL.core=some c/\c.aB=g)/\uq k ((jN g.m.W g.m.H L).map EI) n0 oL/\r.1.length=L.length/\ ∀j:Int,0<=j->j<L.length->Ae g (rd L j) (rd r.1 j)):=by
 have Kg:=La hm;have mB:(jN g.m.W g.m.H L).length<=L.length:=by
  have:=Hb _ Kg.some_;rw[HN] at this;exact this
 generalize oG:jN g.m.W g.m.H L=ps at*;have fin: ∀(m:Nat) (nv:bV) (D:List (Int×Int)) (i b:Int) (ord:List Int),¬i<ps.length->i<=ps.length->il nv k b ord->(∃c,nv.core=some c/\c.aB=g)->uq k ((ps.map EI).take i.toNat) n0 nv->
  (∀u∈L,(∃j:Int,0<=j/\j<i/\u.Id∈(rd ps j).de)->Ae g u (aR D u.Id))->
  Ok (eP.l1 (m+1) S L x4 ps nv D i) (λr=>r.2.1=Er.nil/\ ∃oL mH,r.2.2=⟨S.most,oL,S.cZ⟩/\il oL k (b+5000*(ps.length-i)) mH/\(∃c,oL.core=some c/\c.aB=g)/\uq k (ps.map EI) n0 oL/\r.1.length=L.length/\ ∀j:Int,0<=j->j<L.length->Ae g (rd L j) (rd r.1 j)):=by
  intro m nv D i b ord hi dZ hn hc hF ha;rw[eP.l1,ah hi,abD nv D U L.length fuel [] 0 U (by rw[cI];omega) U U bd]
  refine Ok.pure ⟨J,nv,ord,J,by rw[show b+5000*((ps.length:Int)-i)=b by omega];exact hn,hc,?_,by simp,λj j0 j1=>?_⟩
  ·rw[List.take_of_length_le bm] at hF;exact hF
  ·simp only;rw[zF j0 j1];have hu:=dU j0 j1;obtain⟨q,q1,q2⟩:=ahv (w:=g.m.W) (h:=g.m.H) hu;rw[oG] at q1;obtain⟨x,x0,x1,e⟩:=jL q1;exact ha _ hu ⟨x,x0,by omega,by rw[e];exact q2⟩
 intro n
 induction n with
 |zero=>
  intro m nv D i b ord hn xz hi dZ hN hb Gz hc hF ha;obtain⟨m,rfl⟩:=bl xz;exact fin m nv D i b ord U dZ hN hc hF ha
 |succ n ih=>
  intro m nv D i b ord hn xz hi dZ hN hb Gz hc hF ha;obtain⟨m,rfl⟩:=bl xz
  by_cases aS:i<ps.length
  ·have hp:=dU hi aS;obtain⟨id0,ae3⟩:=List.exists_mem_of_ne_nil _ (Kg.some_ _ hp);obtain⟨u0,a1,a2,a3,a4⟩:=Kg.of _ hp id0 ae3;obtain⟨c,c1,c2⟩:=hc;subst c2;have hg:cP c.aB.m (rd ps i).Goal:=by rw[<-a3];exact GK u0 a1
   have eK: ∀u∈L,bZ c.aB.m.W c.aB.m.H u.Cell:=λu hu=>by
    obtain⟨j,j0,j1,rfl⟩:=jL hu;exact hm.cell j0 j1
   have hs:bK c.aB.m.W c.aB.m.H (rd ps i).fe:=by rw[<-a4];exact tZ (eK u0 a1)
   rw[eP.l1,wi (x:=i+1) U U];refine Ok.pos aS ?_;rw[af (show 0<=i/\i<(ps.length:Int) from⟨hi,aS⟩)]
   obtain⟨r,er,hr⟩:=VJ hN ⟨hb,by omega⟩ c1 hg hs
   obtain⟨f,e,n'⟩:=r;have he:=hr.err;simp only at he;subst he;obtain⟨R,l,c',mH,f1,f2,f3,f4,f5,f6,f7,f8,f9,f10,f11,f12,f13,f14,f15,f16,f17,f18⟩:=hr.AG;simp only at f6 f7 f16;have ef:u6.f nv (rd ps i).Goal (rd ps i).fe=some (f,0,n'):=by
    unfold u6.f;rw[er,aI];simp only[VH,aI]
   have AX:=Kg.of _ hp;obtain⟨more,hG⟩:=hGs;have Cw: ∀u∈L,aY c.aB.m.W c.aB.m.H u.Cell=(rd ps i).fe->0<=dC c.aB.m.W c.aB.m.H u.Cell/\dC c.aB.m.W c.aB.m.H u.Cell<f.bX.length:=λu hu e=>by
    have lO:=eK u hu;have:=Bq hG (c:=u.Cell) lO.2;rw[e] at this;rw[f6.dl];exact⟨this.1,this.2.1⟩
   have Ew:(rd ps i).de.length<=1000000:=by
    have h1:=Wf ps i hi aS;rw[<-oG,HN,oG] at h1;omega
   have qR:=abC x4 ps i n' f.bX Ew (λid my=>by
    obtain⟨u,u1,u2,u3,u4⟩:=AX id my;rw[<-u2,Kx u u1];exact Cw u u1 u4) D (rd ps i).de.length fuel D 0 U (by rw[cI];omega) U U (λid ⟨q,q0,q1,_⟩=>by omega) (λid _=>rfl)
   refine Ok.bind (P:=λz=> ∃D',z=Sum.inr (n',D')/\(∀id∈(rd ps i).de,aR D' id=rd f.bX (aR x4 id))/\ ∀id,id∉(rd ps i).de->aR D' id=aR D id) ?_ λz hz=>?_
   ·refine Ok.bind (P:=λp=>p=(n',f.fc,f.bX,(0:Int))) (Ok.eq ef (Ok.pure J)) λp hp=>?_
    subst hp;exact Ok.neg bd qR
   obtain⟨D',GQ,EA,Ks⟩:=hz;subst GQ;refine(ih m n' D' (i+1) (b+5000) mH U U U U f16 U U ⟨c',f7,f8⟩ ?_ (λu hu ⟨j,j0,j1,hj⟩=>?_)).mono λr vY=>?_
   ·rw[Iv hi (by simpa using aS),zF hi aS]
    exact uq.snoc (r:=(f,Er.nil,n')) hF hN c1 hg hs hr
   ·by_cases z:u.Id∈(rd ps i).de
    ·obtain⟨v,v1,v2,v3,v4⟩:=AX _ z;have:=U2 hm v1 hu v2;subst this;rw[EA _ z,Kx _ hu];exact⟨R,l,f,f1,by rw[f2,v3],⟨f3,by rw[v4];exact f18.2⟩,by rw[v4];exact f4,by rw[v4];exact f6,J⟩
    ·rw[Ks _ z];refine ha u hu ⟨j,j0,?_,hj⟩;have:j≠i:=λy=>z (by rw[<-y];exact hj)
     omega
   ·obtain⟨h1,oL,o',h2,h3,h4⟩:=vY;exact⟨h1,oL,o',h2,by rw[show b+5000*((ps.length:Int)-i)=b+5000+5000*(ps.length-(i+1)) by omega];exact h3,h4⟩
  ·exact fin m nv D i b ord aS dZ hN hc hF ha
theorem abA {g:bC} (hm:iC g.m.W g.m.H L) (hL:L.length<=1000) (Q:List Int×Er×bH->Prop) (Eu: ∀x4:List (Int×Int),(∀u∈L,aR x4 u.Id=dC g.m.W g.m.H u.Cell)->Ok (eP.l1 fuel S L x4 (jN g.m.W g.m.H L) S.nav ([]:List (Int×Int)) 0) Q): ∀(n m:Nat) (x4:List (Int×Int)) (i:Int),(L.length-i).toNat<=n->n<m->0<=i->i<=L.length->(∀u∈L,(∃j:Int,0<=j/\j<i/\rd L j=u)->aR x4 u.Id=dC g.m.W g.m.H u.Cell)->
 Ok (eP.l0 m S L (g.m.W,g.m.H) x4 i) Q:=by
 have fin: ∀(m:Nat) (x4:List (Int×Int)) (i:Int),¬i<L.length->(∀u∈L,(∃j:Int,0<=j/\j<i/\rd L j=u)->aR x4 u.Id=dC g.m.W g.m.H u.Cell)->Ok (eP.l0 (m+1) S L (g.m.W,g.m.H) x4 i) Q:=λm x4 i hi ha=>by
  rw[eP.l0,ah hi];refine Ok.eq (ahu U hm) (Eu x4 λu hu=>?_);obtain⟨j,j0,j1,e⟩:=jL hu;exact ha u hu ⟨j,j0,by omega,e⟩
 intro n
 induction n with
 |zero=>
  intro m x4 i hn xz hi dZ ha;obtain⟨m,rfl⟩:=bl xz;exact fin m x4 i U ha
 |succ n ih=>
  intro m x4 i hn xz hi dZ ha;obtain⟨m,rfl⟩:=bl xz
  by_cases aS:i<L.length
  ·rw[eP.l0,wi U U];refine Ok.pos aS (Ok.cx ⟨hi,aS⟩ (Ok.eq (Hg ..) (ih m _ (i+1) U U U U λu hu ⟨j,j0,j1,e⟩=>?_)));rw[u5];split
   ·rename_i z;rw[U2 hm (dU hi aS) hu z]
   ·rename_i z;refine ha u hu ⟨j,j0,?_,e⟩;have:j≠i:=λy=>z (by rw[<-e,y])
    omega
  ·exact fin m x4 i aS ha
theorem MQ {c:d_} {b:Int} {ord:List Int} (hn:il S.nav k b ord) (hb:0<=b/\b<=80000000000) (hc:S.nav.core=some c) (hm:iC c.aB.m.W c.aB.m.H L) (hL:L.length<=1000) (GK: ∀u∈L,cP c.aB.m u.Goal):
 Ok (eP.f S L) (λr=>r.2.1=Er.nil/\ ∃oL mH,r.2.2=⟨S.most,oL,S.cZ⟩/\il oL k (b+5000*(jN c.aB.m.W c.aB.m.H L).length) mH/\(∃c',oL.core=some c'/\c'.aB=c.aB)/\uq k ((jN c.aB.m.W c.aB.m.H L).map EI) S.nav oL/\r.1.length=L.length/\ ∀j:Int,0<=j->j<L.length->Ae c.aB (rd L j) (rd r.1 j)):=by
 have mB:(jN c.aB.m.W c.aB.m.H L).length<=L.length:=by
  have:=Hb _ (La hm).some_;rw[HN] at this;exact this
 unfold eP.f;refine Ok.eq (VN hc) (abA hm hL _ (λx4 Kx=>?_) L.length fuel [] 0 U (by rw[cI];omega) U U (λu _ ⟨j,j0,j1,_⟩=>by omega))
 refine(abB hm hL ⟨0,(hn.core c hc).1.gs⟩ GK x4 Kx S.nav 1000 fuel S.nav [] 0 b ord U (by rw[cI];omega) U U hn hb.1 U ⟨c,hc,J⟩ (uq.nil _) (λu _ ⟨j,j0,j1,_⟩=>by omega)).mono λr hr=>?_
 rw[Int.sub_zero] at hr;exact hr
end
section
theorem aav (l:List a_) (c side:Int) (hb:l.length<=1000000): ∀(n k:Nat) (x:Int) (b:Bool) (i:Int),(l.length-i).toNat<=n->n<k->0<=i->
 Ok (kN.l0 k l c side x b i) (λr=>((r=x/\(b=true∨ ∀j:Int,i<=j->j<l.length-> ¬((rd l j).Cell=c/\(rd l j).cO=side)))∨ ∃y∈l,y.Cell=c/\y.cO=side/\y.Key=r)/\(∀j:Int,i<=j->j<l.length->(rd l j).Cell=c->(rd l j).cO=side->r<=(rd l j).Key)/\(b=true->r<=x)):=by
 have fin: ∀(k:Nat) (x:Int) (b:Bool) (i:Int),¬i<l.length->Ok (kN.l0 (k+1) l c side x b i) (λr=>((r=x/\(b=true∨ ∀j:Int,i<=j->j<l.length-> ¬((rd l j).Cell=c/\(rd l j).cO=side)))∨ ∃y∈l,y.Cell=c/\y.cO=side/\y.Key=r)/\(∀j:Int,i<=j->j<l.length->(rd l j).Cell=c->(rd l j).cO=side->r<=(rd l j).Key)/\(b=true->r<=x)):=λk x b i hi=>by
  rw[kN.l0,ah hi];exact Ok.pure ⟨.inl ⟨J,.inr λj j0 j1=>by omega⟩,λj j0 j1=>by omega,λ_=>Int.le_refl _⟩
 intro n
 induction n with
 |zero=>
  intro k x b i hn hk hi;obtain⟨k,rfl⟩:=bl hk;exact fin k x b i U
 |succ n ih=>
  intro k x b i hn hk hi;obtain⟨k,rfl⟩:=bl hk
  by_cases aS:i<l.length
  ·rw[kN.l0,wi U U];have hq:(if((rd l i).Cell==c)=true then(if((rd l i).cO==side)=true then(if(!b)=true then(some true) else(some (decide ((rd l i).Key<x)))) else(some false)) else(some false))=some (decide (((rd l i).Cell=c/\(rd l i).cO=side)/\(b=false∨(rd l i).Key<x))):=by
    by_cases a1:(rd l i).Cell=c
    ·by_cases a2:(rd l i).cO=side
     ·cases b<;>simp[a1,a2]
     ·simp[a1,a2]
    ·simp[a1]
   refine Ok.pos aS (Ok.cx ⟨hi,aS⟩ (Ok.eq hq (Ok.ite (λq=>?_) λq=>?_)))
   ·obtain⟨⟨q1,q2⟩,q3⟩:=of_decide_eq_true q;refine(ih k (rd l i).Key true (i+1) U U U).mono λr hr=>⟨?_,λj j0 j1 e1 e2=>?_,λgf=>?_⟩
    ·rcases hr.1 with⟨z,_⟩ |z
     ·exact .inr ⟨_,dU hi aS,q1,q2,z.symm⟩
     ·exact .inr z
    ·by_cases z:j=i
     ·rw[z];exact hr.2.2 J
     ·exact hr.2.1 j U j1 e1 e2
    ·have:=hr.2.2 J;rcases q3 with q3 |q3
     ·rw[q3] at gf;simp at gf
     ·omega
   ·have q: ¬(((rd l i).Cell=c/\(rd l i).cO=side)/\(b=false∨(rd l i).Key<x)):=by simpa using q
    refine(ih k x b (i+1) U U U).mono λr hr=>⟨?_,λj j0 j1 e1 e2=>?_,hr.2.2⟩
    ·rcases hr.1 with⟨z,w⟩ |z
     ·refine .inl ⟨z,?_⟩
      by_cases gf:b=true
      ·exact .inl gf
      ·refine .inr λj j0 j1 e=>?_
       by_cases y:j=i
       ·subst y;exact q ⟨e,.inl (by simpa using gf)⟩
       ·exact(w.resolve_left gf) j U j1 e
     ·exact .inr z
    ·by_cases z:j=i
     ·subst z
      by_cases gf:b=true
      ·have:=hr.2.2 gf;have: ¬(rd l j).Key<x:=λy=>q ⟨⟨e1,e2⟩,.inr y⟩
       omega
      ·exact absurd ⟨⟨e1,e2⟩,.inl (by simpa using gf)⟩ q
     ·exact hr.2.1 j U j1 e1 e2
  ·exact fin k x b i aS
theorem aaw {l:List a_} (hb:l.length<=1000000) (c side:Int):((vw l c side=cN/\ ∀y∈l,¬(y.Cell=c/\y.cO=side))∨ ∃y∈l,y.Cell=c/\y.cO=side/\y.Key=vw l c side)/\ ∀y∈l,y.Cell=c->y.cO=side->vw l c side<=y.Key:=by
 obtain⟨r,e,h1,h2,_⟩:=aav l c side hb l.length fuel 1099511627776 false 0 U (by rw[cI];omega) U
 have hv:vw l c side=r:=by unfold vw kN.f;rw[e];rfl
 rw[hv];refine⟨?_,λy hy e1 e2=>?_⟩
 ·rcases h1 with⟨a,b⟩ |a
  ·refine .inl ⟨a,λy hy z=>?_⟩
   obtain⟨j,j0,j1,rfl⟩:=jL hy;exact(b.resolve_left bd) j j0 j1 z
  ·exact .inr a
 ·obtain⟨j,j0,j1,rfl⟩:=jL hy;exact h2 j j0 j1 e1 e2
theorem agX {w h s l d:Int} (hs:bK w h s) (l0:0<=l) (l1:l<(ax w h s).1*(ax w h s).2) (d0:0<=d) (d3:d<=3) {t:aL} (hW:t.W=(ax w h s).1) (hH:t.H=(ax w h s).2) (hn:0<=eY t l d):
 eY t l d<(ax w h s).1*(ax w h s).2/\cH w h (dn w h s l) d=dn w h s (eY t l d):=by
 obtain⟨z1,z2,z3,z4⟩:=qv hs;obtain⟨hc,e1,e2⟩:=Nc hs l0 l1;obtain⟨p1,p2,p3,p4,p5,p6⟩:=xt hs l0 l1;have GD:=Int.mul_ediv_add_emod l (ax w h s).1;have hm:=hc.1;have key: ∀x y:Int,0<=x->x<(ax w h s).1->0<=y->y<(ax w h s).2->x=l%(ax w h s).1+dX d->y=l/(ax w h s).1+dY d->y*(ax w h s).1+x<(ax w h s).1*(ax w h s).2/\cH w h (dn w h s l) d=dn w h s (y*(ax w h s).1+x):=by
  intro x y x0 x1 y0 y1 ex ey;have cu:=sS (w:=(ax w h s).1) (h:=(ax w h s).2) x0 x1 y0 y1;have ze:=qY (a:=(ax w h s).1) (x:=x) (y:=y) x0 x1;refine⟨cu.2,?_⟩;obtain⟨q1,q2,q3,q4,q5,q6⟩:=xt hs cu.1 cu.2;rw[ze.1] at q5;rw[ze.2] at q6;have nJ:cH w h (dn w h s l) d=pK w h (dn w h s l%w+dX d) (dn w h s l/w+dY d):=by unfold cH;rw[af ⟨hc,d0,by omega⟩]
  rw[nJ,e1,e2];have hsp:=ve hs;unfold pK dn;rw[af (c:=bK w h s/\_) ⟨hs,cu⟩,ze.1,ze.2,af ⟨hm,by omega,by omega,by omega,by omega⟩,ex,ey,Int.add_assoc,Int.add_assoc]
 have hd:d=0∨d=1∨d=2∨d=3:=U;rw[Int.mul_comm] at GD;unfold eY at hn⊢;simp only[hW,hH] at hn⊢;rcases hd with rfl |rfl |rfl |rfl
 ·simp only[if_true] at hn⊢;split at hn
  ·rename_i z;rw[af z];have:=key (l%(ax w h s).1) (l/(ax w h s).1-1) p1 p2 U U (by simp[dX]) (by simp[dY];omega)
   rw[Int.sub_mul,Int.one_mul] at this;rw[show l-(ax w h s).1=l/(ax w h s).1*(ax w h s).1-(ax w h s).1+l%(ax w h s).1 by omega]
   exact this
  ·omega
 ·simp only[show ¬(1:Int)=0 by omega,if_true,if_false] at hn⊢
  split at hn
  ·rename_i z;rw[af z];have:=key (l%(ax w h s).1+1) (l/(ax w h s).1) U U p3 p4 (by simp[dX]) (by simp[dY])
   rw[show l+1=l/(ax w h s).1*(ax w h s).1+(l%(ax w h s).1+1) by omega]
   exact this
  ·omega
 ·simp only[show ¬(2:Int)=0 by omega,show ¬(2:Int)=1 by omega,if_true,if_false] at hn⊢
  split at hn
  ·rename_i z;rw[af z];have:=key (l%(ax w h s).1) (l/(ax w h s).1+1) p1 p2 U U (by simp[dX]) (by simp[dY])
   rw[Int.add_mul,Int.one_mul] at this;rw[show l+(ax w h s).1=l/(ax w h s).1*(ax w h s).1+(ax w h s).1+l%(ax w h s).1 by omega]
   exact this
  ·omega
 ·simp only[show ¬(3:Int)=0 by omega,show ¬(3:Int)=1 by omega,show ¬(3:Int)=2 by omega,if_false] at hn⊢
  split at hn
  ·rename_i z;rw[af z];have:=key (l%(ax w h s).1-1) (l/(ax w h s).1) U U p3 p4 (by simp[dX];omega) (by simp[dY])
   rw[show l-1=l/(ax w h s).1*(ax w h s).1+(l%(ax w h s).1-1) by omega]
   exact this
  ·omega
variable {g : bC} {more : Int} {R : ic}
theorem aby (h:du g more) {l:List a_} (hl:l.length<=1025) {c d:Int} (hc:cP g.m c) (hm: ∀y,y∈l↔yA g R (aY g.m.W g.m.H c) y) {K:Int} {f:fR} (hf:uo (fN g.m (aY g.m.W g.m.H c)) l K f) (hd:d=rd f.bX (dC g.m.W g.m.H c)) (d0:0<=d) (d3:d<=3):Bd g (cH g.m.W g.m.H c d):=by
 have eK:=nK h.ok hc;have hs:=tZ eK;have kH:=Bq h hc;have cu:=EK eK;have nf:=Ed eK;have hb:l.length<=1000000:=U;have hI:cN=1099511627776:=rfl;rw[hf.dir _ kH.1 kH.2.1] at hd;have Kv:d=Ii (fN g.m (aY g.m.W g.m.H c)) l f.fc (dC g.m.W g.m.H c)/\rd f.fc (dC g.m.W g.m.H c)≠cN:=by
  unfold yO at hd;split at hd
  ·omega
  ·rename_i z;split at hd
   ·omega
   ·exact⟨hd,z⟩
 obtain⟨fS,bQ⟩:=Kv;have iX:Aq (fN g.m (aY g.m.W g.m.H c)) l f.fc (dC g.m.W g.m.H c) d=true:=by
  unfold Ii at fS
  repeat' split at fS
  all_goals first
   |(subst fS;assumption)
   |omega
 unfold Aq at iX
 by_cases z:eY (fN g.m (aY g.m.W g.m.H c)) (dC g.m.W g.m.H c) d<0
 ·rw[af z] at iX;have iX:vw l (dC g.m.W g.m.H c) d=rd f.fc (dC g.m.W g.m.H c):=by simpa using iX
  rcases(aaw hb (dC g.m.W g.m.H c) d).1 with⟨q,_⟩ |⟨y,hy,y1,y2,y3⟩
  ·rw[q] at iX;exact absurd iX.symm bQ
  ·rcases(hm y).1 hy with⟨c',j7,e,he,ha,rfl⟩ |⟨_,_,rfl⟩
   ·obtain⟨n1,n2,n3,n4⟩:=u9 j7;obtain⟨d',d0',d3',d4',rfl⟩:=MO he;simp only at y1 y2;have aeQ:c'=c:=by
     have h1:=Ed (nK h.ok n2);rw[n4,y1,nf] at h1;exact h1.symm
    subst aeQ;have aT:=(Bx.1 d4');have vX:=VY (w:=g.m.W) (h:=g.m.H) (c:=c') (side:=d') aT.1.1;have CC:Dr g.m.W g.m.H c' (gj g.m.W g.m.H c' d')=d':=by
     rw[vX.2.2.2.2.1];exact Xl eK d0' U (by rw[<-vX.2.2.2.2.1];exact vX.2.2.2.1)
    rw[CC] at y2;subst y2;rw[<-vX.2.2.2.2.1];refine⟨aT.1,?_⟩;unfold fB;rw[af aT.1];exact aT.2
   ·simp only at y2;omega
 ·rw[ah z] at iX;have iX:=of_decide_eq_true iX;obtain⟨q1,q2⟩:=agX hs cu.1 cu.2 d0 d3 (t:=fN g.m (aY g.m.W g.m.H c)) J J U;rw[nf] at q2;rw[q2];have Uv:=AH hs U q1;have lO:fB g (dn g.m.W g.m.H (aY g.m.W g.m.H c) (eY (fN g.m (aY g.m.W g.m.H c)) (dC g.m.W g.m.H c) d))=rd (fN g.m (aY g.m.W g.m.H c)).C (eY (fN g.m (aY g.m.W g.m.H c)) (dC g.m.W g.m.H c) d):=by
   have e:fB g (dn g.m.W g.m.H (aY g.m.W g.m.H c) (eY (fN g.m (aY g.m.W g.m.H c)) (dC g.m.W g.m.H c) d))=rd g.m.C (dn g.m.W g.m.H (aY g.m.W g.m.H c) (eY (fN g.m (aY g.m.W g.m.H c)) (dC g.m.W g.m.H c) d)):=by unfold fB;exact af Uv
   rw[e];exact(P3 U U).symm
  exact⟨Uv,by rw[lO];exact iX.1⟩
end
end Go.Proofs.YthodkonhneebbaaGreatDoor
