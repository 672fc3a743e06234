/- What the functions do, in plain Lean, on the objects that are kept in order. -/
import Derived.Test.YthodkonhneebbaaGreatDoorKD15
import Derived.Test.YthodkonhneebbaaGreatDoorKD11
import Derived.Test.YthodkonhneebbaaGreatDoorKD12
import Derived.Test.YthodkonhneebbaaGreatDoorKD13
import Derived.Test.YthodkonhneebbaaGreatDoorKD6
import Derived.Test.YthodkonhneebbaaGreatDoorKD7
import Derived.Test.YthodkonhneebbaaGreatDoorKD14
import Derived.Test.YthodkonhneebbaaGreatDoorKD5
namespace Go.Proofs.YthodkonhneebbaaGreatDoor
open Go.Hx
open List renaming length->aa,set->aD,length_set->nF,length_cons->uA,mem_cons->nG,not_mem_nil->rR,length_append->yS
open Int renaming tdiv->cZ,fdiv->fL,toNat->ax,mul_comm->mv,mul_ediv_add_emod->uy,le_refl->dP
open Nat renaming le_refl->jM
open Bool renaming eq_iff_iff->nD,false_eq_true->ji
open Classical renaming byContradiction->pg
set_option linter.unusedVariables false
set_option linter.unusedSimpArgs false
section
structure ux (o:dL):Prop where
 k:0<=o.Kind/\o.Kind<=8
 a:0<=o.A/\o.A<=1000000
 b:0<=o.B/\o.B<=1000000
 m:o.Kind≠1->o.Map=[]
 b2:o.Kind=2->o.B<=255
 b5:o.Kind=5->o.B=0
 z:o.Kind=1∨o.Kind=7∨o.Kind=8->o.A=0/\o.B=0
 ld:o.Kind=1->(∀y∈o.Map,dQ y)/\4<=o.Map.length/\o.Map.length<=100000/\rd o.Map 0+256*rd o.Map 1<=40/\rd o.Map 2+256*rd o.Map 3<=40
theorem RL {n:Int} (h0:0<=n) (h1:n<=1000000):sC.f n 4=some true:=by
 unfold sC.f;have e:af (1*(2^(min (ax (af (8*4))) (IntKind.bits .i64))))=4294967296:=by decide
 rw[e,ah h0,ah (by decide),decide_eq_true U]
theorem aa4 {n:Int} (h0:0<=n) (h1:n<=255):sC.f n 1=some true:=by
 unfold sC.f;have e:af (1*(2^(min (ax (af (8*1))) (IntKind.bits .i64))))=256:=by decide
 rw[e,ah h0,ah (by decide),decide_eq_true U]
theorem Jg:sC.f 0 0=some true:=by decide
theorem Ve {o:dL} (h:ux o) (hk:o.Kind≠0):CV.f o=some true:=by
 have hm:=h.m;have si:=h.ld;have hz:=h.z;have h2:=h.b2;have h5:=h.b5;have ha:=RL h.a.1 h.a.2;have hb:=RL h.b.1 h.b.2;unfold CV.f;rw[aj (by simpa using hk)]
 have hc:o.Kind=1∨o.Kind=2∨o.Kind=3∨o.Kind=4∨o.Kind=5∨o.Kind=6∨o.Kind=7∨o.Kind=8:=by have:=h.k;omega
 rcases hc with e |e |e |e |e |e |e |e
 ·have:=hz (.inl e);have hl:=si e;simp only[e,this.1,this.2,pM.f,beq_self_eq_true,if_true,aM,Jg]
  by_cases q:(o.Map.length:Int)=0
  ·omega
  ·rw[aj (by simpa using q)];simp;omega
 ·have Ea:=aa4 h.b.1 (h2 e);simp[e,pM.f,ha,Ea,hm U]
 ·simp[e,pM.f,ha,hb,hm U]
 ·simp[e,pM.f,ha,hb,hm U]
 ·simp[e,pM.f,ha,h5 e,Jg,hm U]
 ·simp[e,pM.f,ha,hb,hm U]
 ·have:=hz (.inr (.inl e));simp[e,pM.f,this.1,this.2,Jg,hm U]
 ·have:=hz (.inr (.inr e));simp[e,pM.f,this.1,this.2,Jg,hm U]
theorem uv {n lo hi:Int} (h0:0<=lo) (h1:lo<=hi) (h2:hi<=1000000): ∃r,eT.f n lo hi=some r/\lo<=r/\r<=hi:=
 ⟨_,PL U U h1 U,PM h1⟩
theorem PO (x:Int):0<=bN x/\bN x<=255:=ah_ x
theorem ahC (x:pD) {n:Int} (n1:1<=n) (n2:n<=1600):Ok (yn.f x n) ux:=by
 obtain⟨a,ea,a0,a1⟩:=uv (n:=x.B) (lo:=1) (hi:=6) U U U;obtain⟨b,eb,b0,b1⟩:=uv (n:=x.A) (lo:=0) (hi:=5) U U U;obtain⟨c,ec,c0,c1⟩:=uv (n:=x.A) (lo:=0) (hi:=9) U U U;obtain⟨d,ed,d0,d1⟩:=uv (n:=x.A) (lo:=0) (hi:=n-1) U U U;obtain⟨e,ee,e0,e1⟩:=uv (n:=x.A) (lo:=0) (hi:=1) U U U;unfold yn.f;rw[ea,eb,ec,wi (x:=n-1) U U,ed,ee];simp only[aM];rw[wi (x:=n+b) U U,wi (x:=e*255) U U];have w1:=PO x.A;have w2:=PO x.B;refine Ok.ite (λq=>Ok.pure ?_) λq=>Ok.ite (λq'=>Ok.pure ?_) λq'=>Ok.ite (λC3=>Ok.pure ?_) λC3=>Ok.pure ?_
 ·have q:a=1:=by simpa using q
  subst q;refine⟨by simp,by simp,by simp,λz=>by simp at z,λz=>by simp at z,λz=>by simp at z,λ_=>⟨J,J⟩,λ_=>⟨λy hy=>?_,by simp,by simp,by simp[rd],by simp[rd]⟩⟩
  unfold dQ;simp only[nG,rR,or_false] at hy;rcases hy with rfl |rfl |rfl |rfl |rfl |rfl |rfl<;>omega
 ·have q':a=2:=by simpa using q'
  subst q';exact⟨by simp,by simp only;omega,by simp only;omega,λ_=>rfl,λ_=>by simp only;omega,λz=>by simp at z,λz=>by simp at z,λz=>by simp at z⟩
 ·have C3:a=5:=by simpa using C3
  subst C3;exact⟨by simp,by simp only;omega,by simp,λ_=>rfl,λz=>by simp at z,λ_=>rfl,λz=>by simp at z,λz=>by simp at z⟩
 ·have q:a≠1:=by simpa using q
  have q':a≠2:=by simpa using q'
  have C3:a≠5:=by simpa using C3
  exact⟨by simp only;omega,by simp only;omega,by simp only;omega,λ_=>rfl,λz=>absurd z q',λz=>absurd z C3,λz=>by simp only at z;omega,λz=>absurd z q⟩
theorem UO {m:aF} (hm:sV m) (h1:m.W<=40) (h2:m.H<=40):ux ⟨1,0,0,bytesOf m⟩:=by
 have NJ:=hm.ok.1;have hl:=QM hm;have hc:=nP m.W m.H;have e: ∀j:Int,0<=j->j<4->rd (bytesOf m) j=rd (xG m) j:=λj j0 j1=>by unfold bytesOf;exact vf j0 (by simp[xG];omega)
 have hw:=JR (w:=m.W) U U;have hh:=JR (w:=m.H) U U;refine⟨by simp,by simp,by simp,λz=>by simp at z,λz=>by simp at z,λz=>by simp at z,λ_=>⟨J,J⟩,λ_=>⟨QN hm,by simp only;omega,?_,?_,?_⟩⟩
 ·have:dB m.W m.H<=3*3:=by
   unfold dB bn;rw[ah hm.ok.1];exact kT (by simp only;omega) (by simp only;omega) (by simp only;omega) (by simp only;omega)
  simp only;omega
 ·simp only;rw[e 0 U U,e 1 U U]
  show bN m.W+256*bN (fL m.W (2^8))<=40
  omega
 ·simp only;rw[e 2 U U,e 3 U U]
  show bN m.H+256*bN (fL m.H (2^8))<=40
  omega
theorem UP {m:aF} (hm:sV m) (h1:m.W<=40) (h2:m.H<=40):1<=m.C.length/\m.C.length<=1600:=by
 have hp:=pJ hm.ok.1;have:=hm.ok.2.1;have NJ:=hm.ok.1;have:m.W*m.H<=40*40:=kT U U h1 h2;omega
theorem ahe (w h:Int) {c:List Int} (hc: ∀y∈c,dQ y) (l:List pD): ∀(n k:Nat) (a b:Int) (C:List Int) (x:List dL) (N i:Int),(60-i).toNat<=n->n<k->0<=i->1<=N->N<=1600->(x.length:Int)<=1+i->i<=60->(∀o∈x,ux o)->x≠[]->
 Ok (kX.l0 k w h c l a b C x N i) (λr=>r≠[]/\r.length<=61/\ ∀o∈r,ux o):=by
 have fin: ∀(k:Nat) (a b:Int) (C:List Int) (x:List dL) (N i:Int),¬(i<l.length/\i<60)->(x.length:Int)<=1+i->i<=60->(∀o∈x,ux o)->x≠[]->Ok (kX.l0 (k+1) w h c l a b C x N i) (λr=>r≠[]/\r.length<=61/\ ∀o∈r,ux o):=λk a b C x N i hi hx eY ha bI=>by
  rw[kX.l0,aj (by simpa using hi)]
  exact Ok.pure ⟨bI,by omega,ha⟩
 intro n
 induction n with
 |zero=>
  intro k a b C x N i hn hk h0 n1 n2 hx eY ha bI;obtain⟨k,rfl⟩:=bz hk;exact fin k a b C x N i U hx eY ha bI
 |succ n ih=>
  intro k a b C x N i hn hk h0 n1 n2 hx eY ha bI;obtain⟨k,rfl⟩:=bz hk
  by_cases aS:i<l.length/\i<60
  ·rw[kX.l0,ah (by simpa using aS),ah ⟨h0,aS.1⟩,wi (x:=N-1) U U,wi (x:=i+1) U U]
   obtain⟨p,ep,p0,p1⟩:=uv (n:=(rd l i).A) (lo:=0) (hi:=N-1) U U U;obtain⟨q,eq,q0,q1⟩:=uv (n:=(rd l i).B) (lo:=0) (hi:=N-1) U U U;obtain⟨v,ev,v0,v1⟩:=uv (n:=(rd l i).Kind) (lo:=0) (hi:=15) U U U;obtain⟨s,es,s0,s1⟩:=uv (n:=(rd l i).A) (lo:=0) (hi:=9) U U U;obtain⟨t,et,t0,t1⟩:=uv (n:=(rd l i).B) (lo:=0) (hi:=200) U U U;rw[ep,eq,ev,es,et];simp only[aM];refine Ok.bind (P:=λr:Int×Int×List Int×Int×Int×Int×Int×List Int=>1<=r.2.2.2.1/\r.2.2.2.1<=1600/\ux ⟨r.2.2.2.2.1,r.2.2.2.2.2.1,r.2.2.2.2.2.2.1,r.2.2.2.2.2.2.2⟩) ?_ λr hr=>Ok.br U (ih k _ _ _ _ _ (i+1) U U U hr.1 hr.2.1 bo U (λo ho=>?_) bd)
   ·have e3:(if(v==0)=true then(some (v==0)) else(if(v==1)=true then(some (v==1)) else(some (v==2))))=some (decide (v=0∨v=1∨v=2)):=by
     by_cases z:v=0
     ·simp[z]
     ·by_cases z':v=1<;>simp[z,z']
      rw[nD];simp
    refine Ok.eq e3 (Ok.ite (λz=>Ok.pure ⟨n1,n2,by simp,by simp only;omega,by simp only;omega,λ_=>rfl,λz=>by simp at z,λz=>by simp at z,λz=>by simp at z,λz=>by simp at z⟩) λz=>?_)
    refine Ok.ite (λz=>Ok.pure ⟨n1,n2,by simp,by simp only;omega,by simp only;omega,λ_=>rfl,λz=>by simp at z,λz=>by simp at z,λz=>by simp at z,λz=>by simp at z⟩) λz=>?_
    refine Ok.ite (λz=>Ok.pure ⟨n1,n2,by simp,by simp only;omega,by simp,λ_=>rfl,λz=>by simp at z,λ_=>rfl,λz=>by simp at z,λz=>by simp at z⟩) λz=>?_
    have e4:(if(v==5)=true then(some (v==5)) else(some (v==6)))=some (decide (v=5∨v=6)):=by
     by_cases z:v=5<;>simp[z]
     rw[nD];simp
    refine Ok.eq e4 (Ok.ite (λz=>?_) λz=>?_)
    ·have Ua:=PO (rd l i).B;obtain⟨u,eu,u0,u1⟩:=OQ Ua.1 Ua.2;refine Ok.eq eu (Ok.pure ⟨n1,n2,by simp,by simp only;omega,by simp only;rw[wi U U];omega,λ_=>rfl,λ_=>by simp only;rw[wi U U];omega,λz=>by simp at z,λz=>by simp at z,λz=>by simp at z⟩)
    have e5:(if(v==7)=true then(some (v==7)) else(some (v==8)))=some (decide (v=7∨v=8)):=by
     by_cases z:v=7<;>simp[z]
     rw[nD];simp
    refine Ok.eq e5 (Ok.ite (λz=>Ok.pure ⟨n1,n2,by simp,by simp only;omega,by simp only;omega,λ_=>rfl,λz=>by simp at z,λz=>by simp at z,λz=>by simp at z,λz=>by simp at z⟩) λz=>?_)
    refine Ok.ite (λz=>Ok.pure ⟨n1,n2,by simp,by simp,by simp,λ_=>rfl,λz=>by simp at z,λz=>by simp at z,λ_=>⟨J,J⟩,λz=>by simp at z⟩) λz=>?_
    refine Ok.ite (λz=>Ok.ite (λz=>?_) λz=>?_) λz=>Ok.ite (λz=>?_) λz=>?_
    ·obtain⟨m,em,hm,m1,m2⟩:=OS (af (w+(af (cZ (rd l i).A 4)))) (af (h+(rd l i).B)) hc;have:=UP hm m1 m2;exact Ok.eq em (Ok.eq (OV hm) (Ok.pure ⟨by simp only;omega,by simp only;omega,UO hm m1 m2⟩))
    ·exact Ok.pure ⟨n1,n2,by simp,by simp only;rw[wi U U];omega,by simp,λ_=>rfl,λz=>by simp at z,λz=>by simp at z,λz=>by simp at z,λz=>by simp at z⟩
    ·exact(ahC (rd l i) n1 n2).bind λo ho=>Ok.pure ⟨n1,n2,ho⟩
    ·exact Ok.pure ⟨n1,n2,by simp,by simp,by simp,λ_=>rfl,λz=>by simp at z,λz=>by simp at z,λ_=>⟨J,J⟩,λz=>by simp at z⟩
   ·rcases List.mem_append.1 ho with z |z
    ·exact ha o z
    ·simp only[nG,rR,or_false] at z;rw[z];exact hr.2.2
  ·exact fin k a b C x N i aS hx eY ha bI
theorem ahd (w h:Int) {c:List Int} (hc: ∀y∈c,dQ y) (l:List pD):Ok (kX.f w h c l) (λr=>r≠[]/\r.length<=61/\ ∀o∈r,ux o):=by
 unfold kX.f;obtain⟨m,em,hm,m1,m2⟩:=OS w h hc;have:=UP hm m1 m2;refine Ok.eq em (Ok.eq (OV hm) (ahe w h hc l 60 fuel _ _ _ _ _ 0 U (by rw[cY];omega) U U U bd U (λo ho=>?_) bd))
 simp only[nG,rR,or_false] at ho;rw[ho];exact UO hm m1 m2
end
def Lo (w h:Int) (l:List bB) (j:Int):Prop:=
 (if j=0 then-1 else(rd l (j-1)).Id)<(rd l j).Id/\cR w h (rd l j).Cell/\cR w h (rd l j).Goal/\ ∀q,0<=q->q<j->(rd l q).Cell≠(rd l j).Cell
def sW (w h:Int) (l:List bB):Prop:=iF w h/\ ∀j:Int,0<=j->j<l.length->Lo w h l j
theorem ae_ {w h:Int} {l:List bB} (hb:l.length<=4611686018427387000): ∀(n k:Nat) (i:Int) (m:List (Int×Bool)),i+n=l.length->0<=i->n<k->
 (∀c,aT m c=true↔ ∃q,0<=q/\q<i/\(rd l q).Cell=c)->
 ∃r,pO.l0 k w h l (if i=0 then-1 else(rd l (i-1)).Id) m i=some r/\(r=true↔ ∀j,i<=j->j<l.length->Lo w h l j):=by
 intro n
 induction n with
 |zero=>
  intro k i m hi h0 hk hm;obtain⟨k,rfl⟩:=bz hk;exact⟨true,by rw[pO.l0,aj U],⟨λ_ j j0 j1=>by omega,λ_=>rfl⟩⟩
 |succ n ih=>
  intro k i m hi h0 hk hm;obtain⟨k,rfl⟩:=bz hk;rw[pO.l0,ah U,ah U];simp only[ru,aM]
  by_cases g:Lo w h l i
  ·obtain⟨g1,g2,g3,g4⟩:=g;have Cp:aT m (rd l i).Cell=false:=by
    rw[Bool.eq_false_iff];intro q;obtain⟨z,z0,z1,z2⟩:=(hm _).1 q;exact g4 z z0 z1 z2
   have s1: ¬aQ w h (rd l i).Cell<0:=λq=>Dh.1 q g2
   have s2: ¬aQ w h (rd l i).Goal<0:=λq=>Dh.1 q g3
   rw[aj U,aj s1,aj s2,Cp];simp only[aM,ji,if_false];rw[wi U U];obtain⟨r,r1,r2⟩:=ih k (i+1) (cO m (rd l i).Cell true) U U U (λc=>by
    rw[sB]
    by_cases e:(rd l i).Cell=c
    ·rw[ah e];exact⟨λ_=>⟨i,h0,by omega,e⟩,λ_=>rfl⟩
    ·rw[aj e,hm c];constructor
     ·rintro⟨q,q0,q1,q2⟩;exact⟨q,q0,by omega,q2⟩
     ·rintro⟨q,q0,q1,q2⟩
      by_cases z:q=i
      ·subst z;exact absurd q2 e
      ·exact⟨q,q0,by omega,q2⟩)
   rw[aj U,show i+1-1=i by omega] at r1
   refine⟨r,r1,r2.trans ⟨λq j j0 j1=>?_,λq j j0 j1=>q j U j1⟩⟩
   by_cases z:j=i
   ·subst z;exact⟨g1,g2,g3,g4⟩
   ·exact q j U j1
  ·have hf: ∀last,last=(if i=0 then-1 else(rd l (i-1)).Id)->((if(rd l i).Id<=last then(some true) else(if aQ w h (rd l i).Cell<0 then(some true) else(if aQ w h (rd l i).Goal<0 then(some true) else(some (aT m (rd l i).Cell))))):Option Bool)=some true:=by
    intro last hla
    by_cases a:(rd l i).Id<=last
    ·rw[ah a]
    ·rw[aj a]
     by_cases b:aQ w h (rd l i).Cell<0
     ·rw[ah b]
     ·rw[aj b]
      by_cases c:aQ w h (rd l i).Goal<0
      ·rw[ah c]
      ·rw[aj c]
       congr 1
       rw[hm];refine pg λq=>g ⟨by rw[<-hla];omega,pg λz=>b (Dh.2 z),pg λz=>c (Dh.2 z),λz z0 z1 z2=>q ⟨z,z0,z1,z2⟩⟩
   rw[hf _ J];simp only[aM,if_true];exact⟨false,J,⟨λq=>(by cases q),λq=>absurd (q i U U) g⟩⟩
theorem Vs {w h:Int} {l:List bB} (hb:l.length<=4611686018427387000): ∃r,pO.f w h l=some r/\(r=true↔sW w h l):=by
 unfold pO.f;rw[zH,aM]
 by_cases hm:iF w h
 ·rw[aj (by simpa using hm)]
  obtain⟨r,r1,r2⟩:=ae_ (w:=w) (h:=h) hb l.length fuel 0 [] U U (by rw[cY];omega) (λc=>by
   constructor
   ·intro q;simp[aT,dR] at q
   ·rintro⟨q,q0,q1,_⟩;omega)
  rw[ah J] at r1;exact⟨r,r1,r2.trans ⟨λq=>⟨hm,q⟩,λq=>q.2⟩⟩
 ·rw[ah (by rw[decide_eq_false hm];rfl)]
  exact⟨false,J,⟨λq=>(by cases q),λq=>absurd q.1 hm⟩⟩
theorem sW.cell {w h:Int} {l:List bB} (hm:sW w h l) {j:Int} (j0:0<=j) (j1:j<l.length):cR w h (rd l j).Cell:=(hm.2 j j0 j1).2.1
theorem sW.apart {w h:Int} {l:List bB} (hm:sW w h l) {i j:Int} (i0:0<=i) (i1:i<l.length) (j0:0<=j) (j1:j<l.length) (Gr:i≠j):(rd l i).Cell≠(rd l j).Cell:=by
 rcases Int.lt_or_gt_of_ne Gr with q |q
 ·exact(hm.2 j j0 j1).2.2.2 i i0 q
 ·exact λe=>(hm.2 i i0 i1).2.2.2 j j0 q e.symm
theorem sW.ids {w h:Int} {l:List bB} (hm:sW w h l): ∀(n:Nat) (i j:Int),j=i+n->0<=i->0<n->j<l.length->(rd l i).Id<(rd l j).Id:=by
 intro n
 induction n with
 |zero=>intro i j _ _ h;omega
 |succ n ih=>
  intro i j hj i0 _ j1;have h1:=(hm.2 j U j1).1;rw[aj U] at h1
  by_cases hn:n=0
  ·have:j-1=i:=U;rw[this] at h1;exact h1
  ·have:=ih i (j-1) U i0 U U;omega
theorem sW.ad' {w h:Int} {l:List bB} (hm:sW w h l) {i j:Int} (i0:0<=i) (Gr:i<j) (j1:j<l.length):(rd l i).Id<(rd l j).Id:=
 hm.ids (j-i).toNat i j U i0 U j1
section
abbrev DJ {α:Type} (o:Option α):Prop:=Ok o λ_=>True
theorem Ok.qW {σ β:Type} {F:Nat->σ->Int->Option β} {P:β->Prop} (N:Nat) (hN:N<=1000000) (I:σ->Int->Prop) (fin: ∀k s,I s N->Ok (F (k+1) s N) P) (step: ∀k s (i:Int),0<=i->i<N->I s i->(∀s',I s' (i+1)->Ok (F k s' (i+1)) P)->Ok (F (k+1) s i) P) (s:σ) (h:I s 0):Ok (F fuel s 0) P:=by
 have key: ∀(n k:Nat) (s:σ) (i:Int),i+n=N->n<k->0<=i->I s i->Ok (F k s i) P:=by
  intro n
  induction n with
  |zero=>
   intro k s i h1 h2 h3 h4;obtain⟨k,rfl⟩:=bz h2;have:i=N:=U;subst this;exact fin k s h4
  |succ n ih=>
   intro k s i h1 h2 h3 h4;obtain⟨k,rfl⟩:=bz h2;exact step k s i h3 U h4 λs' a=>ih k s' (i+1) U U U a
 exact key N fuel s 0 U (by rw[cY];omega) U h
theorem Xk (f:km) (c:Int):zj.f f c=some (decide (0<=c/\c<f.words.length)):=by
 unfold zj.f
 by_cases h:0<=c
 ·rw[ah U];simp[h]
 ·rw[aj U];simp[h]
theorem Lk (f:km) (c:Int):Ok (qV.f f c) λr=>r≠ -1->0<=c/\c<f.words.length:=by
 unfold qV.f;refine Ok.eq (Xk f c) (Ok.ite (λ_=>Ok.pure λh=>absurd J h) λh=>?_);have h:0<=c/\c<(f.words.length:Int):=by simpa using h
 exact Ok.br h (Ok.pure λ_=>h)
theorem Xi (f:km) (c:Int):Ok (zi.f f c) λb=>b=true->0<=c/\c<f.words.length:=by
 unfold zi.f;refine Ok.bind (P:=λb=>b=true->0<=c/\c<f.words.length) (Ok.eq (Xk f c) (Ok.ite (λh=>?_) λ_=>Ok.pure bd)) λr hr=>Ok.pure hr
 have h:=of_decide_eq_true h;exact Ok.br h (Ok.pure λ_=>h)
theorem Xn (f:km) (c id:Int):DJ (tv.f f c id):=by
 unfold tv.f;refine(Xi f c).bind λb hb=>Ok.ite (λ_=>Ok.pure trivial) λh=>Ok.br (hb ?_) (Ok.pure trivial)
 cases b
 ·simp at h
 ·rfl
theorem Xo (f:km) (c:Int):DJ (tz.f f c):=by
 unfold tz.f;exact(Lk f c).bind λr hr=>Ok.ite (λh=>Ok.br (hr (by simpa using h)) (Ok.pure trivial)) λ_=>Ok.pure trivial
theorem aiG (f:km) (a b:Int):DJ (xv.f f a b):=by
 unfold xv.f;exact Ok.bind (P:=λ_=>True) ((Lk f a).bind λr _=>Ok.ite (λ_=>Ok.pure trivial) λ_=>(Xi f b).bind λ_ _=>Ok.pure trivial) λx _=>Ok.ite (λ_=>Ok.pure trivial) λ_=>(Xo f a).bind λv _=>(Xn v.2 b v.1).bind λw _=>Ok.pure trivial
variable (u : fI) (hb : u.order.length <= 1000)
include hb
theorem Xf:Ok (mW.f u) λr=>r.length<=u.order.length:=by
 refine Ok.qW (F:=λk s i=>mW.l0 k u s i) u.order.length U (λs i=>s.length<=i) (λk s c=>?_) (λk s i a b c ih=>?_) [] bd
 ·rw[mW.l0,aj U];exact Ok.pure U
 ·rw[mW.l0,wi U U];exact Ok.pos b (Ok.br ⟨a,b⟩ (Ok.ite (λ_=>Ok.br U (ih _ bo)) λ_=>ih _ U))
theorem aie:Ok (pa.f u) λr=>r.length<=u.order.length:=by
 unfold pa.f;refine(Xf u hb).bind λv hv=>Ok.qW (F:=λk s i=>pa.l0 k u v s i) v.length U (λs i=>s.length<=i) (λk s c=>?_) (λk s i a b c ih=>?_) [] bd
 ·rw[pa.l0,aj U];exact Ok.pure U
 ·rw[pa.l0,wi U U];exact Ok.pos b (Ok.br ⟨a,b⟩ (Ok.br U (ih _ bo)))
theorem aic (c g:Int):Ok (yC.f u c g) λr=>r.2.2.order.length<=u.order.length+1:=by
 unfold yC.f;exact Ok.ite (λ_=>Ok.pure bd) λ_=>Ok.br U (Ok.pure bd)
theorem aij (k:Int):Ok (yE.f u k) λr=>r.2.order.length<=u.order.length:=by
 unfold yE.f;refine Ok.eq J (Ok.ite (λ_=>Ok.pure (jM _)) λ_=>Ok.ite (λ_=>?_) λ_=>Ok.pure (jM _));exact(Xf (fI.mk u.most u.next (fU u.live k) u.order) hb).bind λr hr=>Ok.pure hr
omit hb
theorem aid (k g:Int):Ok (yD.f u k g) λr=>r.2.order=u.order:=by
 unfold yD.f Ad.f;exact Ok.bind (P:=λr:Bool×fI=>r.2.order=u.order) (Ok.eq J (Ok.ite (λ_=>Ok.eq J (Ok.pure J)) λ_=>Ok.pure J)) λr hr=>Ok.pure hr
theorem aiw (k g:Int):Ok (yG.f u k g) λr=>r.2.order=u.order:=by
 unfold yG.f Ae.f;exact Ok.bind (P:=λr:Bool×fI=>r.2.order=u.order) (Ok.eq J (Ok.ite (λ_=>Ok.eq J (Ok.pure J)) λ_=>Ok.pure J)) λr hr=>Ok.pure hr
end
section
theorem aiI (f:rj) (u:bB) (d:Int) (h1:f.jU.length<=1000) (h2:f.gone.length<=1000):Ok (xV.f f u d) λr=>r.2.1.jU.length<=f.jU.length+1/\r.2.1.gone.length<=f.gone.length+1:=by
 unfold xV.f;refine Ok.ite (λ_=>?_) λ_=>Ok.ite (λ_=>?_) λ_=>Ok.ite (λ_=>?_) λ_=>Ok.ite (λ_=>?_) λ_=>Ok.pure ⟨by simp,by simp⟩
 all_goals exact Ok.eq (EW ..) (Ok.bind (P:=λ_=>True) (Ok.ite (λ_=>Ok.pure trivial) λ_=>Ok.pure trivial) λx _=>Ok.ite (λ_=>Ok.pure ⟨by simp,by simp⟩) λ_=>Ok.br U (Ok.ite (λ_=>Ok.br U (Ok.pure ⟨by simp,by simp⟩)) λ_=>Ok.pure ⟨by simp,by simp⟩))
theorem aiA (s:List Int) (hb:s.length<=1000):DJ (Dn.f s):=by
 unfold Dn.f rC.f;refine Ok.bind (P:=λ_=>True) (Ok.qW (F:=λk (_:Unit) i=>rC.l0 k s i) s.length U (λ_ _=>True) (λk _ _=>?_) (λk _ i a b _ ih=>?_) () trivial) λ_ _=>Ok.pure trivial
 ·rw[rC.l0,aj U];exact Ok.pure trivial
 ·rw[rC.l0,wi U U];exact Ok.pos b (Ok.br ⟨a,b⟩ (Ok.eq J (Ok.ite (λ_=>Ok.pure trivial) λ_=>ih () trivial)))
theorem ail (w h:Int) (l:List bB) (gW:List Int) (hb:l.length<=900):Ok (jT.f w h l gW) λr=>r.2.1.length<=l.length:=by
 obtain⟨m,em,_⟩:=Vs (w:=w) (h:=h) (l:=l) U;unfold jT.f;refine Ok.bind (P:=λx=>x=false->gW.length=l.length) (Ok.eq em (Ok.ite (λ_=>Ok.pure bd) λq=>?_)) λx hx=>Ok.ite (λ_=>Ok.pure bd) λq=>?_
 ·have q:gW.length=l.length:=by
   cases m
   ·simp at q
   ·have:(gW.length:Int)=l.length:=by simpa using q
    omega
  exact(aiA gW U).bind λ_ _=>Ok.pure λ_=>q
 have hd:=hx (by simpa using q)
 refine Ok.qW (F:=λk s i=>jT.l0 k w h l gW s i) l.length U (λ_ _=>True) (λk s _=>?_) (λk s i a b _ ih=>?_) [] trivial
 ·rw[jT.l0,aj U];refine Ok.qW (F:=λk (s:List bB×Int×Int×List (Int×Bool)×List fY×List Int) i=>jT.l1 k w h l gW s.1 s.2.1 s.2.2.1 s.2.2.2.1 s.2.2.2.2.1 s.2.2.2.2.2 i) l.length U (λs i=>s.1.length<=i/\s.2.2.2.2.1.length<=i/\s.2.2.2.2.2.length<=i) (λk s c=>?_) (λk s i a b c ih=>?_) ([],w,h,s,[],[]) bd
  ·rw[jT.l1,aj U];exact Ok.pure (by simp only;omega)
  ·rw[jT.l1,wi U U];refine Ok.pos b (Ok.br ⟨a,b⟩ (Ok.br ⟨a,by omega⟩ ((aiI _ _ _ (by simp only;omega) (by simp only;omega)).bind λr hr=>?_)))
   simp only at hr;exact Ok.ite (λ_=>Ok.br U (ih (s.1++[r.2.2],r.2.1.w,r.2.1.h,r.2.1.kB,r.2.1.jU,r.2.1.gone) ⟨by simp;omega,by simp only;omega,by simp only;omega⟩)) λ_=>ih (s.1,r.2.1.w,r.2.1.h,r.2.1.kB,r.2.1.jU,r.2.1.gone) ⟨by simp only;omega,by simp only;omega,by simp only;omega⟩
 ·rw[jT.l0,wi U U];exact Ok.pos b (Ok.br ⟨a,b⟩ (ih _ trivial))
end
section
variable (c : ft)
theorem aiz {w h most:Int} (hm:iF w h) (h1:1<=most) (h2:most<=65536):Ok (xq.f w h most) λr=> ∃c,r=some c/\c.eV.order=[]:=by
 have hp:=pJ hm;unfold xq.f Ac.f uM.f;rw[zH,aM,aj (by rw[decide_eq_true hm];simp;omega),aj bo,aM,wi U U,aj bo,ah U]
 exact Ok.pure ⟨_,J,J⟩
theorem Xh (x:Int):DJ (vO.f c x):=by
 unfold vO.f;exact Ok.eq (ru ..) (Ok.pure trivial)
theorem Xr (p cell goal:Int):DJ (zf.f c p cell goal):=by
 unfold zf.f yF.f
 repeat' first
  |exact Ok.pure trivial
  |refine Ok.ite (λ_=>?_) λ_=>?_
  |refine(Xh c _).bind λ_ _=>?_
  |refine(Lk _ _).bind λ_ _=>?_
  |refine Ok.bind (P:=λ_=>True) ?_ λ_ _=>?_
variable (hb : c.eV.order.length <= 900)
include hb
theorem PI (u:bB):Ok (qc.f c u) λr=>r.eV.order.length<=c.eV.order.length:=by
 unfold qc.f;exact(aij _ U _).bind λv hv=>(Xo _ _).bind λ_ _=>Ok.pure hv
theorem aiH (cell goal:Int):Ok (xp.f c cell goal) λr=>r.2.2.eV.order.length<=c.eV.order.length+1:=by
 unfold xp.f;exact(Xr c 0 cell goal).bind λv _=>Ok.ite (λ_=>Ok.pure bd) λ_=>(aic _ U cell goal).bind λa ha=>(Xn _ _ _).bind λ_ _=>Ok.pure ha
theorem aiF (id goal:Int):Ok (xo.f c id goal) λr=>r.2.eV.order.length<=c.eV.order.length:=by
 unfold xo.f;exact Ok.eq J (Ok.ite (λ_=>Ok.pure (jM _)) λ_=>(Xh c _).bind λ_ _=>Ok.ite (λ_=>Ok.pure (jM _)) λ_=>(Xr c 3 _ _).bind λ_ _=>Ok.ite (λ_=>(PI c hb _).bind λ_ z=>Ok.pure z) λ_=>(aid _ _ _).bind λ_ z=>Ok.pure (by simp only;rw[z];exact jM _))
theorem aif (id:Int):Ok (xn.f c id) λr=>r.2.eV.order.length<=c.eV.order.length:=by
 unfold xn.f;exact Ok.eq J (Ok.ite (λ_=>Ok.pure (jM _)) λ_=>(PI c hb _).bind λ_ z=>Ok.pure z)
theorem Xq:Ok (qa.f c) λr=>r.length<=c.eV.order.length:=by
 unfold qa.f;exact(aie _ U).bind λ_ z=>Ok.pure z
theorem aiK (gW:List Int):Ok (nQ.f c gW) λr=>r.2.2.2.eV.order.length<=c.eV.order.length:=by
 unfold nQ.f;refine(Xq c hb).bind λL hL=>(ail _ _ L gW U).bind λv hv=>Ok.ite (λ_=>Ok.pure (jM _)) λ_=>?_
 refine Ok.qW (F:=λk s i=>nQ.l0 k v s i) v.2.1.length U (λs _=>s.eV.order.length<=c.eV.order.length) (λk s z=>?_) (λk s i a b z ih=>?_) c (jM _)
 ·rw[nQ.l0,aj U];exact Ok.pure z
 ·rw[nQ.l0,wi U U];refine Ok.pos b (Ok.br ⟨a,b⟩ (Ok.bind (P:=λ_=>True) (Ok.eq J (Ok.pure trivial)) λy _=>?_));obtain⟨x8,x9,aK⟩:=y;exact Ok.ite (λ_=>(PI s U _).bind λc' h'=>ih _ U) λ_=>(aiG _ _ _).bind λ_ _=>(aiw _ _ _).bind λm hm=>ih _ (by simp only;rw[hm];exact z)
end
theorem aff {m:List (Int×List gr)} {g:Int} (h:aT m g≠[]):cj m g=true:=by
 unfold cj;unfold aT at h
 cases e:dR m g with
 |none=>rw[e] at h;exact absurd J h
 |some _=>rfl
theorem On {m:List (Int×List gr)} {g:Int} (v:List gr) (h:cj m g=true) (g':Int):aT (tL m g v) g'=if g=g' then v else aT m g':=by
 unfold tL;rw[ah h,sB]
section
variable {w h : Int} {l : List bB}
theorem aim (hb:l.length<=100):Ok (oW.f l) λr=>r.length<=l.length/\r.Nodup:=by
 refine Ok.qW (F:=λk (s:List Int×List (Int×Bool)) i=>oW.l0 k l s.1 s.2 i) l.length U (λs i=>s.1.length<=i/\s.1.Nodup/\ ∀c∈s.1,aT s.2 c=true) (λk s c=>?_) (λk s i a b c ih=>?_) ([],[]) bd
 ·rw[oW.l0,aj U];exact Ok.pure ⟨by omega,c.2.1⟩
 ·rw[oW.l0,wi U U];obtain⟨c1,c2,c3⟩:=c;refine Ok.pos b (Ok.br ⟨a,b⟩ (Ok.ite (λq=>Ok.br U (ih (_,_) ⟨by simp;omega,?_,λc hc=>?_⟩)) λ_=>ih (_,_) ⟨by simp only;omega,c2,c3⟩))
  ·rw[List.nodup_append];refine⟨c2,by simp,λx hx y hy=>?_⟩
   simp only[nG,rR,or_false] at hy;subst hy;intro e;subst e;rw[c3 _ hx] at q;simp at q
  ·simp only at hc⊢;rw[sB];split
   ·rfl
   ·rename_i z;rcases List.mem_append.1 hc with y |y
    ·exact c3 c y
    ·simp only[nG,rR,or_false] at y;exact absurd y.symm z
def Lu (w h:Int) (l:List bB) (p:gr):Prop:=(∃u∈l,u.Goal=p.Goal/\aQ w h u.Cell=p.sZ)/\ ∀id∈p.j_,∃u∈l,u.Id=id/\aQ w h u.Cell=p.sZ
structure PJ (w h:Int) (l:List bB) (i n:Int) (m:List (Int×List gr)) (at':List ((Int×Int)×Int)):Prop where
 ok: ∀g,∀p∈aT m g,Lu w h l p/\p.j_.length<=i
 len_: ∀g,(aT m g).length<=n
 place: ∀g s,cj at' (g,s)=true->0<=aT at' (g,s)/\aT at' (g,s)<(aT m g).length/\(rd (aT m g) (aT at' (g,s))).sZ=s
theorem aiC (hb:l.length<=100):Ok (ku.f w h l) λr=>r.length<=10000/\(r=[]∨sW w h l)/\ ∀p∈r,Lu w h l p/\p.j_.length<=100:=by
 obtain⟨b,eb,hm⟩:=Vs (w:=w) (h:=h) (l:=l) U;unfold ku.f;refine Ok.eq eb (Ok.ite (λ_=>Ok.pure bd) λq=>?_);have hm:sW w h l:=hm.1 (by simpa using q)
 refine Ok.qW (F:=λk (s:List (Int×List gr)×List ((Int×Int)×Int)) i=>ku.l0 k w h l s.1 s.2 i) l.length U (λs i=>PJ w h l i i s.1 s.2) (λk s c=>?_) (λk s i i0 i1 c ih=>?_) ([],[]) ⟨by simp[aT,dR,show(default:List gr)=[] from rfl],by simp[aT,dR,show(default:List gr)=[] from rfl],by simp[cj,dR]⟩
 ·rw[ku.l0,aj U];refine(aim hb).bind λG hG=>Ok.qW (F:=λk (t:List Int×List gr) i=>ku.l1 k G s.1 t.1 t.2 i) G.length U (λt i=>(∀g∈t.1,∃j:Int,0<=j/\j<i/\rd G j=g)/\t.2.length<=i*100/\ ∀p∈t.2,Lu w h l p/\p.j_.length<=100) (λk t d=>?_) (λk t i i0 i1 d ih=>?_) ([],[]) bd
  ·rw[ku.l1,aj U];exact Ok.pure ⟨by omega,.inr hm,d.2.2⟩
  ·obtain⟨d1,d2,d3⟩:=d;have hl:=c.len_ (rd G i);rw[ku.l1,wi U U];refine Ok.pos i1 (Ok.br ⟨i0,i1⟩ (Ok.br (λz=>?_) (Ok.br U (ih (_,_) ⟨λg hg=>?_,by simp;omega,λp hp=>?_⟩))))
   ·obtain⟨j,j0,j1,e⟩:=d1 _ z;exact yi hG.2 j0 j1 i1 e
   ·rcases List.mem_cons.1 hg with rfl |hg
    ·exact⟨i,i0,by omega,J⟩
    ·obtain⟨j,j0,j1,e⟩:=d1 g hg;exact⟨j,j0,by omega,e⟩
   ·rcases List.mem_append.1 hp with z |z
    ·exact d3 p z
    ·have:=c.ok _ p z;exact⟨this.1,by omega⟩
 ·rw[ku.l0,wi U U];have hu:=fV i0 i1;generalize rd l i=u at hu⊢;refine Ok.pos i1 (Ok.bind (P:=λr=>PJ w h l (i+1) (i+1) r.1 r.2) (Ok.br ⟨i0,i1⟩ (Ok.eq (ru ..) (Ok.bind (P:=λr=>PJ w h l i (i+1) r.1 r.2.1/\cj r.1 u.Goal=true/\0<=r.2.2/\r.2.2<(aT r.1 u.Goal).length/\(rd (aT r.1 u.Goal) r.2.2).sZ=aQ w h u.Cell) (Ok.ite (λq=>?_) λq=>?_) λr hr=>?_))) λr hr=>ih (_,_) hr)
  ·have q:cj s.2 (u.Goal,aQ w h u.Cell)=false:=by simpa using q
   have hl:=c.len_ u.Goal;refine Ok.br U (Ok.pure ⟨⟨λg p hp=>?_,λg=>?_,λg t hh=>?_⟩,by simp only;rw[US];simp,by simp only;omega,by simp only;rw[sB,ah J];simp;omega,?_⟩)
   ·simp only at hp;rw[sB] at hp;split at hp
    ·rename_i e;subst e;rcases List.mem_append.1 hp with z |z
     ·exact c.ok _ p z
     ·simp only[nG,rR,or_false] at z;subst z;exact⟨⟨⟨u,hu,J,J⟩,by simp⟩,by simp;omega⟩
    ·exact c.ok _ p hp
   ·simp only;rw[sB];split
    ·simp;omega
    ·have:=c.len_ g;omega
   ·simp only at hh⊢;rw[US] at hh;rw[sB,sB]
    by_cases e:(u.Goal,aQ w h u.Cell)=(g,t)
    ·obtain⟨e1,e2⟩:=Prod.mk.inj e;rw[ah e,ah e1,Hu U U,ah J];exact⟨by omega,by simp;omega,e2⟩
    ·rw[aj e];simp only[e,decide_false,Bool.false_or] at hh;obtain⟨p1,p2,p3⟩:=c.place g t hh;split
     ·rename_i e1;rw[e1] at hl⊢;rw[Hu p1 U,aj U];exact⟨p1,by simp;omega,p3⟩
     ·exact⟨p1,p2,p3⟩
   ·simp only;rw[sB,ah J,Hu U U,ah J]
  ·have q:cj s.2 (u.Goal,aQ w h u.Cell)=true:=by simpa using q
   obtain⟨p1,p2,p3⟩:=c.place _ _ q;refine Ok.pure ⟨⟨c.ok,λg=>by have:=c.len_ g;simp only;omega,c.place⟩,aff λz=>?_,p1,p2,p3⟩
   rw[z] at p2;simp at p2;omega
  ·obtain⟨m,a,j⟩:=r;simp only at hr⊢;obtain⟨c,r1,r2,r3,r4⟩:=hr;have NM:=fV r2 r3;have hk:=c.ok _ _ NM;refine Ok.br ⟨r2,r3⟩ (Ok.br U (Ok.pure ⟨λg p hp=>?_,λg=>?_,λg t hh=>?_⟩))
   ·simp only at hp;rw[On _ r1] at hp;split at hp
    ·rename_i e;subst e;rcases List.mem_or_eq_of_mem_set hp with z |z
     ·have:=c.ok _ p z;exact⟨this.1,by omega⟩
     ·subst z;refine⟨⟨hk.1.1,λid hid=>?_⟩,by simp;omega⟩
      rcases List.mem_append.1 hid with y |y
      ·exact hk.1.2 id y
      ·simp only[nG,rR,or_false] at y;exact⟨u,hu,y.symm,r4.symm⟩
    ·have:=c.ok _ p hp;exact⟨this.1,by omega⟩
   ·simp only;rw[On _ r1];have:=c.len_ g;split
    ·rename_i e;subst e;simpa using this
    ·exact this
   ·simp only at hh⊢;obtain⟨p1,p2,p3⟩:=c.place g t hh;rw[On _ r1];split
    ·rename_i e;subst e;rw[mh r2 r3 p1];refine⟨p1,by simpa using p2,?_⟩
     split
     ·rename_i z;rw[z] at p3;exact p3
     ·exact p3
    ·exact⟨p1,p2,p3⟩
end
section
variable {S : cm} {k most b : Int} {L : List bB}
theorem afC {n:cF} {ord:List Int} {c:fe} (hn:ka n k b ord) (hb:0<=b/\b<=100000000000) (hc:n.core=some c) {goal s:Int} (hg:bP c.aL.m goal) (hs:bC c.aL.m.W c.aL.m.H s):
 ∃f n',vb.f n goal s=some (f,0,n')/\DC n k b ord c goal s (f,Er.nil,n'):=by
 obtain⟨⟨f,e,n'⟩,er,hr⟩:=U2 hn hb hc hg hs;have he:=hr.err;simp only at he;subst he;refine⟨f,n',?_,hr⟩;unfold vb.f;rw[er,aM];simp only[UZ,aM]
theorem MA {n:cF} {ord:List Int} {c:fe} {goal s:Int} {r:gp×Er×cF} (h:DC n k b ord c goal s r):(∃tQ,ka r.2.2 k (b+5000) tQ)/\(∃c',r.2.2.core=some c'/\c'.aL=c.aL)/\r.1.cK.length=(dC c.aL.m s).C.length:=by
 obtain⟨R,l,c',tQ,f1,f2,f3,f4,f5,f6,f7,f8,f9,f10,f11,f12,f13,f14,f15,f16,_⟩:=h.F2;exact⟨⟨tQ,f16⟩,⟨c',f7,f8⟩,f6.dl⟩
theorem aih {c:fe} {ord:List Int} (hn:ka S.nav k b ord) (hb:0<=b/\b<=50000000000) (hc:S.nav.core=some c) (hL:L.length<=100):
 Ok (fw.f S L) λr=>r.2.1=Er.nil/\ ∃nv tQ,r.2.2=⟨S.most,nv,S.fB⟩/\ka nv k (b+50000000) tQ/\ ∃c',nv.core=some c':=by
 unfold fw.f;refine Ok.eq (U8 hc) (Ok.qW (F:=λk x i=>fw.l0 k S L (c.aL.m.W,c.aL.m.H) x i) L.length U (λx i=>sW c.aL.m.W c.aL.m.H L-> ∀j:Int,0<=j->j<i->aT x (rd L j).Id=cy c.aL.m.W c.aL.m.H (rd L j).Cell) (λq x hx=>?_) (λq x i a b hx ih=>?_) [] (λ_ j j0 j1=>by omega))
 ·rw[fw.l0,aj U];refine(aiC hL).bind λps ⟨q_,NM,NO⟩=>?_
  refine Ok.qW (F:=λk (s:cF×List (Int×Int)) i=>fw.l1 k S L x ps s.1 s.2 i) ps.length U (λs i=> ∃ord,ka s.1 k (b+5000*i) ord/\ ∃c',s.1.core=some c'/\c'.aL=c.aL) (λq s hs=>?_) (λq s i i0 i1 hs ih=>?_) (S.nav,[]) ⟨ord,by simpa using hn,c,hc,J⟩
  ·obtain⟨tQ,h1,c',h2,h3⟩:=hs;rw[fw.l1,aj U];refine Ok.qW (F:=λk y i=>fw.l3 k S L s.1 s.2 y i) L.length U (λy i=>y.length<=i) (λq y hy=>?_) (λq y i i0 i1 hy ih=>?_) [] bd
   ·rw[fw.l3,aj U];exact Ok.pure ⟨J,s.1,tQ,J,h1.mono U,c',h2⟩
   ·rw[fw.l3,wi U U];exact Ok.pos i1 (Ok.br ⟨i0,i1⟩ (Ok.br U (ih _ bo)))
  ·obtain⟨nv,D⟩:=s;obtain⟨tQ,h1,c',h2,h3⟩:=hs;simp only at h1 h2;have hp:=fV i0 i1;obtain⟨⟨⟨u,hu,u1,u2⟩,adZ⟩,hil⟩:=NO _ hp;have hm:sW c.aL.m.W c.aL.m.H L:=NM.resolve_left λz=>by rw[z] at hp;simp at hp
   have hG:=(h1.core c' h2).1.gs;have gw: ∀u∈L,cR c.aL.m.W c.aL.m.H u.Cell/\cR c.aL.m.W c.aL.m.H u.Goal:=λu hu=>by
    obtain⟨j,j0,j1,rfl⟩:=qq hu;exact⟨(hm.2 j j0 j1).2.1,(hm.2 j j0 j1).2.2.1⟩
   obtain⟨f,n',ef,hf⟩:=afC h1 ⟨by omega,by omega⟩ h2 (goal:=(rd ps i).Goal) (s:=(rd ps i).sZ) (by rw[h3,<-u1];exact(gw u hu).2.2) (by rw[h3,<-u2];exact oY (gw u hu).1)
   obtain⟨⟨o2,f1⟩,⟨c2,f2,f3⟩,f4⟩:=MA hf;simp only at f1 f2 f4;rw[fw.l1,wi (x:=i+1) U U];refine Ok.pos i1 (Ok.bind (P:=λz=> ∃D',z=Sum.inr (n',D')) (Ok.br ⟨i0,i1⟩ (Ok.bind (P:=λp=>p=(n',f.ez,f.cK,(0:Int))) (Ok.eq ef (Ok.pure J)) λp hp=>?_)) λz hz=>?_)
   ·subst hp;refine Ok.neg bd (Ok.qW (F:=λk y j=>fw.l2 k x i ps n' f.cK y j) (rd ps i).j_.length U (λ_ _=>True) (λq y _=>?_) (λq y j j0 j1 _ ih=>?_) D trivial)
    ·rw[fw.l2,aj U];exact Ok.pure ⟨_,J⟩
    ·rw[fw.l2,wi U U];refine Ok.pos j1 (Ok.br ⟨j0,j1⟩ (Ok.br ?_ (ih _ trivial)));obtain⟨v,hv,v1,v2⟩:=adZ _ (fV j0 j1);obtain⟨t,t0,t1,rfl⟩:=qq hv;have:=ud hG (c:=(rd L t).Cell) (by rw[h3];exact(gw _ hv).1.2)
     rw[<-v1,hx hm t t0 t1,f4,<-v2,<-h3];exact⟨this.1,this.2.1⟩
   ·obtain⟨D',rfl⟩:=hz;exact ih (n',D') ⟨o2,by simp only;rw[show b+5000*(i+1)=b+5000*i+5000 by omega];exact f1,c2,f2,by rw[f3,h3]⟩
 ·rw[fw.l0,wi U U];refine Ok.pos b (Ok.br ⟨a,b⟩ (Ok.eq (GU ..) (ih _ λhm j j0 j1=>?_)));rw[sB]
  by_cases z:j=i
  ·subst z;rw[ah rfl]
  ·have:=hm.ad' j0 (show j<i by omega) b
   rw[aj U];exact hx hm j j0 U
structure uC (S:cm) (k most b:Int):Prop where
 m_:S.most=most
 mb:1<=most/\most<=100
 nav: ∃ord,ka S.nav k b ord
 cr:(S.nav.core=none/\S.fB=none)∨ ∃c C,S.nav.core=some c/\S.fB=some C/\60000000*(C.eV.order.length:Int)<=b
theorem uC.mono {b':Int} (h:uC S k most b) (hb:b<=b'):uC S k most b':=by
 obtain⟨ord,hn⟩:=h.nav;refine⟨h.m_,h.mb,⟨ord,hn.mono hb⟩,?_⟩;rcases h.cr with z |⟨c,C,h1,h2,h3⟩
 ·exact .inl z
 ·exact .inr ⟨c,C,h1,h2,by omega⟩
structure WE (k most b:Int) (S:cm) (o:dL) (e:Er) (S':cm):Prop where
 sv:uC S' k most b
 core:((∃c,S.nav.core=some c)∨(o.Kind=1/\ ∃m,tj.f o.Map=some (m,0)))-> ∃c',S'.nav.core=some c'
 er:e=Er.nil∨e=Er.dM 0∨ ∃c,e=Er.num 148 c
theorem Lj (c:Int):Ok (fP.f c) λe=>e=Er.nil∨e=Er.dM 0∨ ∃c,e=Er.num 148 c:=by
 unfold fP.f;exact Ok.ite (λ_=>Ok.pure (.inl J)) λ_=>Ok.pure (.inr (.inr ⟨c,J⟩))
abbrev a0:lZ:=lZ.mk 0 0 5 (-1) [] [] (gL.mk 0 0 0 0 0 0)
variable (h : uC S k most b) (hb : 0 <= b /\ b <= 5000000000) {o : dL} (ho : ux o)
include h hb
omit hb in
theorem Dx {e:Er} (he:e=Er.nil∨e=Er.dM 0∨ ∃c,e=Er.num 148 c) (hk:o.Kind≠1):WE k most (b+60000000) S o e S:=
 ⟨h.mono U,λz=>z.resolve_right λy=>hk y.1,he⟩
include ho
theorem aiv (hk:o.Kind=1):Ok (yx.f S o.Map) λr=>WE k most (b+60000000) S o r.1 r.2:=by
 obtain⟨l1,l2,l3,l4,l5⟩:=ho.ld hk;obtain⟨ord,hn⟩:=h.nav;unfold yx.f;obtain⟨v,ev,hv⟩:=Yf l1 l3;refine Ok.eq ev ?_;rcases hv with q |⟨q1,q2,q3,q4,q5⟩
 ·refine Ok.pos (by rcases q with q |q<;>simp[q]) (Ok.pure ⟨h.mono U,λz=>z.resolve_right λ⟨_,m,em⟩=>?_,.inr (.inr ⟨6,rfl⟩)⟩)
  rw[ev] at em;have:=Option.some.inj em;rw[this] at q;simp at q
 ·refine Ok.neg (by simp[q1]) ?_
  have NJ:P2 v.1:=⟨q2,q3,by
   have:=q2.1;have:v.1.W*v.1.H<=40*40:=kT U U U U;omega⟩
  obtain⟨n',c',e,e1,e2,_⟩:=afE hn ⟨hb.1,by omega⟩ NJ
  have TL:=h.mb;obtain⟨_,eC,C,rfl,hC⟩:=aiz (w:=v.1.W) (h:=v.1.H) (most:=most) q2.1 TL.1 U;refine Ok.eq e (Ok.pos J ?_);rw[h.m_];exact Ok.eq eC (Ok.opt (Ok.eq J (Ok.pure ⟨⟨J,TL,⟨[],e2.mono U⟩,.inr ⟨c',C,e1,J,by rw[hC];simp;omega⟩⟩,λ_=>⟨c',e1⟩,.inl J⟩)))
variable {c : fe} {C : ft} (h1 : S.nav.core = some c) (h2 : S.fB = some C) (h3 : 60000000 * (C.eV.order.length : Int) <= b)
include h1 h2 h3
omit hb ho h2 in
theorem PK {C':ft} (hC:(C'.eV.order.length:Int)<=C.eV.order.length+1) {e:Er} (he:e=Er.nil∨e=Er.dM 0∨ ∃c,e=Er.num 148 c):WE k most (b+60000000) S o e ⟨S.most,S.nav,some C'⟩:=by
 obtain⟨ord,hn⟩:=h.nav;exact⟨⟨h.m_,h.mb,⟨ord,hn.mono U⟩,.inr ⟨c,C',h1,J,by omega⟩⟩,λ_=>⟨c,h1⟩,he⟩
theorem aik (hk:o.Kind=2) (hA:bP c.aL.m o.A):Ok (yw.f S o.A o.B) λr=>WE k most (b+60000000) S o r.1 r.2:=by
 have hB:=ho.b2 hk;obtain⟨ord,hn⟩:=h.nav;have no: ∀c,WE k most (b+60000000) S o (Er.num 148 c) S:=λc=>Dx h (.inr (.inr ⟨c,J⟩)) U;unfold yw.f;refine Ok.ite (λq=>Ok.pure (no _)) λq=>?_
 have q: ¬(o.B<1∨o.B>255):=by simpa using q
 rw[h2];refine Ok.bind (P:=λ_=>True) (Ok.opt (Ok.ite (λ_=>by unfold DV.f;exact Ok.bind (P:=λ_=>True) ((Lk _ _).bind λ_ _=>Ok.pure trivial) λ_ _=>Ok.pure trivial) λ_=>Ok.pure trivial)) λx _=>Ok.ite (λz=>Ok.pure (no _)) λz=>?_
 obtain⟨n',e1,e2,e3,e4,e5,e6⟩:=afz hn ⟨hb.1,by omega⟩ h1 hA U hB
 exact Ok.eq e1 (Ok.eq J (Ok.pure ⟨⟨h.m_,h.mb,⟨ord,e5.mono U⟩,.inr ⟨_,C,e2,J,by omega⟩⟩,λ_=>⟨_,e2⟩,.inl J⟩))
omit ho in
theorem aiE (hk:o.Kind=6):Ok (vp.f S a0 o.A o.B) λr=>WE k most (b+60000000) S o r.1 r.2.1:=by
 obtain⟨ord,hn⟩:=h.nav;unfold vp.f;refine(U3 hn ⟨hb.1,by omega⟩ h1 o.A o.B).bind λv hv=>?_
 rcases hv with⟨_,_,a3,f,a4,_⟩ |⟨_,a2,a3⟩
 ·obtain⟨⟨o2,f1⟩,⟨c2,f2,f3⟩,_⟩:=MA a4;rw[a3];exact Ok.pos J (Ok.eq J (Ok.pure ⟨⟨h.m_,h.mb,⟨o2,f1.mono U⟩,.inr ⟨c2,C,f2,h2,by omega⟩⟩,λ_=>⟨c2,f2⟩,.inl J⟩))
 ·rw[a2,a3];exact Ok.neg bd (Ok.eq J (Ok.pure (Dx h (.inr (.inr ⟨7,J⟩)) U)))
omit ho in
theorem aiJ:Ok (yy.f S a0) λr=>WE k most (b+60000000) S o r.1 r.2.1:=by
 obtain⟨ord,hn⟩:=h.nav;unfold yy.f;rw[h2];refine Ok.opt ((Xq C U).bind λL hL=>(aih hn ⟨hb.1,by omega⟩ h1 U).bind λr hr=>?_)
 obtain⟨r1,nv,tQ,r2,r3,c',r4⟩:=hr;rw[r1,r2];refine Ok.neg (by simp[Er.isNil]) ?_
 simp only[h2];exact Ok.opt ((aiK C U _).bind λv hv=>(Lj _).bind λe he=>Ok.pure ⟨⟨h.m_,h.mb,⟨tQ,r3.mono U⟩,.inr ⟨c',_,r4,J,by omega⟩⟩,λ_=>⟨c',r4⟩,he⟩)
omit h1 h2 h3
theorem aii:Ok (vn.f S o a0) λr=>WE k most (b+60000000) S o r.1 r.2.1:=by
 obtain⟨ord,hn⟩:=h.nav;have hkr:=ho.k;unfold vn.f
 by_cases NB:o.Kind=0
 ·rw[ah (by simpa using NB)]
  exact Ok.eq J (Ok.pos J (Ok.pure (Dx h (.inr (.inl J)) U)))
 rw[aj (by simpa using NB),Ve ho NB]
 refine Ok.eq J (Ok.neg bd ?_);refine Ok.bind (P:=λx=>(x=true->o.Kind≠1)/\(x=false->S.fB=none->o.Kind=1∨o.Kind=8)) ?_ λx hx=>Ok.ite (λz=>Ok.pure (Dx h (.inr (.inr ⟨4,J⟩)) (hx.1 z))) λz=>Ok.bind (P:=λe=>(e=Er.nil/\(o.Kind=2-> ∃c,S.nav.core=some c/\bP c.aL.m o.A))∨(e=Er.num 148 7/\o.Kind≠1)) ?_ λe he=>?_
 ·cases hc:S.fB with
  |none=>
   by_cases k1:o.Kind=1
   ·exact Ok.Vf (Ok.neg (by simp[k1]) (Ok.pure ⟨by simp,λ_ _=> .inl k1⟩))
   ·exact Ok.Vf (Ok.pos (by simp[k1]) (Ok.pure ⟨λ_=>k1,λy _=> .inr (by simpa using y)⟩))
  |some C=>exact Ok.opt (Ok.pure ⟨by simp,λ_ y=>by simp at y⟩)
 ·have wk:=hx.2 (by simpa using z)
  rcases h.cr with⟨n1,n2⟩ |⟨c,C,h1,h2,h3⟩
  ·have:=wk n2;unfold vm.f;exact Ok.neg bo (Ok.neg bo (Ok.pure (.inl ⟨J,λ_=>by omega⟩)))
  ·have bY: ∀x,iZ c.aL x≠0->bP c.aL.m x:=λx hx=>pg λz=>hx (by unfold iZ;rw[aj z])
   unfold vm.f;refine Ok.ite (λq=>Ok.eq (KA hn h1 _) (Ok.ite (λ_=>Ok.pure (.inr ⟨J,by simp at q;omega⟩)) λ_=>Ok.eq (KA hn h1 _) (Ok.ite (λ_=>Ok.pure (.inr ⟨J,by simp at q;omega⟩)) λ_=>Ok.pure (.inl ⟨J,λ_=>by simp at q;omega⟩)))) λ_=>Ok.ite (λq=>Ok.eq (KA hn h1 _) (Ok.ite (λ_=>Ok.pure (.inr ⟨J,by simp at q;omega⟩)) λy=>Ok.pure (.inl ⟨J,λ_=>⟨c,h1,bY _ (by simpa using y)⟩⟩))) λq=>Ok.pure (.inl ⟨J,λy=>by simp at q;omega⟩)
 rcases he with⟨rfl,bY⟩ |⟨rfl,h8⟩
 rotate_left
 ·exact Ok.pos J (Ok.pure (Dx h (.inr (.inr ⟨7,J⟩)) h8))
 refine Ok.neg (by simp[Er.isNil]) (Ok.bind (P:=λr=>WE k most (b+60000000) S o r.1 r.2.2.2.2.2.2.2.2.2.2.2.2.2) (Ok.ite (λq=>(aiv h hb ho (by simpa using q)).bind λv hv=>Ok.pure hv) λk1=>Ok.ite (λq=>?_) λk8=>?_) λr hr=>Ok.pure hr)
 ·obtain⟨n',e1,e2,_,_,_,e6⟩:=afD hn;have k8:o.Kind=8:=by simpa using q
  refine Ok.eq e1 (Ok.pure ⟨⟨h.m_,h.mb,⟨[],e2.mono U⟩,?_⟩,λy=>?_,.inl J⟩)
  ·rcases h.cr with⟨n1,n2⟩ |⟨c,C,h1,h2,h3⟩
   ·rcases e6 with e6 |⟨c,e6,_⟩
    ·exact .inl ⟨e6.2,n2⟩
    ·rw[n1] at e6;simp at e6
   ·rcases e6 with e6 |⟨c2,_,e6⟩
    ·rw[h1] at e6;simp at e6
    ·exact .inr ⟨_,C,e6,h2,by omega⟩
  ·rcases e6 with e6 |⟨c2,_,e6⟩
   ·rcases y with⟨c,y⟩ |y
    ·rw[e6.1] at y;simp at y
    ·omega
   ·exact⟨_,e6⟩
 have k1:o.Kind≠1:=by simpa using k1
 have k8:o.Kind≠8:=by simpa using k8
 rcases h.cr with⟨n1,n2⟩ |⟨c,C,h1,h2,h3⟩
 ·have:=hx.2 (by simpa using z) n2;omega
 refine Ok.ite (λq=>?_) λk2=>Ok.ite (λq=>?_) λk3=>Ok.ite (λq=>?_) λk4=>Ok.ite (λq=>?_) λk5=>Ok.ite (λq=>?_) λk6=>Ok.ite (λq=>?_) λk7=>Ok.pure (Dx h (.inl J) k1)
 ·obtain⟨c',y1,y2⟩:=bY (by simpa using q)
  exact(aik h hb ho y1 h2 h3 (by simpa using q) y2).bind λv hv=>Ok.pure hv
 ·unfold Aa.f;exact Ok.bind (P:=λr=>WE k most (b+60000000) S o r.2.1 r.2.2) (Ok.eq (KA hn h1 _) (Ok.ite (λ_=>Ok.pure (Dx h (.inr (.inr ⟨9,J⟩)) k1)) λ_=>by
   rw[h2];exact Ok.opt ((aiH C U _ _).bind λv hv=>(Lj _).bind λe he=>Ok.pure (PK h h1 h3 U he)))) λv hv=>Ok.pure hv
 ·rw[h2];exact Ok.opt ((aiF C U _ _).bind λv hv=>(Lj _).bind λe he=>Ok.pure (PK h h1 h3 U he))
 ·rw[h2];exact Ok.opt ((aif C U _).bind λv hv=>(Lj _).bind λe he=>Ok.pure (PK h h1 h3 U he))
 ·exact(aiE h hb h1 h2 h3 (by simpa using q)).bind λv hv=>Ok.pure hv
 ·exact(aiJ h hb h1 h2 h3).bind λv hv=>Ok.pure hv
theorem Xe:Ok (kC.f S o) λr=> ∃e,WE k most (b+60000000) S o e r.2:=by
 unfold kC.f;refine(aii h hb ho).bind λr hr=>?_
 obtain⟨ord,hn⟩:=hr.sv.nav;have mg:z_.f r.2.1=some (jv r.2.1.nav):=by
  unfold z_.f;rw[ahP hn ⟨by omega,by omega⟩];rfl
 have her:=hr.er;rcases her with e |e |⟨c,e⟩
 ·exact Ok.neg (by rw[e];simp[Er.isNil]) (Ok.eq mg (Ok.pure ⟨_,hr⟩))
 ·exact Ok.pos (by rw[e];rfl) (Ok.eq (v:=5) (by rw[e];rfl) (Ok.eq mg (Ok.pure ⟨_,hr⟩)))
 ·exact Ok.pos (by rw[e];rfl) (Ok.eq (v:=c) (by rw[e];rfl) (Ok.eq mg (Ok.pure ⟨_,hr⟩)))
end
def Hk (l:List cN):Prop:= ∀j:Int,1<=j->j<l.length->(rd l ((j-1)/2)).key<=(rd l j).key
def XE (l:List cN) (i:Int):Prop:=(∀j:Int,1<=j->j<l.length->j≠i->(rd l ((j-1)/2)).key<=(rd l j).key)/\ ∀j:Int,1<=j->j<l.length->(j-1)/2=i->1<=i->(rd l ((i-1)/2)).key<=(rd l j).key
def Fh (l:List cN) (i:Int):Prop:=(∀j:Int,1<=j->j<l.length->(j-1)/2≠i->(rd l ((j-1)/2)).key<=(rd l j).key)/\ ∀j:Int,1<=j->j<l.length->(j-1)/2=i->1<=i->(rd l ((i-1)/2)).key<=(rd l j).key
theorem ad0 {l:List cN} (h:Hk l): ∀(n:Nat) (j:Int),j.toNat<=n->0<=j->j<l.length->(rd l 0).key<=(rd l j).key:=by
 intro n
 induction n with
 |zero=>intro j hn h0 h1;rw[show j=0 by omega];exact dP _
 |succ n ih=>
  intro j hn h0 h1
  by_cases z:j=0
  ·rw[z];exact dP _
  ·have a:=h j U h1;have b:=ih ((j-1)/2) U U U;omega
theorem Jc {a b:cN}:(B_ a b=true->a.key<=b.key)/\(B_ a b=false->b.key<=a.key):=by
 unfold B_
 by_cases h:a.key<b.key
 ·simp[h];omega
 ·by_cases g:a.key=b.key
  ·simp[h,g]
  ·simp[h,g];omega
theorem Br {l:List cN} {i j c:Int} (i0:0<=i) (i1:i<l.length) (j0:0<=j) (j1:j<l.length) (c0:0<=c):rd (aD (aD l i.toNat (rd l j)) j.toNat (rd l i)) c=if c=j then rd l i else if c=i then rd l j else rd l c:=by
 rw[A9 j0 (by simpa using j1) c0,A9 i0 i1 c0]
theorem ah7: ∀(n k:Nat) (l:List cN) (i:Int),i.toNat<=n->n<k->0<=i->i<l.length->l.length<=1099511627776->XE l i->Ok (mL.l0 k l i) (λh=>Hk h.l):=by
 intro n
 induction n with
 |zero=>
  intro k l i hn hk h0 hi hb hu;obtain⟨k,rfl⟩:=bz hk;rw[mL.l0,aj U];exact Ok.pure λj j1 j2=>hu.1 j j1 j2 U
 |succ n ih=>
  intro k l i hn hk h0 hi hb hu;obtain⟨k,rfl⟩:=bz hk;rw[mL.l0];refine Ok.ite (λhp=>?_) (λhp=>Ok.pure λj j1 j2=>hu.1 j j1 j2 U);have ew:af (cZ (af (i-1)) 2)=(i-1)/2:=by rw[wi (x:=i-1) U U,pZ U,wi U U]
  simp only[ew];refine Ok.br U (Ok.br U (Ok.eq (Jb _ _) (Ok.ite (λq=>Ok.pure λj j1 j2=>?_) λq=>Ok.br bo ?_)))
  ·have q:B_ (rd l i) (rd l ((i-1)/2))=false:=by simpa using q
   by_cases z:j=i
   ·rw[z];exact Jc.2 q
   ·exact hu.1 j j1 j2 z
  ·have q:B_ (rd l i) (rd l ((i-1)/2))=true:=by simpa using q
   have hq:=Jc.1 q;refine ih k _ ((i-1)/2) U U U bo (by simpa using hb) ⟨λj j1 j2 hj=>?_,λj j1 j2 hj i1=>?_⟩
   ·simp only[nF] at j2;rw[Br h0 hi U U U,Br h0 hi U U U,aj hj]
    by_cases z:j=i
    ·subst z;rw[ah rfl,ah rfl];exact hq
    ·rw[aj z]
     by_cases y:(j-1)/2=(i-1)/2
     ·rw[ah y];have:=hu.1 j j1 j2 z;rw[y] at this;omega
     ·rw[aj y]
      by_cases x:(j-1)/2=i
      ·rw[ah x];exact hu.2 j j1 j2 x U
      ·rw[aj x];exact hu.1 j j1 j2 z
   ·simp only[nF] at j2;have NN:=hu.1 ((i-1)/2) i1 U U;rw[Br h0 hi U U U,Br h0 hi U U U,aj U,aj U,aj U]
    by_cases z:j=i
    ·rw[ah z];exact NN
    ·rw[aj z];have:=hu.1 j j1 j2 z;rw[hj] at this;omega
theorem af6 (h:eJ) (k i:Int) (hb:h.l.length<1099511627776) (ho:Hk h.l):Ok (mJ.f h k i) (λr=>r.l.length=h.l.length+1/\(∀e,e∈r.l↔e∈h.l∨e=⟨k,i⟩)/\Hk r.l):=by
 obtain⟨r,er,r1,r2⟩:=EB h k i hb;refine⟨r,er,r1,r2,?_⟩;unfold mJ.f mL.f at er;rw[ah U] at er;simp only[yS,uA,List.length_nil] at er;rw[wi U U] at er;obtain⟨q,eq,hq⟩:=ah7 h.l.length fuel (h.l++[⟨k,i⟩]) (((h.l.length+(0+1):Nat):Int)-1) U (by rw[cY];omega) U bo bo ⟨λj j1 j2 hj=>by
  simp only[yS,uA,List.length_nil] at j2;rw[Wb U U,Wb U U,aj U,aj U];exact ho j j1 U,λj j1 j2 hj _=>by
  simp only[yS,uA,List.length_nil] at j2;omega⟩
 rw[eq,aM] at er;simp only[Option.some.injEq] at er;rw[<-er];exact hq
theorem aaM: ∀(n k:Nat) (l:List cN) (i m j:Int),(2*i+3-j).toNat<=n->n<k->0<=i->i<l.length->(m=i∨(i<m/\(m-1)/2=i))->m<l.length->i<j->2*i+1<=j->l.length<=1099511627776->Fh l i->(rd l m).key<=(rd l i).key->(∀c:Int,2*i+1<=c->c<j->c<=2*i+2->c<l.length->(rd l m).key<=(rd l c).key)->
 Ok (gf.l1 k l i m j) (λr=>(r=Sum.inl ⟨l⟩/\Hk l)∨ ∃l' m',r=Sum.inr (l',m')/\l'.length=l.length/\i<m'/\m'<l.length/\Fh l' m'):=by
 have fin: ∀(l:List cN) (i m j:Int),0<=i->i<l.length->(m=i∨(i<m/\(m-1)/2=i))->m<l.length->l.length<=1099511627776->Fh l i->(rd l m).key<=(rd l i).key->(∀c:Int,2*i+1<=c->c<=2*i+2->c<l.length->(rd l m).key<=(rd l c).key)->
  Ok (if(m==i)=true then(some (Sum.inl (eJ.mk l))) else(if(0<=m/\m<(aa l:Int)) then(if(0<=i/\i<(aa l:Int)) then(if(0<=m/\m<(aa (aD l (ax i) (rd l m)):Int)) then(some (Sum.inr ((aD (aD l (ax i) (rd l m)) (ax m) (rd l i)),m))) else none) else none) else none)) (λr=>(r=Sum.inl ⟨l⟩/\Hk l)∨ ∃l' m',r=Sum.inr (l',m')/\l'.length=l.length/\i<m'/\m'<l.length/\Fh l' m'):=λl i m j i0 i1 hm m1 hb hd Eg wg=>by
  refine Ok.ite (λq=>Ok.pure (.inl ⟨J,λc c1 c2=>?_⟩)) λq=>?_
  ·have q:m=i:=by simpa using q
   by_cases z:(c-1)/2=i
   ·rw[z,<-q];exact wg c U U c2
   ·exact hd.1 c c1 c2 z
  ·have q:m≠i:=by simpa using q
   obtain⟨m2,m3⟩:=hm.resolve_left q;refine Ok.br U (Ok.br U (Ok.br bo (Ok.pure (.inr ⟨_,_,J,by simp,m2,m1,λc c1 c2 hc=>?_,λc c1 c2 hc _=>?_⟩))))
   ·simp only[nF] at c2;rw[Br i0 i1 U m1 U,Br i0 i1 U m1 U,aj hc]
    by_cases z:(c-1)/2=i
    ·rw[ah z]
     by_cases y:c=m
     ·rw[ah y];exact Eg
     ·rw[aj y,aj U];exact wg c U U c2
    ·rw[aj z]
     by_cases y:c=m
     ·exact absurd (by rw[y];exact m3) z
     ·rw[aj y]
      by_cases x:c=i
      ·rw[ah x];have:=hd.2 m U m1 m3 U;rw[x];exact this
      ·rw[aj x];exact hd.1 c c1 c2 z
   ·simp only[nF] at c2;rw[Br i0 i1 U m1 U,Br i0 i1 U m1 U,m3,aj U,ah J,aj U,aj U];have:=hd.1 c c1 c2 U;rw[hc] at this;exact this
 intro n
 induction n with
 |zero=>
  intro k l i m j hn hk i0 i1 hm m1 hj Gs hb hd Eg wg;obtain⟨k,rfl⟩:=bz hk;rw[gf.l1,wi (x:=2*i) U U,wi (x:=2*i+2) U U,aj U];simp only[aM,ji,if_false];exact fin l i m j i0 i1 hm m1 hb hd Eg λc c1 c2 c3=>wg c c1 U c2 c3
 |succ n ih=>
  intro k l i m j hn hk i0 i1 hm m1 hj Gs hb hd Eg wg;obtain⟨k,rfl⟩:=bz hk;rw[gf.l1,wi (x:=2*i) U U,wi (x:=2*i+2) U U];have hx:(if j<=2*i+2 then some (decide (j<(l.length:Int))) else some false)=some (decide (j<=2*i+2/\j<l.length)):=by
   by_cases a:j<=2*i+2<;>simp[a]
  rw[hx];simp only[aM];refine Ok.ite (λq=>?_) λq=>?_
  ·have q':=of_decide_eq_true q;refine Ok.br U (Ok.br U (Ok.eq (Jb _ _) (Ok.ite (λw=>?_) λw=>?_)))
   ·have hw:=Jc.1 w;rw[wi U U];refine ih k l i j (j+1) U U i0 i1 (.inr ⟨hj,by omega⟩) q'.2 U U hb hd U λc c1 c2 c3 c4=>?_
    by_cases z:c=j
    ·rw[z];exact dP _
    ·have:=wg c c1 U c3 c4;omega
   ·have hw:=Jc.2 (by simpa using w)
    rw[wi U U];refine ih k l i m (j+1) U U i0 i1 hm m1 U U hb hd Eg λc c1 c2 c3 c4=>?_
    by_cases z:c=j
    ·rw[z];exact hw
    ·exact wg c c1 U c3 c4
  ·have q: ¬(j<=2*i+2/\j<l.length):=by simpa using q
   exact fin l i m j i0 i1 hm m1 hb hd Eg λc c1 c2 c3=>wg c c1 U c2 c3
theorem aaL: ∀(n k:Nat) (l:List cN) (i:Int),l.length-i.toNat<=n->n<k->0<=i->i<l.length->l.length<=1099511627776->Fh l i->Ok (gf.l0 k l i) (λh=>Hk h.l):=by
 intro n
 induction n with
 |zero=>intro k l i hn hk i0 i1;omega
 |succ n ih=>
  intro k l i hn hk i0 i1 hb hd;obtain⟨k,rfl⟩:=bz hk;rw[gf.l0,wi (x:=2*i) U U,wi (x:=2*i+1) U U];refine(aaM (i.toNat+3) fuel l i i (2*i+1) U (by rw[cY];omega) i0 i1 (.inl J) i1 U U hb hd (dP _) (λc c1 c2=>by omega)).bind λr hr=>?_
  rcases hr with⟨rfl,z⟩ |⟨l',m',rfl,e1,e2,e3,e4⟩
  ·exact Ok.pure z
  ·exact ih k l' m' U U U U U e4
theorem af4 (h:eJ) (hb:h.l.length<=1099511627776) (ho:Hk h.l):Ok (mH.f h) (λr=>P4 h.l r/\Hk r.2.2.2.l/\(r.2.2.1=true-> ∀e∈h.l,r.1<=e.key)):=by
 obtain⟨r,er,hr⟩:=EA h hb;refine⟨r,er,hr,?_,λhq e he=>?_⟩
 rotate_left
 ·rcases hr with⟨_,rfl⟩ |⟨_,_,h3,_⟩
  ·simp at hq
  ·obtain⟨c,c0,c1,rfl⟩:=G6.1 he;have:=ad0 ho _ c (jM _) c0 c1;rw[<-h3] at this;exact this
 obtain⟨l⟩:=h
 by_cases hl:l=[]
 ·rcases hr with⟨_,rfl⟩ |⟨z,_⟩
  ·intro j j1 j2;simp at j2;omega
  ·exact absurd hl z
 have hp:0<l.length:=List.length_pos_iff.2 hl;simp only at hb ho;unfold mH.f Cm.f Cl.f gf.f at er;simp only[aM] at er;rw[aj (by simpa using hl),ah U,wi (x:=(l.length:Int)-1) U U] at er
 simp only[aM,if_true] at er;rw[ah U,ah U,ah bo] at er;obtain⟨v,ev,er⟩:=Option.bind_eq_some_iff.1 er;simp only[Option.some.injEq] at er;rw[<-er];simp only;have hs:aB (aD l (ax 0) (rd l ((l.length:Int)-1))) 0 ((l.length:Int)-1)=(aD l 0 (rd l ((l.length:Int)-1))).take (l.length-1):=by unfold aB;simp
 rw[hs] at ev;have hlen:((aD l 0 (rd l ((l.length:Int)-1))).take (l.length-1)).length=l.length-1:=by simp
 have ht: ∀d:Int,0<=d->d<(l.length:Int)-1->rd ((aD l 0 (rd l ((l.length:Int)-1))).take (l.length-1)) d=if d=0 then rd l ((l.length:Int)-1) else rd l d:=by
  intro d d0 d1;have:=A9 (L:=l) (i:=0) (c:=d) (v:=rd l ((l.length:Int)-1)) U U d0;rw[<-this];simp only[Int.toNat_zero];rw[iP (xs:=List.take _ _) bo,List.getElem_take,iP (xs:=aD _ _ _) bo]
 by_cases h1:l.length=1
 ·have e0:(aD l 0 (rd l ((l.length:Int)-1))).take (l.length-1)=[]:=by rw[h1];rfl
  rw[e0] at ev;have hd:gf.l0 fuel [] 0=some ⟨[]⟩:=by
   obtain⟨k,hk⟩: ∃q,fuel=q+1+1:=⟨fuel-2,by rw[cY]⟩
   rw[hk,gf.l0,hk,gf.l1];rfl
  rw[hd] at ev;simp only[Option.some.injEq] at ev;rw[<-ev];intro j j1 j2;simp at j2;omega
 ·obtain⟨q,eq,hq⟩:=aaL l.length fuel ((aD l 0 (rd l ((l.length:Int)-1))).take (l.length-1)) 0 bd (by rw[cY];omega) U U U ⟨λj j1 j2 hj=>by
   rw[ht j U U,ht _ U U,aj hj,aj U];exact ho j j1 U,λj j1 j2 hj i1=>by omega⟩
  rw[eq] at ev;simp only[Option.some.injEq] at ev;rw[<-ev];exact hq
def nC (m:aF) (c:Int):Prop:=bP m c/\rd m.C c≠255
def w9 (m:aF):Prop:= ∀c:Int,bP m c->1<=rd m.C c/\rd m.C c<=255
inductive Way (m:aF) (t:Int):Int->Int->Prop
 |here:nC m t->Way m t t 0
 |go {c k n:Int} (side:Int):Way m t c k->0<=side->side<=3->bj m.W m.H n side=c->nC m n->Way m t n (k+rd m.C c)
theorem HY {m:aF} {t c k:Int} (h:Way m t c k):nC m c:=by
 cases h with
 |here h=>exact h
 |go _ _ _ _ _ h=>exact h
theorem Xg {m:aF} {t c k:Int} (h:Way m t c k):nC m t:=by
 induction h with
 |here h=>exact h
 |go _ _ _ _ _ _ ih=>exact ih
theorem Li {m:aF} {t c k:Int} (hc:w9 m) (h:Way m t c k):0<=k:=by
 induction h with
 |here h=>exact dP _
 |go s h1 _ _ _ _ ih=>have:=hc _ (HY h1).1;omega
structure Am (m:aF) (t:Int) (D:List Int):Prop where
 len:D.length=m.C.length
 wV: ∀c:Int,bP m c->rd D c<(1099511627776:Int)->Way m t c (rd D c)
 le: ∀c k:Int,Way m t c k->rd D c<=k
 top: ∀c:Int,bP m c->rd D c<=(1099511627776:Int)
theorem ahT {w h c s t:Int} (hc:cR w h c) (s0:0<=s) (s4:s<=4) (t0:0<=t) (t4:t<=4) (hs:cR w h (bj w h c s)) (hx:dX t= -dX s) (hy:dY t= -dY s):bj w h (bj w h c s) t=c:=by
 rcases EU hc s0 s4 with⟨h1,_⟩ |⟨_,b1,b2,_⟩
 ·rw[h1] at hs;obtain⟨_,h2,_⟩:=hs;omega
 ·have e:bj w h (bj w h c s) t=oe w h (bj w h c s%w+dX t) (bj w h c s/w+dY t):=by unfold bj;rw[ah (c:=cR w h _/\0<=t/\_) ⟨by unfold bj at hs;exact hs,t0,t4⟩]
  rw[e,b1,b2,hx,hy];have e1:c%w+dX s+ -dX s=c%w:=U;have e2:c/w+dY s+ -dY s=c/w:=U;rw[e1,e2,L7 hc]
theorem DQ {m:aF} (hm:nz m) {n c s:Int} (hn:bP m n) (hc:bP m c) (s0:0<=s) (s3:s<=3) (h:bj m.W m.H n s=c): ∃t,0<=t/\t<=3/\bj m.W m.H c t=n:=by
 have hbk: ∃t,0<=t/\t<=3/\dX t= -dX s/\dY t= -dY s:=by
  have hs:s=0∨s=1∨s=2∨s=3:=U;rcases hs with rfl |rfl |rfl |rfl
  ·exact⟨2,by omega,by omega,J,J⟩
  ·exact⟨3,by omega,by omega,J,J⟩
  ·exact⟨0,by omega,by omega,J,J⟩
  ·exact⟨1,by omega,by omega,J,J⟩
 obtain⟨t,t0,t3,tx,ty⟩:=hbk;refine⟨t,t0,t3,?_⟩;have:=ahT (fM hm hn) s0 (by omega:s<=4) t0 (by omega:t<=4) (by rw[h];exact fM hm hc) tx ty
 rw[h] at this;exact this
theorem aaW {m:aF} {t:Int} {D:List Int} (hc:w9 m) (h:Am m t D) (ho:nC m t):rd D t=0:=by
 have h1:=h.le t 0 (Way.here ho);have h2:=Li hc (h.wV t ho.1 U);omega
theorem aaX {m:aF} {t:Int} {D:List Int} (hc:w9 m) (h:Am m t D) {c:Int} (hi:bP m c):0<=rd D c:=by
 by_cases hd:rd D c<(1099511627776:Int)
 ·exact Li hc (h.wV c hi hd)
 ·have:(1099511627776:Int)=1099511627776:=rfl;omega
section
variable {g : bw} {more : Int}
theorem CW {c:Int}:sD g c↔nC g.m c:=by
 unfold sD nC iZ;constructor
 ·rintro⟨a,b⟩;rw[ah a] at b;exact⟨a,b⟩
 ·rintro⟨a,b⟩;exact⟨a,by rw[ah a];exact b⟩
theorem Rc (h:cL g more):w9 g.m:=λc hc=>h.rU c hc.1 hc.2
theorem DZ {c:Int} (hc:bP g.m c):iZ g c=rd g.m.C c:=by unfold iZ;rw[ah hc]
def Nb (g:bw) (goal c d n:Int):Prop:=0<=d/\d<=3/\n=bj g.m.W g.m.H c d/\nC g.m n/\aQ g.m.W g.m.H n=aQ g.m.W g.m.H goal
theorem ais (h:cL g more) (goal cell key:Int) (m:List (Int×Int)) (hc:sD g cell) (k0:0<=key) (k1:key<=1000000000): ∀(n k:Nat) (l:List cN) (s:Int),(4-s).toNat<=n->n<k->0<=s->l.length<=10000000-4+s->Hk l->
 Ok (fW.l1 k goal g (g.m.W,g.m.H) m cell key l s) (λr=>r.1=cO m cell key/\r.2.length<=l.length+(4-s).toNat/\Hk r.2/\(∀e∈l,e∈r.2)/\(∀e∈r.2,e∈l∨ ∃d,Nb g goal cell d e.item/\e.key=key+rd g.m.C cell)/\ ∀d n,s<=d->Nb g goal cell d n->⟨key+rd g.m.C cell,n⟩∈r.2):=by
 have eI:=F5 h hc.1;have xE:=DZ hc.1;intro n
 induction n with
 |zero=>
  intro k l s hn hk s0 hl ho;obtain⟨k,rfl⟩:=bz hk;rw[fW.l1,aj U];exact Ok.pure ⟨J,by simp,ho,λe he=>he,λe he=> .inl he,λd n hd hn=>by have:=hn.2.1;omega⟩
 |succ n ih=>
  intro k l s hn hk s0 hl ho;obtain⟨k,rfl⟩:=bz hk;rw[fW.l1];refine Ok.ite (λhs=>?_) λhs=>Ok.pure ⟨J,by simp only;omega,ho,λe he=>he,λe he=> .inl he,λd n hd hn=>by have:=hn.2.1;omega⟩
  refine Ok.eq (EW ..) ?_;have NU:Ok (if bj g.m.W g.m.H cell s<0 then some true else(gy.f g.m.W g.m.H (bj g.m.W g.m.H cell s)).bind λv28=>(gy.f g.m.W g.m.H goal).bind λqG=>if(v28 !=qG)=true then some true else(i_.f g (bj g.m.W g.m.H cell s)).bind λv30=>some (v30==255)) (λb=>b=false↔Nb g goal cell s (bj g.m.W g.m.H cell s)):=by
   refine Ok.ite (λq=>Ok.pure ⟨by simp,λz=>?_⟩) λq=>Ok.eq (ru ..) (Ok.eq (ru ..) (Ok.ite (λw=>Ok.pure ⟨by simp,λz=>?_⟩) λw=>Ok.eq (rX h _) (Ok.pure ?_)))
   ·have:=z.2.2.2.1.1.1;omega
   ·have w:aQ g.m.W g.m.H (bj g.m.W g.m.H cell s)≠aQ g.m.W g.m.H goal:=by simpa using w
    exact absurd z.2.2.2.2 w
   ·have w:aQ g.m.W g.m.H (bj g.m.W g.m.H cell s)=aQ g.m.W g.m.H goal:=by simpa using w
    have bY:=K4 q;rw[DZ bY];constructor
    ·intro z;exact⟨s0,by omega,J,⟨bY,by simpa using z⟩,w⟩
    ·intro z;simpa using z.2.2.2.1.2
  refine NU.bind λb hb=>Ok.ite (λq=>?_) λq=>?_
  ·rw[wi U U];refine(ih k l (s+1) U U U U ho).mono λr hr=>⟨hr.1,by have:=hr.2.1;omega,hr.2.2.1,hr.2.2.2.1,hr.2.2.2.2.1,λd x hd hx=>?_⟩
   by_cases z:d=s
   ·subst z;have:=hx.2.2.1;subst this;have:=hb.2 hx;rw[this] at q;simp at q
   ·exact hr.2.2.2.2.2 d x U hx
  ·have hnb:=hb.1 (by simpa using q)
   refine Ok.eq (rX h _) ((af6 ⟨l⟩ _ _ (by simp only;omega) ho).bind λr hr=>?_)
   simp only at hr;rw[wi (x:=s+1) U U];have ek:af (key+iZ g cell)=key+rd g.m.C cell:=by rw[wi U U,xE]
   rw[ek] at hr;refine(ih k r.l (s+1) U U U U hr.2.2).mono λr' mf=>⟨mf.1,by have:=mf.2.1;omega,mf.2.2.1,λe he=>mf.2.2.2.1 e ((hr.2.1 e).2 (.inl he)),λe he=>?_,λd x hd hx=>?_⟩
   ·rcases mf.2.2.2.2.1 e he with z |z
    ·rcases(hr.2.1 e).1 z with y |rfl
     ·exact .inl y
     ·exact .inr ⟨s,hnb,J⟩
    ·exact .inr z
   ·by_cases z:d=s
    ·subst z;have:=hx.2.2.1;subst this;exact mf.2.2.2.1 _ ((hr.2.1 _).2 (.inr J))
    ·exact mf.2.2.2.2.2 d x U hx
structure WI (g:bw) (goal:Int) (m:List (Int×Int)) (l:List cN) (key cell:Int) (ok:Bool):Prop where
 w: ∀c,cj m c=true->Way g.m goal c (aT m c)/\aQ g.m.W g.m.H c=aQ g.m.W g.m.H goal
 hl: ∀e∈l,Way g.m goal e.item e.key/\aQ g.m.W g.m.H e.item=aQ g.m.W g.m.H goal/\ ∀c,cj m c=true->aT m c<=e.key
 cur:ok=true->Way g.m goal cell key/\aQ g.m.W g.m.H cell=aQ g.m.W g.m.H goal/\(∀e∈l,key<=e.key)/\ ∀c,cj m c=true->aT m c<=key
 no:ok=false->l=[]
 o:Hk l
 st:(cj m goal=true/\aT m goal<=0)∨(ok=true/\cell=goal/\key<=0)
 cl: ∀c,cj m c=true-> ∀d n,Nb g goal c d n->(cj m n=true/\aT m n<=aT m c+rd g.m.C c)∨(ok=true/\cell=n/\key<=aT m c+rd g.m.C c)∨ ∃e∈l,e.item=n/\e.key<=aT m c+rd g.m.C c
structure Fo (g:bw) (goal:Int) (m:List (Int×Int)):Prop where
 w: ∀c,cj m c=true->Way g.m goal c (aT m c)
 st:nC g.m goal->cj m goal=true/\aT m goal<=0
 cl: ∀c,cj m c=true-> ∀d n,Nb g goal c d n->cj m n=true/\aT m n<=aT m c+rd g.m.C c
theorem air (h:cL g more) (hN:g.m.W*g.m.H<=1600) (goal:Int): ∀(n k:Nat) (m:List (Int×Int)) (l:List cN) (key cell:Int) (ok:Bool),
 5*mX g m+l.length+(if ok then 1 else 0)<=n->n<k->l.length+5*mX g m<=9000->
 (∀e∈l,sD g e.item/\0<=e.key/\e.key+254*(mX g m:Int)<=254*1600)->(ok=true->sD g cell/\0<=key/\key+254*(mX g m:Int)<=254*1600)->WI g goal m l key cell ok->
 Ok (fW.l0 k goal g (g.m.W,g.m.H) m l key cell ok) (Fo g goal):=by
 have fin: ∀(m:List (Int×Int)) (l:List cN) (key cell:Int),WI g goal m l key cell false->Fo g goal m:=λm l key cell hi=>by
  have e:=hi.no J;subst e;refine⟨λc hc=>(hi.w c hc).1,λ_=>?_,λc hc d n hn=>?_⟩
  ·rcases hi.st with z |⟨z,_⟩
   ·exact z
   ·simp at z
  ·rcases hi.cl c hc d n hn with z |⟨z,_⟩ |⟨e,z,_⟩
   ·exact z
   ·simp at z
   ·simp at z
 intro n
 induction n with
 |zero=>
  intro k m l key cell ok hn hk hb hl hp hi;obtain⟨k,rfl⟩:=bz hk;have:ok=false:=by cases ok<;>simp_all
  subst this;rw[fW.l0];exact Ok.pure (fin _ _ _ _ hi)
 |succ n ih=>
  intro k m l key cell ok hn hk hb hl hp hi;obtain⟨k,rfl⟩:=bz hk;rw[fW.l0];refine Ok.ite (λq=>?_) λq=>Ok.pure (by
   have:ok=false:=by simpa using q
   subst this;exact fin _ _ _ _ hi)
  obtain⟨p1,p2,p3⟩:=hp q;subst q;simp only[if_true] at hn;obtain⟨u1,u2,u3,u4⟩:=hi.cur J;have NI:Ok (if cj m cell=true then some (m,l) else fW.l1 fuel goal g (g.m.W,g.m.H) m cell key l 0) (λr=>5*mX g r.1+r.2.length<=n/\r.2.length+5*mX g r.1<=9000/\(∀e∈r.2,sD g e.item/\0<=e.key/\e.key+254*(mX g r.1:Int)<=254*1600)/\
   Hk r.2/\(∀c,cj r.1 c=true->Way g.m goal c (aT r.1 c)/\aQ g.m.W g.m.H c=aQ g.m.W g.m.H goal)/\(∀e∈r.2,Way g.m goal e.item e.key/\aQ g.m.W g.m.H e.item=aQ g.m.W g.m.H goal/\ ∀c,cj r.1 c=true->aT r.1 c<=e.key)/\(cj r.1 goal=true/\aT r.1 goal<=0)/\
   ∀c,cj r.1 c=true-> ∀d n,Nb g goal c d n->(cj r.1 n=true/\aT r.1 n<=aT r.1 c+rd g.m.C c)∨ ∃e∈r.2,e.item=n/\e.key<=aT r.1 c+rd g.m.C c):=by
   refine Ok.ite (λz=>Ok.pure ⟨by simp only;omega,hb,hl,hi.o,hi.w,hi.hl,?_,λc hc d n hn=>?_⟩) λz=>?_
   ·rcases hi.st with y |⟨_,y1,y2⟩
    ·exact y
    ·simp only;rw[y1] at z;have:=u4 goal z;exact⟨z,by omega⟩
   ·rcases hi.cl c hc d n hn with y |⟨_,y1,y2⟩ |y
    ·exact .inl y
    ·rw[y1] at z;have:=u4 n z;exact .inl ⟨z,by simp only;omega⟩
    ·exact .inr y
   have z:cj m cell=false:=by simpa using z
   have hu:=W7 (v:=key) p1.1 z;refine(ais h goal cell key m p1 p2 U 4 fuel l 0 bd (by rw[cY];omega) U U hi.o).mono λr hr=>?_
   obtain⟨e1,e2,e3,e4,e5,e6⟩:=hr;have eI:=F5 h p1.1;have xE:=DZ p1.1;have bI:iZ g cell≠255:=p1.2;rw[e1];have:(4-(0:Int)).toNat=4:=rfl;have ba: ∀c,cj (cO m cell key) c=true->c≠cell->cj m c=true/\aT (cO m cell key) c=aT m c:=λc hc tA=>by
    rw[Eu,aj (λy=>tA y.symm)] at hc;rw[sB,aj (λy=>tA y.symm)];exact⟨hc,J⟩
   have now:aT (cO m cell key) cell=key:=by rw[sB,ah J]
   have U7:cj (cO m cell key) cell=true:=by rw[Eu,ah J]
   have rh: ∀c,cj m c=true->cj (cO m cell key) c=true/\aT (cO m cell key) c=aT m c:=λc hc=>by
    have tA:cell≠c:=λy=>by rw[<-y,z] at hc;simp at hc
    rw[Eu,aj tA,sB,aj tA];exact⟨hc,J⟩
   have low: ∀c,cj (cO m cell key) c=true->aT (cO m cell key) c<=key:=λc hc=>by
    by_cases y:c=cell
    ·rw[y,now];exact dP _
    ·obtain⟨a,b⟩:=ba c hc y;rw[b];exact u4 c a
   refine⟨by omega,by omega,λe he=>?_,e3,λc hc=>?_,λe he=>?_,?_,λc hc d n hn=>?_⟩
   ·rcases e5 e he with y |⟨d,y1,y2⟩
    ·have:=hl e y;exact⟨this.1,this.2.1,by omega⟩
    ·rw[y2];exact⟨CW.2 y1.2.2.2.1,by omega,by omega⟩
   ·by_cases y:c=cell
    ·rw[y,now];exact⟨u1,u2⟩
    ·obtain⟨a,b⟩:=ba c hc y;rw[b];exact hi.w c a
   ·rcases e5 e he with y |⟨d,y1,y2⟩
    ·have:=hi.hl e y;exact⟨this.1,this.2.1,λc hc=>Int.le_trans (low c hc) (u3 e y)⟩
    ·obtain⟨d0,d3,dn,Rj,ds⟩:=y1;obtain⟨t,t0,t3,tb⟩:=DQ h.ok p1.1 Rj.1 d0 d3 dn.symm;refine⟨by rw[y2];exact Way.go t u1 t0 t3 tb Rj,ds,λc hc=>?_⟩
     have:=low c hc;rw[y2];omega
   ·rcases hi.st with⟨y1,y2⟩ |⟨_,y1,y2⟩
    ·obtain⟨a,b⟩:=rh goal y1;exact⟨a,by rw[b];exact y2⟩
    ·rw[<-y1];exact⟨U7,by rw[now];exact y2⟩
   ·by_cases y:c=cell
    ·subst y;exact .inr ⟨_,e6 d n (hn.1) hn,J,by rw[now];exact dP _⟩
    ·obtain⟨a,b⟩:=ba c hc y;rw[b];rcases hi.cl c a d n hn with⟨x1,x2⟩ |⟨_,x1,x2⟩ |⟨e,x1,x2,x3⟩
     ·obtain⟨a',b'⟩:=rh n x1;exact .inl ⟨a',by rw[b'];exact x2⟩
     ·rw[<-x1];exact .inl ⟨U7,by rw[now];exact x2⟩
     ·exact .inr ⟨e,e4 e x1,x2,x3⟩
  refine NI.bind λr hr=>?_
  obtain⟨h1,h2,h4,h5,h6,h7,h8,h9⟩:=hr;refine(af4 ⟨r.2⟩ (by simp only;omega) h5).bind λv hv=>?_
  obtain⟨hv,ho,Eh⟩:=hv;rcases hv with⟨e1,e2⟩ |⟨e1,e2,e3,e4,e5,e6⟩
  ·subst e2;simp only at e1;refine ih k r.1 [] 0 0 false bo U bo bd bd ⟨h6,by simp,by simp,λ_=>rfl,λj j1 j2=>by simp at j2;omega,.inl h8,λc hc d n hn=>?_⟩
   rcases h9 c hc d n hn with y |⟨e,y,_⟩
   ·exact .inl y
   ·rw[e1] at y;simp at y
  ·simp only at e1 e3 e4 e5 e6 Eh ho;have AW:=fV (a:=r.2) (i:=0) U (by have:=List.length_pos_iff.2 e1;omega)
   have Nq:=h4 _ AW;have J_:=h7 _ AW;rw[<-e3] at Nq J_;refine ih k r.1 v.2.2.2.l v.1 v.2.1 v.2.2.1 (by rw[e2];simp;omega) U U (λe he=>h4 e (e5 e he)) (λ_=>Nq) ⟨h6,λe he=>h7 e (e5 e he),λ_=>⟨J_.1,J_.2.1,λe he=>Eh e2 e (e5 e he),J_.2.2⟩,by rw[e2];simp,ho,.inl h8,λc hc d n hn=>?_⟩
   rcases h9 c hc d n hn with y |⟨e,y1,y2,y3⟩
   ·exact .inl y
   ·rcases e6 e y1 with x |x
    ·rw[x,<-e3] at y2 y3;exact .inr (.inl ⟨e2,y2,y3⟩)
    ·exact .inr (.inr ⟨e,x,y2,y3⟩)
theorem aiq (h:cL g more) (hN:g.m.W*g.m.H<=1600) (f:jY) (M:dK) {goal:Int} (hg:bP g.m goal):Ok (fW.f f goal M g) (Fo g goal):=by
 unfold fW.f;refine Ok.eq (Bk g) (Ok.eq (rX h _) (Ok.ite (λq=>Ok.pure ⟨by simp[cj,dR],λz=>?_,by simp[cj,dR]⟩) λq=>?_))
 ·have q:iZ g goal=255:=by simpa using q
  exact absurd q (CW.2 z).2
 have hu:mX g []<=1600:=by unfold mX;have:=DU (λc=>!cj ([]:List (Int×Int)) c) (g.m.W*g.m.H).toNat;omega
 refine(EB ⟨[]⟩ 0 goal bd).bind λr hr=>(EA r (by simp at hr;omega)).bind λv hv=>?_
 have ho:sD g goal:=⟨hg,by simpa using q⟩
 have sa: ∀e∈r.l,e=⟨0,goal⟩:=λe he=>by simpa using(hr.2 e).1 he
 have hlen:r.l.length=1:=by simpa using hr.1
 rcases hv with⟨e1,e2⟩ |⟨e1,e2,e3,e4,e5,e6⟩
 ·rw[e1] at hlen;simp at hlen
 ·have h0:=sa _ (fV (a:=r.l) (i:=0) U U);rw[h0] at e3;simp only[cN.mk.injEq] at e3;have xI:v.2.2.2.l=[]:=List.length_eq_zero_iff.1 U;rw[xI,e3.1,e3.2,e2];exact air h hN goal 9000 fuel [] [] 0 goal true bo (by rw[cY];omega) bo bd (λ_=>⟨ho,by omega,by omega⟩)
   ⟨by simp[cj,dR],by simp,λ_=>⟨Way.here (CW.1 ho),J,by simp,by simp[cj,dR]⟩,by simp,λj j1 j2=>by simp at j2;omega,.inr ⟨J,J,dP _⟩,by simp[cj,dR]⟩
theorem Xj (h:cL g more) (hN:g.m.W*g.m.H<=1600) {goal:Int} (hg:bP g.m goal) {im:List (Int×Int)} (hw: ∀f M,fW.f f goal M g=some im):Fo g goal im:=by
 obtain⟨r,e,hr⟩:=aiq h hN default default hg;rw[hw] at e;rw[Option.some.inj e];exact hr
end
section
theorem ZH (l:List aX) (c side:Int) (hb:l.length<=1000000): ∀(n k:Nat) (x:Int) (b:Bool) (i:Int),(l.length-i).toNat<=n->n<k->0<=i->
 Ok (kY.l0 k l c side x b i) (λr=>((r=x/\(b=true∨ ∀j:Int,i<=j->j<l.length-> ¬((rd l j).Cell=c/\(rd l j).cH=side)))∨ ∃y∈l,y.Cell=c/\y.cH=side/\y.Key=r)/\(∀j:Int,i<=j->j<l.length->(rd l j).Cell=c->(rd l j).cH=side->r<=(rd l j).Key)/\(b=true->r<=x)):=by
 have fin: ∀(k:Nat) (x:Int) (b:Bool) (i:Int),¬i<l.length->Ok (kY.l0 (k+1) l c side x b i) (λr=>((r=x/\(b=true∨ ∀j:Int,i<=j->j<l.length-> ¬((rd l j).Cell=c/\(rd l j).cH=side)))∨ ∃y∈l,y.Cell=c/\y.cH=side/\y.Key=r)/\(∀j:Int,i<=j->j<l.length->(rd l j).Cell=c->(rd l j).cH=side->r<=(rd l j).Key)/\(b=true->r<=x)):=λk x b i hi=>by
  rw[kY.l0,aj hi];exact Ok.pure ⟨.inl ⟨J,.inr λj j0 j1=>by omega⟩,λj j0 j1=>by omega,λ_=>dP _⟩
 intro n
 induction n with
 |zero=>
  intro k x b i hn hk hi;obtain⟨k,rfl⟩:=bz hk;exact fin k x b i U
 |succ n ih=>
  intro k x b i hn hk hi;obtain⟨k,rfl⟩:=bz hk
  by_cases aS:i<l.length
  ·rw[kY.l0,wi U U];have hq:(if((rd l i).Cell==c)=true then(if((rd l i).cH==side)=true then(if(!b)=true then(some true) else(some (decide ((rd l i).Key<x)))) else(some false)) else(some false))=some (decide (((rd l i).Cell=c/\(rd l i).cH=side)/\(b=false∨(rd l i).Key<x))):=by
    by_cases a1:(rd l i).Cell=c
    ·by_cases a2:(rd l i).cH=side
     ·cases b<;>simp[a1,a2]
     ·simp[a1,a2]
    ·simp[a1]
   refine Ok.pos aS (Ok.br ⟨hi,aS⟩ (Ok.eq hq (Ok.ite (λq=>?_) λq=>?_)))
   ·obtain⟨⟨q1,q2⟩,q3⟩:=of_decide_eq_true q;refine(ih k (rd l i).Key true (i+1) U U U).mono λr hr=>⟨?_,λj j0 j1 e1 e2=>?_,λkn=>?_⟩
    ·rcases hr.1 with⟨z,_⟩ |z
     ·exact .inr ⟨_,fV hi aS,q1,q2,z.symm⟩
     ·exact .inr z
    ·by_cases z:j=i
     ·rw[z];exact hr.2.2 J
     ·exact hr.2.1 j U j1 e1 e2
    ·have:=hr.2.2 J;rcases q3 with q3 |q3
     ·rw[q3] at kn;simp at kn
     ·omega
   ·have q: ¬(((rd l i).Cell=c/\(rd l i).cH=side)/\(b=false∨(rd l i).Key<x)):=by simpa using q
    refine(ih k x b (i+1) U U U).mono λr hr=>⟨?_,λj j0 j1 e1 e2=>?_,hr.2.2⟩
    ·rcases hr.1 with⟨z,w⟩ |z
     ·refine .inl ⟨z,?_⟩
      by_cases kn:b=true
      ·exact .inl kn
      ·refine .inr λj j0 j1 e=>?_
       by_cases y:j=i
       ·subst y;exact q ⟨e,.inl (by simpa using kn)⟩
       ·exact(w.resolve_left kn) j U j1 e
     ·exact .inr z
    ·by_cases z:j=i
     ·subst z
      by_cases kn:b=true
      ·have:=hr.2.2 kn;have: ¬(rd l j).Key<x:=λy=>q ⟨⟨e1,e2⟩,.inr y⟩
       omega
      ·exact absurd ⟨⟨e1,e2⟩,.inl (by simpa using kn)⟩ q
     ·exact hr.2.1 j U j1 e1 e2
  ·exact fin k x b i aS
theorem ZI {l:List aX} (hb:l.length<=1000000) (c side:Int):((uG l c side=cn/\ ∀y∈l,¬(y.Cell=c/\y.cH=side))∨ ∃y∈l,y.Cell=c/\y.cH=side/\y.Key=uG l c side)/\ ∀y∈l,y.Cell=c->y.cH=side->uG l c side<=y.Key:=by
 obtain⟨r,e,h1,h2,_⟩:=ZH l c side hb l.length fuel 1099511627776 false 0 U (by rw[cY];omega) U
 have hv:uG l c side=r:=by unfold uG kY.f;rw[e];rfl
 rw[hv];refine⟨?_,λy hy e1 e2=>?_⟩
 ·rcases h1 with⟨a,b⟩ |a
  ·refine .inl ⟨a,λy hy z=>?_⟩
   obtain⟨j,j0,j1,rfl⟩:=qq hy;exact(b.resolve_left bd) j j0 j1 z
  ·exact .inr a
 ·obtain⟨j,j0,j1,rfl⟩:=qq hy;exact h2 j j0 j1 e1 e2
theorem U1 {w h s l d:Int} (hs:bC w h s) (l0:0<=l) (l1:l<(ay w h s).1*(ay w h s).2) (d0:0<=d) (d3:d<=3) {t:aF} (hW:t.W=(ay w h s).1) (hH:t.H=(ay w h s).2) (hn:0<=eG t l d):
 eG t l d<(ay w h s).1*(ay w h s).2/\bj w h (cu w h s l) d=cu w h s (eG t l d):=by
 obtain⟨z1,z2,z3,z4⟩:=pV hs;obtain⟨hc,e1,e2⟩:=F6 hs l0 l1;obtain⟨p1,p2,p3,p4,p5,p6⟩:=vT hs l0 l1;have Gp:=uy l (ay w h s).1;have hm:=hc.1;have key: ∀x y:Int,0<=x->x<(ay w h s).1->0<=y->y<(ay w h s).2->x=l%(ay w h s).1+dX d->y=l/(ay w h s).1+dY d->y*(ay w h s).1+x<(ay w h s).1*(ay w h s).2/\bj w h (cu w h s l) d=cu w h s (y*(ay w h s).1+x):=by
  intro x y x0 x1 y0 y1 ex ey;have bY:=tm (w:=(ay w h s).1) (h:=(ay w h s).2) x0 x1 y0 y1;have u6:=pL (a:=(ay w h s).1) (x:=x) (y:=y) x0 x1;refine⟨bY.2,?_⟩;obtain⟨q1,q2,q3,q4,q5,q6⟩:=vT hs bY.1 bY.2;rw[u6.1] at q5;rw[u6.2] at q6;have mg:bj w h (cu w h s l) d=oe w h (cu w h s l%w+dX d) (cu w h s l/w+dY d):=by unfold bj;rw[ah ⟨hc,d0,by omega⟩]
  rw[mg,e1,e2];have hsp:=uf hs;unfold oe cu;rw[ah (c:=bC w h s/\_) ⟨hs,bY⟩,u6.1,u6.2,ah ⟨hm,by omega,by omega,by omega,by omega⟩,ex,ey,Int.add_assoc,Int.add_assoc]
 have hd:d=0∨d=1∨d=2∨d=3:=U;rw[mv] at Gp;unfold eG at hn⊢;simp only[hW,hH] at hn⊢;rcases hd with rfl |rfl |rfl |rfl
 ·simp only[if_true] at hn⊢;split at hn
  ·rename_i z;rw[ah z];have:=key (l%(ay w h s).1) (l/(ay w h s).1-1) p1 p2 U U (by simp[dX]) (by simp[dY];omega)
   rw[Int.sub_mul,Int.one_mul] at this;rw[show l-(ay w h s).1=l/(ay w h s).1*(ay w h s).1-(ay w h s).1+l%(ay w h s).1 by omega]
   exact this
  ·omega
 ·simp only[show ¬(1:Int)=0 by omega,if_true,if_false] at hn⊢
  split at hn
  ·rename_i z;rw[ah z];have:=key (l%(ay w h s).1+1) (l/(ay w h s).1) U U p3 p4 (by simp[dX]) (by simp[dY])
   rw[show l+1=l/(ay w h s).1*(ay w h s).1+(l%(ay w h s).1+1) by omega]
   exact this
  ·omega
 ·simp only[show ¬(2:Int)=0 by omega,show ¬(2:Int)=1 by omega,if_true,if_false] at hn⊢
  split at hn
  ·rename_i z;rw[ah z];have:=key (l%(ay w h s).1) (l/(ay w h s).1+1) p1 p2 U U (by simp[dX]) (by simp[dY])
   rw[Int.add_mul,Int.one_mul] at this;rw[show l+(ay w h s).1=l/(ay w h s).1*(ay w h s).1+(ay w h s).1+l%(ay w h s).1 by omega]
   exact this
  ·omega
 ·simp only[show ¬(3:Int)=0 by omega,show ¬(3:Int)=1 by omega,show ¬(3:Int)=2 by omega,if_false] at hn⊢
  split at hn
  ·rename_i z;rw[ah z];have:=key (l%(ay w h s).1-1) (l/(ay w h s).1) U U p3 p4 (by simp[dX];omega) (by simp[dY])
   rw[show l-1=l/(ay w h s).1*(ay w h s).1+(l%(ay w h s).1-1) by omega]
   exact this
  ·omega
variable {g : bw} {more : Int} {R : gI}
end
theorem U0 {w h s l d:Int} (hs:bC w h s) (l0:0<=l) (l1:l<(ay w h s).1*(ay w h s).2) (d0:0<=d) (d3:d<=3) {t:aF} (hW:t.W=(ay w h s).1) (hH:t.H=(ay w h s).2)
 (hn:cR w h (bj w h (cu w h s l) d)) (he:aQ w h (bj w h (cu w h s l) d)=s):0<=eG t l d:=by
 obtain⟨hc,e1,e2⟩:=F6 hs l0 l1;obtain⟨a1,a2,a3,a4,a5,a6⟩:=vT hs l0 l1;obtain⟨z1,z2,z3,z4⟩:=pV hs;obtain⟨y1,y2⟩:=WG hs;obtain⟨p1,p2,p3,p4⟩:=uf hs;have zt:d=0∨d=1∨d=2∨d=3:=U;rcases EU hc d0 (by omega:d<=4) with⟨b1,_⟩ |⟨b1,b2,b3,b4,b5,b6,b7⟩
 ·rw[b1] at hn;have:=hn.2.1;omega
 have rf:=Dg b1;have u6:=pL (a:=(bn w h).1) (y:=bj w h (cu w h s l) d/w/16) rf.1 rf.2.1;have e:aQ w h (bj w h (cu w h s l) d)=bj w h (cu w h s l) d/w/16*(bn w h).1+bj w h (cu w h s l) d%w/16:=by unfold aQ;rw[ah b1]
 rw[<-e,b2,b3,e1,e2,he] at u6;rw[e1] at b4 b5;rw[e2] at b6 b7;obtain⟨k2,k1⟩:=u6;unfold eG;simp only[hW,hH];have hle:1<=l/(ay w h s).1->(ay w h s).1<=l:=λz=>by
  apply pg;intro y;have:=Int.ediv_eq_zero_of_lt l0 (b:=(ay w h s).1) U;omega
 have ad1:1<=l%(ay w h s).1->1<=l:=λz=>by
  apply pg;intro y;have:l=0:=U;rw[this] at z;simp at z
 unfold dX at k2 b4 b5;unfold dY at k1 b6 b7;rcases zt with rfl |rfl |rfl |rfl<;>simp at k1 k2 b4 b5 b6 b7⊢
 ·rw[ah U];have:=hle U;omega
 ·rw[ah U];omega
 ·rw[ah U];omega
 ·rw[ah U];have:=ad1 U;omega
section
variable {g : bw} {more : Int} {goal : Int} {R : gI} {s : Int}
theorem KW (s:Int):((dC g.m s).C.length:Int)=(ay g.m.W g.m.H s).1*(ay g.m.W g.m.H s).2:=by
 have hz:=wO g.m.W g.m.H s
 show((jK g.m s ((ay g.m.W g.m.H s).1*(ay g.m.W g.m.H s).2).toNat).length:Int)=_
 rw[Bt];omega
theorem D0 (h:cL g more) (hs:bC g.m.W g.m.H s) {c:Int} (c0:0<=c) (c1:c<(dC g.m s).C.length):bP g.m (cu g.m.W g.m.H s c)/\rd (dC g.m s).C c=rd g.m.C (cu g.m.W g.m.H s c)/\aQ g.m.W g.m.H (cu g.m.W g.m.H s c)=s/\cy g.m.W g.m.H (cu g.m.W g.m.H s c)=c:=by
 rw[KW] at c1;have hg:=AO hs c0 c1;refine⟨⟨hg.1,hg.2⟩,?_,EL hs c0 c1,ae2 hs c0 c1⟩
 show rd (jK g.m s _) c=_
 rw[K7 c0 (by have:=wO g.m.W g.m.H s;omega)]
theorem MD (h:cL g more) (hs:bC g.m.W g.m.H s) {c d:Int} (c0:0<=c) (c1:c<(dC g.m s).C.length) (d0:0<=d) (d3:d<=3) (hn:0<=eG (dC g.m s) c d):eG (dC g.m s) c d<(dC g.m s).C.length/\bj g.m.W g.m.H (cu g.m.W g.m.H s c) d=cu g.m.W g.m.H s (eG (dC g.m s) c d):=by
 rw[KW] at c1⊢;exact U1 hs c0 c1 d0 d3 J J hn
theorem WO (h:cL g more) (hs:bC g.m.W g.m.H s) {l:List aX} {K k:Int} {D:List Int} (hD:oB (dC g.m s) l K D) (hl: ∀x∈l,Way g.m goal (cu g.m.W g.m.H s x.Cell) (x.Key+k)): ∀(n:Nat) (c:Int),0<=c->c<(dC g.m s).C.length->rd D c≠cn->(rd D c).toNat<=n->Way g.m goal (cu g.m.W g.m.H s c) (rd D c+k):=by
 have ht:=Bh h hs;intro n
 induction n with
 |zero=>
  intro c c0 c1 hc hn;obtain⟨a1,a2,a3,a4⟩:=hD.dv c c0 c1 hc;rcases a4 with⟨x,x1,x2,x3⟩ |⟨c',d,b0,b1,d0,d3,b2,b3,b4⟩
  ·rw[<-x3,<-x2];exact hl x x1
  ·have:=(ht.2 c' b0 b1).1;have:=(hD.dv c' b0 b1 b2).1;omega
 |succ n ih=>
  intro c c0 c1 hc hn;obtain⟨a1,a2,a3,a4⟩:=hD.dv c c0 c1 hc;rcases a4 with⟨x,x1,x2,x3⟩ |⟨c',d,b0,b1,d0,d3,b2,b3,b4⟩
  ·rw[<-x3,<-x2];exact hl x x1
  ·have eI:=(ht.2 c' b0 b1).1;have hw:=ih c' b0 b1 b2 (by have:=(hD.dv c' b0 b1 b2).1;omega)
   obtain⟨e1,e2⟩:=MD h hs b0 b1 d0 d3 (by rw[b3];exact c0)
   rw[b3] at e2;obtain⟨f1,f2,_,_⟩:=D0 h hs b0 b1;obtain⟨g1,g2,_,_⟩:=D0 h hs c0 c1;obtain⟨t,t0,t3,tb⟩:=DQ h.ok f1 g1 d0 d3 e2;rw[<-b4,f2];have:=Way.go t hw t0 t3 tb ⟨g1,by rw[<-g2];exact a3⟩
   rw[show rd D c'+rd g.m.C (cu g.m.W g.m.H s c')+k=rd D c'+k+rd g.m.C (cu g.m.W g.m.H s c') by omega]
   exact this
theorem Wk (h:cL g more) (hN:g.m.W*g.m.H<=1600) (hR:qO g R) (hg:bP g.m R.goal): ∀(n:Nat) (c:Int),0<=c->c<R.aN.length->rd R.aN c≠dJ->(rd R.aN c).toNat<=n->Way g.m R.goal c (rd R.aN c):=by
 obtain⟨_,im,hw,hd⟩:=hR;have hx:=Xj h hN hg hw.1;intro n
 induction n with
 |zero=>
  intro c c0 c1 hc hn;obtain⟨a1,a2,_,hp⟩:=hd.dv c c0 c1 hc;rcases hp with⟨p1,p2,p3⟩ |⟨b,e,p1,p2,p3,p4,p5⟩
  ·rw[<-p3];exact hx.w c p2
  ·have:=(FU h p1 p3).2.2.1;have hb:=tP h hd.len_ p1;have:=(hd.dv b hb.1 hb.2 p2).2.1;omega
 |succ n ih=>
  intro c c0 c1 hc hn;obtain⟨a1,a2,_,hp⟩:=hd.dv c c0 c1 hc;rcases hp with⟨p1,p2,p3⟩ |⟨b,e,p1,p2,p3,p4,p5⟩
  ·rw[<-p3];exact hx.w c p2
  ·have hk:=(FU h p1 p3).2.2.1;have hb:=tP h hd.len_ p1;have Tm:=(hd.dv b hb.1 hb.2 p2).2.1;have Ub:=ih b hb.1 hb.2 p2 U;have hle:=(hd.rel b p1 p2 e p3).2;rw[p4] at hle;have ev:rd R.aN c=rd R.aN b+e.kE:=U;have Np:=(ye p1).2;have hbs:=oY (fM h.ok Np);rw[ev];rcases p3 with⟨q1,q2,q3,T,q4,q5⟩ |⟨q1,q2,⟨d,d0,d3,q3⟩,q4⟩
   ·have oP:=(qt q1).2.1;have jR:=(qt q1).2.2.2;have eH:=ud h oP;rw[jR] at eH;have:=WO (k:=rd R.aN b) h hbs q4 (λx hx=>by
     simp only[nG,rR,or_false] at hx;subst hx;simp only;rw[nR (fM h.ok Np),Int.zero_add];exact Ub) _ _ eH.1 eH.2.1 (by rw[<-q5];exact q3) (jM _)
    have eg:=nR (fM h.ok oP);rw[jR] at eg;rw[eg,<-q5,p4] at this;rw[Int.add_comm];exact this
   ·have oP:=ye q1;rw[p4] at oP q3;obtain⟨t,t0,t3,tb⟩:=DQ h.ok Np oP.2 d0 d3 q3.symm;rw[q4];exact Way.go t Ub t0 t3 tb (o0.1 oP.1)
theorem ahm (h:cL g more) (hs:bC g.m.W g.m.H s) {l:List aX} {K:Int} {D:List Int} (hD:oB (dC g.m s) l K D): ∀(n:Nat) (c:Int),0<=c->c<(dC g.m s).C.length->rd D c≠cn->(rd D c).toNat<=n-> ∃x∈l,∀T,yT (dC g.m s) x.Cell T->rd T c≠cn/\rd T c+x.Key<=rd D c:=by
 have ht:=Bh h hs;have self: ∀(c:Int) (x:aX),x∈l->x.Cell=c->x.Key=rd D c-> ∃x∈l,∀T,yT (dC g.m s) x.Cell T->rd T c≠cn/\rd T c+x.Key<=rd D c:=λc x x1 x2 x3=>
  ⟨x,x1,λT hT=>by
    obtain⟨a,b⟩:=hT.sd ⟨x.Cell,4,0⟩ bd;simp only at a b;rw[x2] at a b;exact⟨a,by omega⟩⟩
 intro n
 induction n with
 |zero=>
  intro c c0 c1 hc hn;obtain⟨a1,a2,a3,a4⟩:=hD.dv c c0 c1 hc;rcases a4 with⟨x,x1,x2,x3⟩ |⟨c',d,b0,b1,d0,d3,b2,b3,b4⟩
  ·exact self c x x1 x2 x3
  ·have:=(ht.2 c' b0 b1).1;have:=(hD.dv c' b0 b1 b2).1;omega
 |succ n ih=>
  intro c c0 c1 hc hn;obtain⟨a1,a2,a3,a4⟩:=hD.dv c c0 c1 hc;rcases a4 with⟨x,x1,x2,x3⟩ |⟨c',d,b0,b1,d0,d3,b2,b3,b4⟩
  ·exact self c x x1 x2 x3
  ·have eI:=(ht.2 c' b0 b1).1;obtain⟨x,x1,x2⟩:=ih c' b0 b1 b2 (by have:=(hD.dv c' b0 b1 b2).1;omega)
   refine⟨x,x1,λT hT=>?_⟩
   obtain⟨y1,y2⟩:=x2 T hT;obtain⟨z1,z2⟩:=hT.nb c' d b0 b1 y1 d0 d3 (by rw[b3];exact c0) (by rw[b3];exact a3)
   rw[b3] at z1 z2;exact⟨z1,by omega⟩
theorem ain (h:cL g more) (hg:bP g.m goal) {im:List (Int×Int)} (hx:Fo g goal im) (ho:nC g.m goal) {T:List Int} (hT:yT (dC g.m (aQ g.m.W g.m.H goal)) (cy g.m.W g.m.H goal) T): ∀(n:Nat) (c:Int),0<=c->c<(dC g.m (aQ g.m.W g.m.H goal)).C.length->rd T c≠cn->(rd T c).toNat<=n->cj im (cu g.m.W g.m.H (aQ g.m.W g.m.H goal) c)=true/\aT im (cu g.m.W g.m.H (aQ g.m.W g.m.H goal) c)<=rd T c:=by
 have hs:=oY (fM h.ok hg);have ht:=Bh h hs;have eg:=nR (fM h.ok hg);have self: ∀c:Int,(∃x∈[(⟨cy g.m.W g.m.H goal,4,0⟩:aX)],x.Cell=c/\x.Key=rd T c)->cj im (cu g.m.W g.m.H (aQ g.m.W g.m.H goal) c)=true/\aT im (cu g.m.W g.m.H (aQ g.m.W g.m.H goal) c)<=rd T c:=λc ⟨x,x1,x2,x3⟩=>by
  simp only[nG,rR,or_false] at x1;subst x1;simp only at x2 x3;subst x2;rw[eg];have:=hx.st ho;exact⟨this.1,by omega⟩
 intro n
 induction n with
 |zero=>
  intro c c0 c1 hc hn;obtain⟨a1,a2,a3,a4⟩:=hT.dv c c0 c1 hc;rcases a4 with z |⟨c',d,b0,b1,d0,d3,b2,b3,b4⟩
  ·exact self c z
  ·have:=(ht.2 c' b0 b1).1;have:=(hT.dv c' b0 b1 b2).1;omega
 |succ n ih=>
  intro c c0 c1 hc hn;obtain⟨a1,a2,a3,a4⟩:=hT.dv c c0 c1 hc;rcases a4 with z |⟨c',d,b0,b1,d0,d3,b2,b3,b4⟩
  ·exact self c z
  ·have eI:=(ht.2 c' b0 b1).1;obtain⟨i1,i2⟩:=ih c' b0 b1 b2 (by have:=(hT.dv c' b0 b1 b2).1;omega)
   obtain⟨e1,e2⟩:=MD h hs b0 b1 d0 d3 (by rw[b3];exact c0)
   rw[b3] at e2;obtain⟨_,f2,_,_⟩:=D0 h hs b0 b1;obtain⟨g1,g2,g3,_⟩:=D0 h hs c0 c1;obtain⟨j1,j2⟩:=hx.cl _ i1 d _ ⟨d0,d3,e2.symm,⟨g1,by rw[<-g2];exact a3⟩,g3⟩
   exact⟨j1,by rw[<-f2] at j2;omega⟩
def EV (g:bw) (R:gI) (s:Int) (D:List Int):Prop:= ∃l K,(∀y,y∈l↔xd g R s y)/\oB (dC g.m s) l K D
theorem U5 (h:cL g more) {n d:Int} (hn:nC g.m n) (ho:0<=fi g.m.W g.m.H n d):node g.m n:=by
 have hc:=fM h.ok hn.1;have bY:=zD hc;have hs:=oY hc;have qm:=Hh ho;unfold node bM;rw[List.mem_filter];refine⟨?_,o0.2 hn⟩;unfold qz vg;rw[List.mem_map];refine⟨(cy g.m.W g.m.H n).toNat,?_,by rw[show(((cy g.m.W g.m.H n).toNat:Nat):Int)=cy g.m.W g.m.H n by omega,nR hc]⟩
 rw[List.mem_filter,List.mem_range];refine⟨by omega,?_⟩
 unfold Be;rw[show(((cy g.m.W g.m.H n).toNat:Nat):Int)=cy g.m.W g.m.H n by omega,nR hc]
 have hd:d=0∨d=1∨d=2∨d=3:=by have:=qm.2.1;have:=qm.2.2.1;omega
 simp only[yW];rcases hd with rfl |rfl |rfl |rfl<;>simp[ho]
theorem Vl {w h c d:Int} (h0:0<=bj w h c d) (bI:aQ w h (bj w h c d)≠aQ w h c):fi w h c d=bj w h c d:=by
 unfold fi;rw[aj];rintro(z |z)
 ·omega
 ·exact bI z
theorem afL (h:cL g more) (hN:g.m.W*g.m.H<=1600) (hR:qO g R) (hg:bP g.m R.goal) {c:Int} (hc:node g.m c) {D:List Int} (hD:EV g R (aQ g.m.W g.m.H c) D) (bI:rd D (cy g.m.W g.m.H c)≠cn):rd R.aN c≠dJ/\rd R.aN c<=rd D (cy g.m.W g.m.H c):=by
 obtain⟨l,K,hl,hS⟩:=hD;have JA:=hR;obtain⟨_,im,hw,hd⟩:=hR;have hx:=Xj h hN hg hw.1;have oP:=(ye hc).2;have jR:=oY (fM h.ok oP);have ht:=Bh h jR;have eH:=ud h oP;obtain⟨x,x1,x2⟩:=ahm h jR hS _ _ eH.1 eH.2.1 bI (jM _);have W0: ∀q:Int,nC g.m q->aQ g.m.W g.m.H q=aQ g.m.W g.m.H c-> ∃T,yT (dC g.m (aQ g.m.W g.m.H c)) (cy g.m.W g.m.H q) T:=λq hq e=>by
  have xL:=ud h hq.1;rw[e,DZ hq.1] at xL;obtain⟨r,_,hr⟩:=W2 ht xL.1 xL.2.1 (by rw[xL.2.2];exact hq.2)
  exact⟨r.1,hr.1⟩
 rcases(hl x).1 x1 with⟨q,hq,e,he,Ck,ex⟩ |⟨e1,e2,ex⟩
 ·obtain⟨q1,q2,_,q4⟩:=qt hq;obtain⟨d,d0,d3,o1,eE⟩:=FV he;have hqo:=o0.1 q1;have hyo:=o0.1 o1;have qm:=Hh (w:=g.m.W) (h:=g.m.H) (c:=q) (side:=d) hyo.1.1;subst eE;simp only at Ck ex;obtain⟨v1,v2,v3,v4,_⟩:=FK hN JA Ck;have hlen:=hd.len_;have hny:=(hd.dv _ v1.1 (by have:=v1.2;omega) v2).1
  obtain⟨t,t0,t3,tb⟩:=DQ h.ok q2 v1 d0 d3 qm.2.2.2.2.1.symm;have TO:node g.m q:=by unfold node;rw[q4];exact hq
  have xD:Comes g.m (fi g.m.W g.m.H q d) ⟨q,rd g.m.C (fi g.m.W g.m.H q d)⟩:= .inr ⟨TO,λz=>qm.2.2.2.2.2 z.symm,⟨t,t0,t3,tb.symm⟩,J⟩
  obtain⟨r1,r2⟩:=hd.rel _ hny v2 _ xD;simp only at r1 r2;obtain⟨T,hT⟩:=W0 q hqo q4;obtain⟨y1,y2⟩:=x2 T (by rw[ex];exact hT)
  have hTc:=(hT.dv _ eH.1 eH.2.1 y1).1;rw[ex] at y2;simp only at y2;rw[v3] at y2
  by_cases z:c=q
  ·rw[z] at y2 hTc⊢;exact⟨r1,by omega⟩
  ·have adO:Comes g.m q ⟨c,rd T (cy g.m.W g.m.H c)⟩:= .inl ⟨by rw[q4];exact hc,z,y1,T,by rw[q4];exact hT,J⟩
   obtain⟨w1,w2⟩:=hd.rel q TO r1 _ adO;simp only at w1 w2;exact⟨w1,by omega⟩
 ·have TB:nC g.m R.goal:=CW.1 ⟨hg,e2⟩;rw[<-e1] at eH x2 jR;obtain⟨T,hT⟩:=W0 R.goal TB e1;rw[<-e1] at hT;obtain⟨y1,y2⟩:=x2 T (by rw[ex];exact hT)
  obtain⟨i1,i2⟩:=ain h hg hx TB hT _ _ eH.1 eH.2.1 y1 (jM _);have eg:=nR (fM h.ok oP);rw[<-e1] at eg;rw[eg] at i1 i2;obtain⟨w1,w2⟩:=hd.sd c (by rw[e1];exact hc) i1
  rw[ex] at y2;simp only at y2;exact⟨w1,by omega⟩
theorem Wy (h:cL g more) (hN:g.m.W*g.m.H<=1600) (hR:qO g R) (hg:bP g.m R.goal) (hex: ∀s,bC g.m.W g.m.H s-> ∃D,EV g R s D) {c n side k:Int} (lR:nC g.m n) (pF:nC g.m c) (s0:0<=side) (s3:side<=3) (mg:bj g.m.W g.m.H n side=c) (z:aQ g.m.W g.m.H c≠aQ g.m.W g.m.H n)
 (ih: ∀D,EV g R (aQ g.m.W g.m.H c) D->rd D (cy g.m.W g.m.H c)≠cn/\rd D (cy g.m.W g.m.H c)<=k): ∃x,xd g R (aQ g.m.W g.m.H n) x/\x.Cell=cy g.m.W g.m.H n/\x.cH=side/\x.Key<=k+rd g.m.C c:=by
 have ja:=fM h.ok lR.1;have tA:=fM h.ok pF.1;obtain⟨t,t0,t3,tb⟩:=DQ h.ok lR.1 pF.1 s0 s3 mg;have OI:fi g.m.W g.m.H n side=c:=by rw[Vl (by rw[mg];exact pF.1.1) (by rw[mg];exact z),mg]
 have ov2:fi g.m.W g.m.H c t=n:=by rw[Vl (by rw[tb];exact lR.1.1) (by rw[tb];exact λy=>z y.symm),tb]
 have xK:=U5 h lR (d:=side) (by rw[OI];exact pF.1.1)
 have J1:=U5 h pF (d:=t) (by rw[ov2];exact lR.1.1)
 obtain⟨D2,R4⟩:=hex _ (oY tA);obtain⟨i1,i2⟩:=ih D2 R4;obtain⟨r1,r2⟩:=afL h hN hR hg J1 R4 i1;have eA:qL g R c=rd R.aN c:=by unfold qL;rw[ah ⟨pF.1,r1⟩]
 have hA:qL g R c≠cn:=by
  obtain⟨_,im,hw',hd⟩:=hR;have zs:=hd.len_;have:=(hd.dv c pF.1.1 (by have:=pF.1.2;omega) r1).2.2.1
  have h1:RB=104538400:=rfl;have h2:cn=1099511627776:=rfl;rw[eA];omega
 have xE:(⟨c,rd g.m.C c⟩:d_)∈tX g.m n:=by
  unfold tX wJ;rw[ah (o0.2 lR),List.mem_map];refine⟨side.toNat,List.mem_filter.2 ⟨List.mem_range.2 U,?_⟩,?_⟩
  ·rw[show((side.toNat:Nat):Int)=side by omega,OI];exact o0.2 pF
  ·rw[show((side.toNat:Nat):Int)=side by omega,OI]
 refine⟨_,.inl ⟨n,xK,_,xE,hA,J⟩,J,?_,?_⟩
 ·simp only;rw[<-mg];exact Ph ja s0 U (by rw[mg];exact tA)
 ·simp only;rw[eA];omega
theorem RG (h:cL g more) (hN:g.m.W*g.m.H<=1600) (hR:qO g R) (hg:bP g.m R.goal) (hex: ∀s,bC g.m.W g.m.H s-> ∃D,EV g R s D) {c k:Int} (hw:Way g.m R.goal c k): ∀D,EV g R (aQ g.m.W g.m.H c) D->rd D (cy g.m.W g.m.H c)≠cn/\rd D (cy g.m.W g.m.H c)<=k:=by
 induction hw with
 |here ho=>
  rintro D ⟨l,K,hl,hS⟩;have:=hS.sd ⟨cy g.m.W g.m.H R.goal,4,0⟩ ((hl _).2 (.inr ⟨J,(CW.2 ho).2,J⟩));exact this
 | @go c k n side hw s0 s3 mg lR ih=>
  intro D hD;have pF:=HY hw;have ja:=fM h.ok lR.1;have tA:=fM h.ok pF.1;obtain⟨t,t0,t3,tb⟩:=DQ h.ok lR.1 pF.1 s0 s3 mg
  by_cases z:aQ g.m.W g.m.H c=aQ g.m.W g.m.H n
  ·obtain⟨i1,i2⟩:=ih D (by rw[z];exact hD)
   obtain⟨l,K,hl,hS⟩:=hD;have hs:=oY tA;have eH:=ud h pF.1;have J2:=ud h lR.1;have bY:=zD tA;have Mo:=nR tA;have NK:=U0 (t:=dC g.m (aQ g.m.W g.m.H c)) hs bY.1 bY.2 t0 t3 J J (by rw[Mo,tb];exact ja) (by rw[Mo,tb];exact z.symm)
   obtain⟨e1,e2⟩:=MD h hs eH.1 eH.2.1 t0 t3 NK;rw[Mo,tb] at e2;have Ru:eG (dC g.m (aQ g.m.W g.m.H c)) (cy g.m.W g.m.H c) t=cy g.m.W g.m.H n:=by
    rw[e2,(D0 h hs NK e1).2.2.2]
   have hcw:rd (dC g.m (aQ g.m.W g.m.H c)).C (cy g.m.W g.m.H n)≠255:=by
    rw[z,J2.2.2,DZ lR.1];exact lR.2
   rw[<-z] at hS;obtain⟨j1,j2⟩:=hS.nb _ t eH.1 eH.2.1 i1 t0 t3 NK (by rw[Ru];exact hcw)
   rw[Ru] at j1 j2;rw[eH.2.2,DZ pF.1] at j2;exact⟨j1,by omega⟩
  ·obtain⟨l,K,hl,hS⟩:=hD;obtain⟨x,x1,x2,_,x4⟩:=Wy h hN hR hg hex lR pF s0 s3 mg z ih;have:=hS.sd _ ((hl _).2 x1);rw[x2] at this;exact⟨this.1,by omega⟩
theorem aa1 (h:cL g more) (hN:g.m.W*g.m.H<=1600) (hR:qO g R) (hg:bP g.m R.goal) {c:Int} (hc:bP g.m c) {D:List Int} (hD:EV g R (aQ g.m.W g.m.H c) D) (bI:rd D (cy g.m.W g.m.H c)≠cn):Way g.m R.goal c (rd D (cy g.m.W g.m.H c)):=by
 obtain⟨l,K,hl,hS⟩:=hD;have hs:=oY (fM h.ok hc);have eH:=ud h hc;have:=WO (goal:=R.goal) (k:=0) h hs hS (λx hx=>by
  rw[Int.add_zero];rcases(hl x).1 hx with⟨q,hq,e,he,Ck,ex⟩ |⟨e1,e2,ex⟩
  ·obtain⟨q1,q2,_,q4⟩:=qt hq;obtain⟨d,d0,d3,o1,eE⟩:=FV he;have qm:=Hh (w:=g.m.W) (h:=g.m.H) (c:=q) (side:=d) (o0.1 o1).1.1;subst eE;simp only at Ck ex;obtain⟨v1,v2,v3,v4,_⟩:=FK hN hR Ck;have hlen:=hR.2.choose_spec.2.len_;have hw:=Wk h hN hR hg _ _ v1.1 (by have:=v1.2;omega) v2 (jM _)
   rw[ex];simp only;have eg:=nR (fM h.ok q2);rw[q4] at eg;rw[eg,v3,Int.add_comm];exact Way.go d hw d0 d3 qm.2.2.2.2.1.symm (o0.1 q1)
  ·rw[ex];simp only;rw[<-e1,nR (fM h.ok hg)];exact Way.here (CW.1 ⟨hg,e2⟩)) _ _ eH.1 eH.2.1 bI (jM _)
 rw[nR (fM h.ok hc),Int.add_zero] at this;exact this
end
section
variable {m : aF} {t : Int}
structure Up (m:aF) (t:Int) (D:List Int):Prop where
 len:D.length=m.C.length
 top: ∀c:Int,bP m c->rd D c<=(1099511627776:Int)
 wV: ∀c:Int,bP m c->rd D c<(1099511627776:Int)->Way m t c (rd D c)
 goal:rd D t<=0
abbrev Fa (m:aF) (D:List Int) (c s:Int):Prop:=(bP m (bj m.W m.H c s)/\rd m.C (bj m.W m.H c s)≠255)/\rd D (bj m.W m.H c s)<(1099511627776:Int)/\rd D (bj m.W m.H c s)+rd m.C (bj m.W m.H c s)<rd D c
abbrev wS (D:List Int):Int:=pY (rd D) D.length
theorem Pz (hc:w9 m) {D:List Int} (h:Up m t D) {c:Int} (hi:bP m c):0<=rd D c:=by
 by_cases hd:rd D c<(1099511627776:Int)
 ·exact Li hc (h.wV c hi hd)
 ·omega
theorem aa7 (hm:nz m) (hc:w9 m) {c:Int} (hi:bP m c): ∀(n k:Nat) (j:Int) (D:List Int) (b:Bool),(4-j).toNat<=n->n<k->0<=j->Up m t D->
 Ok (eQ.l3 k m c D b j) (λr=>Up m t r.1/\((r.2=b/\r.1=D/\(rd m.C c≠255-> ∀s:Int,j<=s->s<=3-> ¬Fa m D c s))∨(r.2=true/\wS r.1+1<=wS D))):=by
 have hl:=hm.2.1;have wc:=hi.1;have qY:=hi.2;intro n
 induction n with
 |zero=>
  intro k j D b hj hk h0 hu;obtain⟨k,rfl⟩:=bz hk;rw[eQ.l3,aj (c:=j<=3) U];exact Ok.pure ⟨hu,.inl ⟨J,J,λ_ s q1 q2=>by omega⟩⟩
 |succ n ih=>
  intro k j D b hj hk h0 hu;obtain⟨k,rfl⟩:=bz hk;have hD:=hu.len
  by_cases hw:rd m.C c≠255/\j<=3
  rotate_left
  ·rw[eQ.l3];have e:(if j<=3 then(if(0<=c/\c<(aa m.C:Int)) then(some ((rd m.C c)!=255)) else none) else(some false))=some false:=by
    by_cases z:j<=3
    ·have:rd m.C c=255:=pg λy=>hw ⟨y,z⟩
     rw[ah z,ah ⟨wc,by omega⟩,this];rfl
    ·rw[aj z]
   rw[e];exact Ok.pure ⟨hu,.inl ⟨J,J,λq s q1 q2=>by omega⟩⟩
  rw[eQ.l3,ah hw.2,ah ⟨wc,by omega⟩,aM,ah (by simpa using hw.1),Wo,aM,wi (x:=j+1) U U]
  have adP:(if bj m.W m.H c j≥0 then(if(0<=bj m.W m.H c j/\bj m.W m.H c j<(aa m.C:Int)) then(if((rd m.C (bj m.W m.H c j))!=255)=true then(if(0<=bj m.W m.H c j/\bj m.W m.H c j<(aa D:Int)) then(if(rd D (bj m.W m.H c j))<1099511627776 then(if(0<=c/\c<(aa D:Int)) then(some (decide ((af ((rd D (bj m.W m.H c j))+(af (rd m.C (bj m.W m.H c j)))))<(rd D c)))) else none) else(some false)) else none) else(some false)) else none) else(some false))=some (decide (Fa m D c j)):=by
   by_cases hn:bj m.W m.H c j<0
   ·rw[aj U,decide_eq_false (λq=>by have:=q.1.1.1;omega)]
   ·have bY:=K4 hn;have TD:=bY.2;have ja:=hc _ bY;have t1:=hu.top _ bY;have t0:=Pz hc hu bY;rw[ah U,ah ⟨bY.1,by omega⟩]
    by_cases hw:rd m.C (bj m.W m.H c j)=255
    ·rw[aj (by simpa using hw),decide_eq_false (λq=>q.1.2 hw)]
    ·rw[ah (by simpa using hw),ah ⟨bY.1,by omega⟩]
     by_cases aS:rd D (bj m.W m.H c j)<(1099511627776:Int)
     ·rw[ah aS,ah ⟨wc,by omega⟩,wi (x:=rd m.C _) U U,wi U U]
      congr 1
      rw[nD];simp[bY,hw,aS]
     ·rw[aj aS,decide_eq_false (λq=>aS q.2.1)]
  refine Ok.eq adP (Ok.ite (λhq=>?_) λhq=>?_)
  ·obtain⟨q1,q2,q3⟩:=of_decide_eq_true hq;have TD:=q1.1.2;have ja:=hc _ q1.1;have t0:=Pz hc hu q1.1;have tc:=hu.top c hi;rw[wi (x:=rd m.C _) U U,wi (x:=_+_) U U];refine Ok.br ⟨q1.1.1,by omega⟩ (Ok.br ⟨q1.1.1,by omega⟩ (Ok.br ⟨wc,by omega⟩ ?_))
   have N2:=Way.go j (hu.wV _ q1.1 q2) h0 hw.2 J ⟨hi,hw.1⟩;generalize rd D (bj m.W m.H c j)+rd m.C (bj m.W m.H c j)=v at q3 N2⊢;have sk: ∀x:Int,0<=x->rd (aD D c.toNat v) x=if x=c then v else rd D x:=λx x0=>mh wc U x0
   have Em:wS (aD D c.toNat v)+1<=wS D:=by
    show pY _ (aD D c.toNat v).length+1<=_
    rw[nF];refine Pp (c:=c) _ wc U (by rw[sk c wc,ah J];omega) λi i0 i1 ic=>by rw[sk i i0,aj ic]
   have kq:=(Xg N2).1.1;have J9:Up m t (aD D c.toNat v):=by
    refine⟨by simpa using hD,λx hx=>?_,λx hx aS=>?_,?_⟩
    ·rw[sk x hx.1];split
     ·omega
     ·exact hu.top x hx
    ·rw[sk x hx.1] at aS⊢;split at aS
     ·rename_i q;rw[ah q,q];exact N2
     ·rename_i q;rw[aj q];exact hu.wV x hx aS
    ·rw[sk t kq];have:=hu.goal;split
     ·rename_i q;rw[q] at this;omega
     ·exact this
   refine(ih k (j+1) _ true U U U J9).mono λr hr=>⟨hr.1,.inr ?_⟩
   rcases hr.2 with⟨a1,a2,_⟩ |⟨a1,a2⟩
   ·exact⟨a1,by rw[a2];exact Em⟩
   ·exact⟨a1,by omega⟩
  ·refine(ih k (j+1) D b U U U hu).mono λr hr=>⟨hr.1,?_⟩
   rcases hr.2 with⟨a1,a2,a3⟩ |a
   ·refine .inl ⟨a1,a2,λq s s0 s3=>?_⟩
    by_cases hs:s=j
    ·rw[hs];simpa using hq
    ·exact a3 q s U s3
   ·exact .inr a
theorem aa6 (hm:nz m) (hc:w9 m): ∀(n k:Nat) (i:Int) (D:List Int) (b:Bool),(2*m.C.length-i).toNat<=n->n<k->0<=i->Up m t D->
 Ok (eQ.l2 k m D b i) (λr=>Up m t r.1/\((r.2=b/\r.1=D/\ ∀c:Int,nC m c->i<=c-> ∀s:Int,0<=s->s<=3-> ¬Fa m D c s)∨(r.2=true/\wS r.1+1<=wS D))):=by
 have hl:=hm.2.1;have NN:=pJ hm.1;have fin: ∀(k:Nat) (i:Int) (D:List Int) (b:Bool),¬i<2*m.C.length->Up m t D->Ok (eQ.l2 (k+1) m D b i) (λr=>Up m t r.1/\((r.2=b/\r.1=D/\ ∀c:Int,nC m c->i<=c-> ∀s:Int,0<=s->s<=3-> ¬Fa m D c s)∨(r.2=true/\wS r.1+1<=wS D))):=λk i D b hi hu=>by
  rw[eQ.l2,wi U U,aj hi];exact Ok.pure ⟨hu,.inl ⟨J,J,λc hc q=>by have:=hc.1.2;omega⟩⟩
 intro n
 induction n with
 |zero=>
  intro k i D b hi hk h0 hu;obtain⟨k,rfl⟩:=bz hk;exact fin k i D b U hu
 |succ n ih=>
  intro k i D b hi hk h0 hu;obtain⟨k,rfl⟩:=bz hk
  by_cases aS:i<2*m.C.length
  rotate_left
  ·exact fin k i D b aS hu
  have hx: ∃c:Int,bP m c/\(i<m.C.length->c=i)/\(if i≥(aa m.C:Int) then(some (af ((af ((af (2*(aa m.C:Int)))-1))-i))) else(some i))=some c:=by
   by_cases hq:i≥(aa m.C:Int)
   ·rw[ah hq,wi (x:=2*_) U U,wi (x:=_-1) U U,wi U U];exact⟨_,⟨by omega,by omega⟩,λq=>by omega,J⟩
   ·rw[aj hq];exact⟨i,⟨h0,by omega⟩,λ_=>rfl,J⟩
  obtain⟨c,pC,JO,e⟩:=hx;rw[eQ.l2,e,aM,wi (x:=2*_) U U,ah aS,wi U U];refine(aa7 hm hc pC 4 fuel 0 D b U (by rw[cY];omega) U hu).bind λr1 h1=>(ih k (i+1) r1.1 r1.2 U U U h1.1).mono λr2 h2=>⟨h2.1,?_⟩
  obtain⟨D1,b1⟩:=r1;rcases h1.2 with⟨a1,a2,a3⟩ |⟨a1,a2⟩
  ·simp only at a1 a2 h2;subst a1 a2;rcases h2.2 with⟨p1,p2,p3⟩ |p
   ·refine .inl ⟨p1,p2,λx hx xH s s0 s3=>?_⟩
    by_cases hq:x=i
    ·have xN:=hx.1.2;have oP:=JO U;rw[hq,<-oP];rw[hq,<-oP] at hx;exact a3 hx.2 s s0 s3
    ·exact p3 x hx U s s0 s3
   ·exact .inr p
  ·simp only at a1 a2 h2;rcases h2.2 with⟨p1,p2,_⟩ |⟨p1,p2⟩
   ·exact .inr ⟨by rw[p1,a1],by rw[p2];exact a2⟩
   ·exact .inr ⟨p1,by omega⟩
theorem aa5 (hm:nz m) (hc:w9 m): ∀(n k:Nat) (D:List Int),wS D<=n->n+1<k->Up m t D->Ok (eQ.l1 k m D true) (Am m t):=by
 have hl:=hm.2.1;have NN:=pJ hm.1;intro n
 induction n with
 |zero=>?_
 |succ n ih=>?_
 all_goals
  intro k D hs hk hu;obtain⟨k,rfl⟩:=bz hk;rw[eQ.l1,ah J];refine(aa6 hm hc (2*m.C.length) fuel 0 D false U (by rw[cY];omega) U hu).bind λr hr=>?_
  obtain⟨D',b'⟩:=r;obtain⟨jD,⟨a1,a2,a3⟩ |⟨a1,a2⟩⟩:=hr
  all_goals have jD:Up m t D':=jD
  ·simp only at a1 a2;subst a1 a2;obtain⟨k,rfl⟩:=bz (show 0<k by omega)
   show Ok (eQ.l1 (k+1) m D' false) _
   rw[eQ.l1,aj bd];refine Ok.pure ⟨hu.len,hu.wV,λc k hw=>?_,hu.top⟩
   induction hw with
   |here _=>exact hu.goal
   | @go c' k' n s h1 s0 s3 mg ho ih=>
    have tA:=hc c' (HY h1).1;have AV:=Li hc h1;have:=hu.top n ho.1;have:=a3 n ho ho.1.1 s s0 s3;unfold Fa at this;rw[mg] at this;have pF:=HY h1
    by_cases q:rd D' c'<(1099511627776:Int)
    ·have: ¬rd D' c'+rd m.C c'<rd D' n:=λy=>this ⟨pF,q,y⟩
     omega
    ·omega
  ·simp only at a1 a2;have h0:0<=wS D':=Ps _ λi i0 i1=>Pz hc jD ⟨i0,by have:=jD.len;omega⟩
   first
   |omega
   |rw[a1];exact ih k D' U U jD
theorem aa8 (hm:nz m) (hc:w9 m) (ht:bP m t) (hb:m.C.length<=10000):Ok (eQ.f m t) (Am m t):=by
 have hl:=hm.2.1;have ht2:=ht.2;have NW:=ht.1;unfold eQ.f;refine Ok.br U ?_;have key: ∀(n k:Nat) (i:Int) (x:List Int),(m.C.length-i).toNat<=n->n<k->0<=i->x.length=m.C.length->(∀j:Int,0<=j->j<i->j<m.C.length->rd x j=(1099511627776:Int))->
  Ok (eQ.l0 k m t x i) (Am m t):=by
  have fin: ∀(k:Nat) (i:Int) (x:List Int),¬i<m.C.length->x.length=m.C.length->(∀j:Int,0<=j->j<i->j<m.C.length->rd x j=(1099511627776:Int))->Ok (eQ.l0 (k+1) m t x i) (Am m t):=λk i x hi hx hr=>by
   have mf: ∀c,bP m c->rd x c=(1099511627776:Int):=λc hc=>by have:=hc.1;have:=hc.2;exact hr c U U U
   rw[eQ.l0,aj hi,agU hm,aM];refine Ok.ite (λq=>Ok.pure ⟨hx,λc hc aS=>?_,λc k hw=>?_,λc hc=>?_⟩) λq=>Ok.br ⟨NW,by omega⟩ ?_
   ·rw[mf c hc] at aS;omega
   ·have:=o0.2 (Xg hw);rw[this] at q;simp at q
   ·rw[mf c hc];omega
   ·have ho:nC m t:=o0.1 (by simpa using q)
    have sk: ∀c:Int,0<=c->rd (aD x t.toNat 0) c=if c=t then 0 else rd x c:=λc c0=>mh NW U c0
    have J9:Up m t (aD x t.toNat 0):=by
     refine⟨by simpa using hx,λc hc=>?_,λc hc aS=>?_,?_⟩
     ·rw[sk c hc.1];split
      ·omega
      ·rw[mf c hc];omega
     ·rw[sk c hc.1] at aS⊢;split at aS
      ·rename_i q;rw[ah q,q];exact Way.here ho
      ·rw[mf c hc] at aS;omega
     ·rw[sk t NW,ah J];omega
    have Em:wS (aD x t.toNat 0)<=(aD x t.toNat 0).length*(1099511627776:Int):=Pr _ λi i0 i1=>J9.top i ⟨i0,by simp at i1;omega⟩
    rw[nF] at Em;exact aa5 hm hc (10000*1099511627776) fuel _ U (by rw[cY];omega) J9
  intro n
  induction n with
  |zero=>
   intro k i x hi hk h0 hx hr;obtain⟨k,rfl⟩:=bz hk;exact fin k i x U hx hr
  |succ n ih=>
   intro k i x hi hk h0 hx hr;obtain⟨k,rfl⟩:=bz hk
   by_cases aS:i<m.C.length
   ·rw[eQ.l0,ah aS,ah U,wi U U];refine ih k (i+1) _ U U U (by simpa using hx) (λj j0 j1 j2=>?_)
    rw[mh h0 U j0]
    by_cases hj:j=i
    ·rw[ah hj]
    ·rw[aj hj];exact hr j j0 U j2
   ·exact fin k i x aS hx hr
 exact key m.C.length fuel 0 _ U (by rw[cY];omega) U bd (λj j0 j1=>by omega)
end
end Go.Proofs.YthodkonhneebbaaGreatDoor
