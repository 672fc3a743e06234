/- What the functions do, in plain Lean, on the objects that are kept in order. -/
import Derived.Test.YthodkonhneebbaaGreatDoorKS15
import Derived.Test.YthodkonhneebbaaGreatDoorKS11
import Derived.Test.YthodkonhneebbaaGreatDoorKS12
import Derived.Test.YthodkonhneebbaaGreatDoorKS13
import Derived.Test.YthodkonhneebbaaGreatDoorKS6
import Derived.Test.YthodkonhneebbaaGreatDoorKS7
import Derived.Test.YthodkonhneebbaaGreatDoorKS14
import Derived.Test.YthodkonhneebbaaGreatDoorKS5
namespace Go.Proofs.YthodkonhneebbaaGreatDoor
open Go.Hx
open List renaming length->aa,set->aD,length_set->nO,length_cons->tz,mem_cons->nh,not_mem_nil->ra,length_append->zg
open Int renaming tdiv->di,fdiv->fQ,toNat->ax,mul_comm->mC,mul_ediv_add_emod->uQ,le_refl->dU
open Nat renaming le_refl->jW
open Bool renaming eq_iff_iff->nM,false_eq_true->jk
open Classical renaming byContradiction->pr
set_option linter.unusedVariables false
set_option linter.unusedSimpArgs false
section
structure vO (o:eG):Prop where
 k:0<=o.Kind/\o.Kind<=8
 a:0<=o.A/\o.A<=1000000
 b:0<=o.B/\o.B<=1000000
 m:o.Kind≠1->o.Map=[]
 b2:o.Kind=2->o.B<=255
 b5:o.Kind=5->o.B=0
 z:o.Kind=1∨o.Kind=7∨o.Kind=8->o.A=0/\o.B=0
 ld:o.Kind=1->(∀y∈o.Map,dV y)/\4<=o.Map.length/\o.Map.length<=100000/\rd o.Map 0+256*rd o.Map 1<=40/\rd o.Map 2+256*rd o.Map 3<=40
theorem R7 {n:Int} (h0:0<=n) (h1:n<=1000000):sQ.f n 4=some true:=by
 unfold sQ.f;have e:af (1*(2^(min (ax (af (8*4))) (IntKind.bits .i64))))=4294967296:=by decide
 rw[e,ah h0,ah (by decide),decide_eq_true U]
theorem abn {n:Int} (h0:0<=n) (h1:n<=255):sQ.f n 1=some true:=by
 unfold sQ.f;have e:af (1*(2^(min (ax (af (8*1))) (IntKind.bits .i64))))=256:=by decide
 rw[e,ah h0,ah (by decide),decide_eq_true U]
theorem Jv:sQ.f 0 0=some true:=by decide
theorem ags {o:eG} (h:vO o) (hk:o.Kind≠0):C8.f o=some true:=by
 have hm:=h.m;have sG:=h.ld;have hz:=h.z;have h2:=h.b2;have h5:=h.b5;have ha:=R7 h.a.1 h.a.2;have hb:=R7 h.b.1 h.b.2;unfold C8.f;rw[ak (by simpa using hk)]
 have hc:o.Kind=1∨o.Kind=2∨o.Kind=3∨o.Kind=4∨o.Kind=5∨o.Kind=6∨o.Kind=7∨o.Kind=8:=by have:=h.k;omega
 rcases hc with e |e |e |e |e |e |e |e
 ·have:=hz (.inl e);have hl:=sG e;simp only[e,this.1,this.2,pS.f,beq_self_eq_true,if_true,aM,Jv]
  by_cases q:(o.Map.length:Int)=0
  ·omega
  ·rw[ak (by simpa using q)];simp;omega
 ·have Ek:=abn h.b.1 (h2 e);simp[e,pS.f,ha,Ek,hm U]
 ·simp[e,pS.f,ha,hb,hm U]
 ·simp[e,pS.f,ha,hb,hm U]
 ·simp[e,pS.f,ha,h5 e,Jv,hm U]
 ·simp[e,pS.f,ha,hb,hm U]
 ·have:=hz (.inr (.inl e));simp[e,pS.f,this.1,this.2,Jv,hm U]
 ·have:=hz (.inr (.inr e));simp[e,pS.f,this.1,this.2,Jv,hm U]
theorem uM {n lo hi:Int} (h0:0<=lo) (h1:lo<=hi) (h2:hi<=1000000): ∃r,eW.f n lo hi=some r/\lo<=r/\r<=hi:=
 ⟨_,P8 U U h1 U,P9 h1⟩
theorem Qa (x:Int):0<=bQ x/\bQ x<=255:=aiH x
theorem ah' (x:pI) {n:Int} (n1:1<=n) (n2:n<=1600):Ok (yD.f x n) vO:=by
 obtain⟨a,ea,a0,a1⟩:=uM (n:=x.B) (lo:=1) (hi:=6) U U U;obtain⟨b,eb,b0,b1⟩:=uM (n:=x.A) (lo:=0) (hi:=5) U U U;obtain⟨c,ec,c0,c1⟩:=uM (n:=x.A) (lo:=0) (hi:=9) U U U;obtain⟨d,ed,d0,d1⟩:=uM (n:=x.A) (lo:=0) (hi:=n-1) U U U;obtain⟨e,ee,e0,e1⟩:=uM (n:=x.A) (lo:=0) (hi:=1) U U U;unfold yD.f;rw[ea,eb,ec,wi (x:=n-1) U U,ed,ee];simp only[aM];rw[wi (x:=n+b) U U,wi (x:=e*255) U U];have w1:=Qa x.A;have w2:=Qa x.B;refine Ok.ite (λq=>Ok.pure ?_) λq=>Ok.ite (λq'=>Ok.pure ?_) λq'=>Ok.ite (λDf=>Ok.pure ?_) λDf=>Ok.pure ?_
 ·have q:a=1:=by simpa using q
  subst q;refine⟨by simp,by simp,by simp,λz=>by simp at z,λz=>by simp at z,λz=>by simp at z,λ_=>⟨J,J⟩,λ_=>⟨λy hy=>?_,by simp,by simp,by simp[rd],by simp[rd]⟩⟩
  unfold dV;simp only[nh,ra,or_false] at hy;rcases hy with rfl |rfl |rfl |rfl |rfl |rfl |rfl<;>omega
 ·have q':a=2:=by simpa using q'
  subst q';exact⟨by simp,by simp only;omega,by simp only;omega,λ_=>rfl,λ_=>by simp only;omega,λz=>by simp at z,λz=>by simp at z,λz=>by simp at z⟩
 ·have Df:a=5:=by simpa using Df
  subst Df;exact⟨by simp,by simp only;omega,by simp,λ_=>rfl,λz=>by simp at z,λ_=>rfl,λz=>by simp at z,λz=>by simp at z⟩
 ·have q:a≠1:=by simpa using q
  have q':a≠2:=by simpa using q'
  have Df:a≠5:=by simpa using Df
  exact⟨by simp only;omega,by simp only;omega,by simp only;omega,λ_=>rfl,λz=>absurd z q',λz=>absurd z Df,λz=>by simp only at z;omega,λz=>absurd z q⟩
theorem U8 {m:aG} (hm:tr m) (h1:m.W<=40) (h2:m.H<=40):vO ⟨1,0,0,bytesOf m⟩:=by
 have N8:=hm.ok.1;have hl:=Q8 hm;have hc:=np m.W m.H;have e: ∀j:Int,0<=j->j<4->rd (bytesOf m) j=rd (xV m) j:=λj j0 j1=>by unfold bytesOf;exact vw j0 (by simp[xV];omega)
 have hw:=J7 (w:=m.W) U U;have hh:=J7 (w:=m.H) U U;refine⟨by simp,by simp,by simp,λz=>by simp at z,λz=>by simp at z,λz=>by simp at z,λ_=>⟨J,J⟩,λ_=>⟨Q9 hm,by simp only;omega,?_,?_,?_⟩⟩
 ·have:dy m.W m.H<=3*3:=by
   unfold dy bq;rw[ah hm.ok.1];exact kU (by simp only;omega) (by simp only;omega) (by simp only;omega) (by simp only;omega)
  simp only;omega
 ·simp only;rw[e 0 U U,e 1 U U]
  show bQ m.W+256*bQ (fQ m.W (2^8))<=40
  omega
 ·simp only;rw[e 2 U U,e 3 U U]
  show bQ m.H+256*bQ (fQ m.H (2^8))<=40
  omega
theorem U9 {m:aG} (hm:tr m) (h1:m.W<=40) (h2:m.H<=40):1<=m.C.length/\m.C.length<=1600:=by
 have hp:=pP hm.ok.1;have:=hm.ok.2.1;have N8:=hm.ok.1;have:m.W*m.H<=40*40:=kU U U h1 h2;omega
theorem ahN (w h:Int) {c:List Int} (hc: ∀y∈c,dV y) (l:List pI): ∀(n k:Nat) (a b:Int) (C:List Int) (x:List eG) (N i:Int),(60-i).toNat<=n->n<k->0<=i->1<=N->N<=1600->(x.length:Int)<=1+i->i<=60->(∀o∈x,vO o)->x≠[]->
 Ok (kY.l0 k w h c l a b C x N i) (λr=>r≠[]/\r.length<=61/\ ∀o∈r,vO o):=by
 have fin: ∀(k:Nat) (a b:Int) (C:List Int) (x:List eG) (N i:Int),¬(i<l.length/\i<60)->(x.length:Int)<=1+i->i<=60->(∀o∈x,vO o)->x≠[]->Ok (kY.l0 (k+1) w h c l a b C x N i) (λr=>r≠[]/\r.length<=61/\ ∀o∈r,vO o):=λk a b C x N i hi hx fa ha bK=>by
  rw[kY.l0,ak (by simpa using hi)]
  exact Ok.pure ⟨bK,by omega,ha⟩
 intro n
 induction n with
 |zero=>
  intro k a b C x N i hn hk h0 n1 n2 hx fa ha bK;obtain⟨k,rfl⟩:=bw hk;exact fin k a b C x N i U hx fa ha bK
 |succ n ih=>
  intro k a b C x N i hn hk h0 n1 n2 hx fa ha bK;obtain⟨k,rfl⟩:=bw hk
  by_cases aS:i<l.length/\i<60
  ·rw[kY.l0,ah (by simpa using aS),ah ⟨h0,aS.1⟩,wi (x:=N-1) U U,wi (x:=i+1) U U]
   obtain⟨p,ep,p0,p1⟩:=uM (n:=(rd l i).A) (lo:=0) (hi:=N-1) U U U;obtain⟨q,eq,q0,q1⟩:=uM (n:=(rd l i).B) (lo:=0) (hi:=N-1) U U U;obtain⟨v,ev,v0,v1⟩:=uM (n:=(rd l i).Kind) (lo:=0) (hi:=15) U U U;obtain⟨s,es,s0,s1⟩:=uM (n:=(rd l i).A) (lo:=0) (hi:=9) U U U;obtain⟨t,et,t0,t1⟩:=uM (n:=(rd l i).B) (lo:=0) (hi:=200) U U U;rw[ep,eq,ev,es,et];simp only[aM];refine Ok.bind (P:=λr:Int×Int×List Int×Int×Int×Int×Int×List Int=>1<=r.2.2.2.1/\r.2.2.2.1<=1600/\vO ⟨r.2.2.2.2.1,r.2.2.2.2.2.1,r.2.2.2.2.2.2.1,r.2.2.2.2.2.2.2⟩) ?_ λr hr=>Ok.br U (ih k _ _ _ _ _ (i+1) U U U hr.1 hr.2.1 bo U (λo ho=>?_) bp)
   ·have e3:(if(v==0)=true then(some (v==0)) else(if(v==1)=true then(some (v==1)) else(some (v==2))))=some (decide (v=0∨v=1∨v=2)):=by
     by_cases z:v=0
     ·simp[z]
     ·by_cases z':v=1<;>simp[z,z']
      rw[nM];simp
    refine Ok.eq e3 (Ok.ite (λz=>Ok.pure ⟨n1,n2,by simp,by simp only;omega,by simp only;omega,λ_=>rfl,λz=>by simp at z,λz=>by simp at z,λz=>by simp at z,λz=>by simp at z⟩) λz=>?_)
    refine Ok.ite (λz=>Ok.pure ⟨n1,n2,by simp,by simp only;omega,by simp only;omega,λ_=>rfl,λz=>by simp at z,λz=>by simp at z,λz=>by simp at z,λz=>by simp at z⟩) λz=>?_
    refine Ok.ite (λz=>Ok.pure ⟨n1,n2,by simp,by simp only;omega,by simp,λ_=>rfl,λz=>by simp at z,λ_=>rfl,λz=>by simp at z,λz=>by simp at z⟩) λz=>?_
    have e4:(if(v==5)=true then(some (v==5)) else(some (v==6)))=some (decide (v=5∨v=6)):=by
     by_cases z:v=5<;>simp[z]
     rw[nM];simp
    refine Ok.eq e4 (Ok.ite (λz=>?_) λz=>?_)
    ·have Ut:=Qa (rd l i).B;obtain⟨u,eu,u0,u1⟩:=Pg Ut.1 Ut.2;refine Ok.eq eu (Ok.pure ⟨n1,n2,by simp,by simp only;omega,by simp only;rw[wi U U];omega,λ_=>rfl,λ_=>by simp only;rw[wi U U];omega,λz=>by simp at z,λz=>by simp at z,λz=>by simp at z⟩)
    have e5:(if(v==7)=true then(some (v==7)) else(some (v==8)))=some (decide (v=7∨v=8)):=by
     by_cases z:v=7<;>simp[z]
     rw[nM];simp
    refine Ok.eq e5 (Ok.ite (λz=>Ok.pure ⟨n1,n2,by simp,by simp only;omega,by simp only;omega,λ_=>rfl,λz=>by simp at z,λz=>by simp at z,λz=>by simp at z,λz=>by simp at z⟩) λz=>?_)
    refine Ok.ite (λz=>Ok.pure ⟨n1,n2,by simp,by simp,by simp,λ_=>rfl,λz=>by simp at z,λz=>by simp at z,λ_=>⟨J,J⟩,λz=>by simp at z⟩) λz=>?_
    refine Ok.ite (λz=>Ok.ite (λz=>?_) λz=>?_) λz=>Ok.ite (λz=>?_) λz=>?_
    ·obtain⟨m,em,hm,m1,m2⟩:=Pj (af (w+(af (di (rd l i).A 4)))) (af (h+(rd l i).B)) hc;have:=U9 hm m1 m2;exact Ok.eq em (Ok.eq (Pm hm) (Ok.pure ⟨by simp only;omega,by simp only;omega,U8 hm m1 m2⟩))
    ·exact Ok.pure ⟨n1,n2,by simp,by simp only;rw[wi U U];omega,by simp,λ_=>rfl,λz=>by simp at z,λz=>by simp at z,λz=>by simp at z,λz=>by simp at z⟩
    ·exact(ah' (rd l i) n1 n2).bind λo ho=>Ok.pure ⟨n1,n2,ho⟩
    ·exact Ok.pure ⟨n1,n2,by simp,by simp,by simp,λ_=>rfl,λz=>by simp at z,λz=>by simp at z,λ_=>⟨J,J⟩,λz=>by simp at z⟩
   ·rcases List.mem_append.1 ho with z |z
    ·exact ha o z
    ·simp only[nh,ra,or_false] at z;rw[z];exact hr.2.2
  ·exact fin k a b C x N i aS hx fa ha bK
theorem ahM (w h:Int) {c:List Int} (hc: ∀y∈c,dV y) (l:List pI):Ok (kY.f w h c l) (λr=>r≠[]/\r.length<=61/\ ∀o∈r,vO o):=by
 unfold kY.f;obtain⟨m,em,hm,m1,m2⟩:=Pj w h hc;have:=U9 hm m1 m2;refine Ok.eq em (Ok.eq (Pm hm) (ahN w h hc l 60 fuel _ _ _ _ _ 0 U (by rw[de];omega) U U U bp U (λo ho=>?_) bp))
 simp only[nh,ra,or_false] at ho;rw[ho];exact U8 hm m1 m2
end
def LK (w h:Int) (l:List bD) (j:Int):Prop:=
 (if j=0 then-1 else(rd l (j-1)).Id)<(rd l j).Id/\cV w h (rd l j).Cell/\cV w h (rd l j).Goal/\ ∀q,0<=q->q<j->(rd l q).Cell≠(rd l j).Cell
def tu (w h:Int) (l:List bD):Prop:=iJ w h/\ ∀j:Int,0<=j->j<l.length->LK w h l j
theorem afE {w h:Int} {l:List bD} (hb:l.length<=4611686018427387000): ∀(n k:Nat) (i:Int) (m:List (Int×Bool)),i+n=l.length->0<=i->n<k->
 (∀c,aT m c=true↔ ∃q,0<=q/\q<i/\(rd l q).Cell=c)->
 ∃r,pU.l0 k w h l (if i=0 then-1 else(rd l (i-1)).Id) m i=some r/\(r=true↔ ∀j,i<=j->j<l.length->LK w h l j):=by
 intro n
 induction n with
 |zero=>
  intro k i m hi h0 hk hm;obtain⟨k,rfl⟩:=bw hk;exact⟨true,by rw[pU.l0,ak U],⟨λ_ j j0 j1=>by omega,λ_=>rfl⟩⟩
 |succ n ih=>
  intro k i m hi h0 hk hm;obtain⟨k,rfl⟩:=bw hk;rw[pU.l0,ah U,ah U];simp only[rK,aM]
  by_cases g:LK w h l i
  ·obtain⟨g1,g2,g3,g4⟩:=g;have CD:aT m (rd l i).Cell=false:=by
    rw[Bool.eq_false_iff];intro q;obtain⟨z,z0,z1,z2⟩:=(hm _).1 q;exact g4 z z0 z1 z2
   have s1: ¬aR w h (rd l i).Cell<0:=λq=>Dt.1 q g2
   have s2: ¬aR w h (rd l i).Goal<0:=λq=>Dt.1 q g3
   rw[ak U,ak s1,ak s2,CD];simp only[aM,jk,if_false];rw[wi U U];obtain⟨r,r1,r2⟩:=ih k (i+1) (cQ m (rd l i).Cell true) U U U (λc=>by
    rw[sP]
    by_cases e:(rd l i).Cell=c
    ·rw[ah e];exact⟨λ_=>⟨i,h0,by omega,e⟩,λ_=>rfl⟩
    ·rw[ak e,hm c];constructor
     ·rintro⟨q,q0,q1,q2⟩;exact⟨q,q0,by omega,q2⟩
     ·rintro⟨q,q0,q1,q2⟩
      by_cases z:q=i
      ·subst z;exact absurd q2 e
      ·exact⟨q,q0,by omega,q2⟩)
   rw[ak U,show i+1-1=i by omega] at r1
   refine⟨r,r1,r2.trans ⟨λq j j0 j1=>?_,λq j j0 j1=>q j U j1⟩⟩
   by_cases z:j=i
   ·subst z;exact⟨g1,g2,g3,g4⟩
   ·exact q j U j1
  ·have hf: ∀last,last=(if i=0 then-1 else(rd l (i-1)).Id)->((if(rd l i).Id<=last then(some true) else(if aR w h (rd l i).Cell<0 then(some true) else(if aR w h (rd l i).Goal<0 then(some true) else(some (aT m (rd l i).Cell))))):Option Bool)=some true:=by
    intro last hla
    by_cases a:(rd l i).Id<=last
    ·rw[ah a]
    ·rw[ak a]
     by_cases b:aR w h (rd l i).Cell<0
     ·rw[ah b]
     ·rw[ak b]
      by_cases c:aR w h (rd l i).Goal<0
      ·rw[ah c]
      ·rw[ak c]
       congr 1
       rw[hm];refine pr λq=>g ⟨by rw[<-hla];omega,pr λz=>b (Dt.2 z),pr λz=>c (Dt.2 z),λz z0 z1 z2=>q ⟨z,z0,z1,z2⟩⟩
   rw[hf _ J];simp only[aM,if_true];exact⟨false,J,⟨λq=>(by cases q),λq=>absurd (q i U U) g⟩⟩
theorem VM {w h:Int} {l:List bD} (hb:l.length<=4611686018427387000): ∃r,pU.f w h l=some r/\(r=true↔tu w h l):=by
 unfold pU.f;rw[zT,aM]
 by_cases hm:iJ w h
 ·rw[ak (by simpa using hm)]
  obtain⟨r,r1,r2⟩:=afE (w:=w) (h:=h) hb l.length fuel 0 [] U U (by rw[de];omega) (λc=>by
   constructor
   ·intro q;simp[aT,dW] at q
   ·rintro⟨q,q0,q1,_⟩;omega)
  rw[ah J] at r1;exact⟨r,r1,r2.trans ⟨λq=>⟨hm,q⟩,λq=>q.2⟩⟩
 ·rw[ah (by rw[decide_eq_false hm];rfl)]
  exact⟨false,J,⟨λq=>(by cases q),λq=>absurd q.1 hm⟩⟩
theorem tu.cell {w h:Int} {l:List bD} (hm:tu w h l) {j:Int} (j0:0<=j) (j1:j<l.length):cV w h (rd l j).Cell:=(hm.2 j j0 j1).2.1
theorem tu.apart {w h:Int} {l:List bD} (hm:tu w h l) {i j:Int} (i0:0<=i) (i1:i<l.length) (j0:0<=j) (j1:j<l.length) (GF:i≠j):(rd l i).Cell≠(rd l j).Cell:=by
 rcases Int.lt_or_gt_of_ne GF with q |q
 ·exact(hm.2 j j0 j1).2.2.2 i i0 q
 ·exact λe=>(hm.2 i i0 i1).2.2.2 j j0 q e.symm
theorem tu.ids {w h:Int} {l:List bD} (hm:tu w h l): ∀(n:Nat) (i j:Int),j=i+n->0<=i->0<n->j<l.length->(rd l i).Id<(rd l j).Id:=by
 intro n
 induction n with
 |zero=>intro i j _ _ h;omega
 |succ n ih=>
  intro i j hj i0 _ j1;have h1:=(hm.2 j U j1).1;rw[ak U] at h1
  by_cases hn:n=0
  ·have:j-1=i:=U;rw[this] at h1;exact h1
  ·have:=ih i (j-1) U i0 U U;omega
theorem tu.aeC {w h:Int} {l:List bD} (hm:tu w h l) {i j:Int} (i0:0<=i) (GF:i<j) (j1:j<l.length):(rd l i).Id<(rd l j).Id:=
 hm.ids (j-i).toNat i j U i0 U j1
section
abbrev DV {α:Type} (o:Option α):Prop:=Ok o λ_=>True
theorem Ok.qq {σ β:Type} {F:Nat->σ->Int->Option β} {P:β->Prop} (N:Nat) (hN:N<=1000000) (I:σ->Int->Prop) (fin: ∀k s,I s N->Ok (F (k+1) s N) P) (step: ∀k s (i:Int),0<=i->i<N->I s i->(∀s',I s' (i+1)->Ok (F k s' (i+1)) P)->Ok (F (k+1) s i) P) (s:σ) (h:I s 0):Ok (F fuel s 0) P:=by
 have key: ∀(n k:Nat) (s:σ) (i:Int),i+n=N->n<k->0<=i->I s i->Ok (F k s i) P:=by
  intro n
  induction n with
  |zero=>
   intro k s i h1 h2 h3 h4;obtain⟨k,rfl⟩:=bw h2;have:i=N:=U;subst this;exact fin k s h4
  |succ n ih=>
   intro k s i h1 h2 h3 h4;obtain⟨k,rfl⟩:=bw h2;exact step k s i h3 U h4 λs' a=>ih k s' (i+1) U U U a
 exact key N fuel s 0 U (by rw[de];omega) U h
theorem XD (f:kq) (c:Int):zx.f f c=some (decide (0<=c/\c<f.words.length)):=by
 unfold zx.f
 by_cases h:0<=c
 ·rw[ah U];simp[h]
 ·rw[ak U];simp[h]
theorem LF (f:kq) (c:Int):Ok (rm.f f c) λr=>r≠ -1->0<=c/\c<f.words.length:=by
 unfold rm.f;refine Ok.eq (XD f c) (Ok.ite (λ_=>Ok.pure λh=>absurd J h) λh=>?_);have h:0<=c/\c<(f.words.length:Int):=by simpa using h
 exact Ok.br h (Ok.pure λ_=>h)
theorem XB (f:kq) (c:Int):Ok (zw.f f c) λb=>b=true->0<=c/\c<f.words.length:=by
 unfold zw.f;refine Ok.bind (P:=λb=>b=true->0<=c/\c<f.words.length) (Ok.eq (XD f c) (Ok.ite (λh=>?_) λ_=>Ok.pure bp)) λr hr=>Ok.pure hr
 have h:=of_decide_eq_true h;exact Ok.br h (Ok.pure λ_=>h)
theorem XG (f:kq) (c id:Int):DV (tS.f f c id):=by
 unfold tS.f;refine(XB f c).bind λb hb=>Ok.ite (λ_=>Ok.pure trivial) λh=>Ok.br (hb ?_) (Ok.pure trivial)
 cases b
 ·simp at h
 ·rfl
theorem XH (f:kq) (c:Int):DV (tU.f f c):=by
 unfold tU.f;exact(LF f c).bind λr hr=>Ok.ite (λh=>Ok.br (hr (by simpa using h)) (Ok.pure trivial)) λ_=>Ok.pure trivial
theorem aje (f:kq) (a b:Int):DV (xJ.f f a b):=by
 unfold xJ.f;exact Ok.bind (P:=λ_=>True) ((LF f a).bind λr _=>Ok.ite (λ_=>Ok.pure trivial) λ_=>(XB f b).bind λ_ _=>Ok.pure trivial) λx _=>Ok.ite (λ_=>Ok.pure trivial) λ_=>(XH f a).bind λv _=>(XG v.2 b v.1).bind λw _=>Ok.pure trivial
variable (u : fN) (hb : u.order.length <= 1000)
include hb
theorem Xy:Ok (mZ.f u) λr=>r.length<=u.order.length:=by
 refine Ok.qq (F:=λk s i=>mZ.l0 k u s i) u.order.length U (λs i=>s.length<=i) (λk s c=>?_) (λk s i a b c ih=>?_) [] bp
 ·rw[mZ.l0,ak U];exact Ok.pure U
 ·rw[mZ.l0,wi U U];exact Ok.pos b (Ok.br ⟨a,b⟩ (Ok.ite (λ_=>Ok.br U (ih _ bo)) λ_=>ih _ U))
theorem aiN:Ok (pk.f u) λr=>r.length<=u.order.length:=by
 unfold pk.f;refine(Xy u hb).bind λv hv=>Ok.qq (F:=λk s i=>pk.l0 k u v s i) v.length U (λs i=>s.length<=i) (λk s c=>?_) (λk s i a b c ih=>?_) [] bp
 ·rw[pk.l0,ak U];exact Ok.pure U
 ·rw[pk.l0,wi U U];exact Ok.pos b (Ok.br ⟨a,b⟩ (Ok.br U (ih _ bo)))
theorem aiL (c g:Int):Ok (yS.f u c g) λr=>r.2.2.order.length<=u.order.length+1:=by
 unfold yS.f;exact Ok.ite (λ_=>Ok.pure bp) λ_=>Ok.br U (Ok.pure bp)
theorem aiR (k:Int):Ok (yU.f u k) λr=>r.2.order.length<=u.order.length:=by
 unfold yU.f;refine Ok.eq J (Ok.ite (λ_=>Ok.pure (jW _)) λ_=>Ok.ite (λ_=>?_) λ_=>Ok.pure (jW _));exact(Xy (fN.mk u.most u.next (f_ u.live k) u.order) hb).bind λr hr=>Ok.pure hr
omit hb
theorem aiM (k g:Int):Ok (yT.f u k g) λr=>r.2.order=u.order:=by
 unfold yT.f Au.f;exact Ok.bind (P:=λr:Bool×fN=>r.2.order=u.order) (Ok.eq J (Ok.ite (λ_=>Ok.eq J (Ok.pure J)) λ_=>Ok.pure J)) λr hr=>Ok.pure hr
theorem ai6 (k g:Int):Ok (yW.f u k g) λr=>r.2.order=u.order:=by
 unfold yW.f Av.f;exact Ok.bind (P:=λr:Bool×fN=>r.2.order=u.order) (Ok.eq J (Ok.ite (λ_=>Ok.eq J (Ok.pure J)) λ_=>Ok.pure J)) λr hr=>Ok.pure hr
end
section
theorem ajg (f:rD) (u:bD) (d:Int) (h1:f.j8.length<=1000) (h2:f.gone.length<=1000):Ok (yh.f f u d) λr=>r.2.1.j8.length<=f.j8.length+1/\r.2.1.gone.length<=f.gone.length+1:=by
 unfold yh.f;refine Ok.ite (λ_=>?_) λ_=>Ok.ite (λ_=>?_) λ_=>Ok.ite (λ_=>?_) λ_=>Ok.ite (λ_=>?_) λ_=>Ok.pure ⟨by simp,by simp⟩
 all_goals exact Ok.eq (E9 ..) (Ok.bind (P:=λ_=>True) (Ok.ite (λ_=>Ok.pure trivial) λ_=>Ok.pure trivial) λx _=>Ok.ite (λ_=>Ok.pure ⟨by simp,by simp⟩) λ_=>Ok.br U (Ok.ite (λ_=>Ok.br U (Ok.pure ⟨by simp,by simp⟩)) λ_=>Ok.pure ⟨by simp,by simp⟩))
theorem ai_ (s:List Int) (hb:s.length<=1000):DV (Dz.f s):=by
 unfold Dz.f rP.f;refine Ok.bind (P:=λ_=>True) (Ok.qq (F:=λk (_:Unit) i=>rP.l0 k s i) s.length U (λ_ _=>True) (λk _ _=>?_) (λk _ i a b _ ih=>?_) () trivial) λ_ _=>Ok.pure trivial
 ·rw[rP.l0,ak U];exact Ok.pure trivial
 ·rw[rP.l0,wi U U];exact Ok.pos b (Ok.br ⟨a,b⟩ (Ok.eq J (Ok.ite (λ_=>Ok.pure trivial) λ_=>ih () trivial)))
theorem aiU (w h:Int) (l:List bD) (hJ:List Int) (hb:l.length<=900):Ok (j7.f w h l hJ) λr=>r.2.1.length<=l.length:=by
 obtain⟨m,em,_⟩:=VM (w:=w) (h:=h) (l:=l) U;unfold j7.f;refine Ok.bind (P:=λx=>x=false->hJ.length=l.length) (Ok.eq em (Ok.ite (λ_=>Ok.pure bp) λq=>?_)) λx hx=>Ok.ite (λ_=>Ok.pure bp) λq=>?_
 ·have q:hJ.length=l.length:=by
   cases m
   ·simp at q
   ·have:(hJ.length:Int)=l.length:=by simpa using q
    omega
  exact(ai_ hJ U).bind λ_ _=>Ok.pure λ_=>q
 have hd:=hx (by simpa using q)
 refine Ok.qq (F:=λk s i=>j7.l0 k w h l hJ s i) l.length U (λ_ _=>True) (λk s _=>?_) (λk s i a b _ ih=>?_) [] trivial
 ·rw[j7.l0,ak U];refine Ok.qq (F:=λk (s:List bD×Int×Int×List (Int×Bool)×List gv×List Int) i=>j7.l1 k w h l hJ s.1 s.2.1 s.2.2.1 s.2.2.2.1 s.2.2.2.2.1 s.2.2.2.2.2 i) l.length U (λs i=>s.1.length<=i/\s.2.2.2.2.1.length<=i/\s.2.2.2.2.2.length<=i) (λk s c=>?_) (λk s i a b c ih=>?_) ([],w,h,s,[],[]) bp
  ·rw[j7.l1,ak U];exact Ok.pure (by simp only;omega)
  ·rw[j7.l1,wi U U];refine Ok.pos b (Ok.br ⟨a,b⟩ (Ok.br ⟨a,by omega⟩ ((ajg _ _ _ (by simp only;omega) (by simp only;omega)).bind λr hr=>?_)))
   simp only at hr;exact Ok.ite (λ_=>Ok.br U (ih (s.1++[r.2.2],r.2.1.w,r.2.1.h,r.2.1.kE,r.2.1.j8,r.2.1.gone) ⟨by simp;omega,by simp only;omega,by simp only;omega⟩)) λ_=>ih (s.1,r.2.1.w,r.2.1.h,r.2.1.kE,r.2.1.j8,r.2.1.gone) ⟨by simp only;omega,by simp only;omega,by simp only;omega⟩
 ·rw[j7.l0,wi U U];exact Ok.pos b (Ok.br ⟨a,b⟩ (ih _ trivial))
end
section
variable (c : fA)
theorem ai9 {w h most:Int} (hm:iJ w h) (h1:1<=most) (h2:most<=65536):Ok (xG.f w h most) λr=> ∃c,r=some c/\c.eY.order=[]:=by
 have hp:=pP hm;unfold xG.f Aq.f u_.f;rw[zT,aM,ak (by rw[decide_eq_true hm];simp;omega),ak bo,aM,wi U U,ak bo,ah U]
 exact Ok.pure ⟨_,J,J⟩
theorem XA (x:Int):DV (vZ.f c x):=by
 unfold vZ.f;exact Ok.eq (rK ..) (Ok.pure trivial)
theorem XK (p cell goal:Int):DV (zt.f c p cell goal):=by
 unfold zt.f yV.f
 repeat' first
  |exact Ok.pure trivial
  |refine Ok.ite (λ_=>?_) λ_=>?_
  |refine(XA c _).bind λ_ _=>?_
  |refine(LF _ _).bind λ_ _=>?_
  |refine Ok.bind (P:=λ_=>True) ?_ λ_ _=>?_
variable (hb : c.eY.order.length <= 900)
include hb
theorem P6 (u:bD):Ok (ql.f c u) λr=>r.eY.order.length<=c.eY.order.length:=by
 unfold ql.f;exact(aiR _ U _).bind λv hv=>(XH _ _).bind λ_ _=>Ok.pure hv
theorem ajf (cell goal:Int):Ok (xF.f c cell goal) λr=>r.2.2.eY.order.length<=c.eY.order.length+1:=by
 unfold xF.f;exact(XK c 0 cell goal).bind λv _=>Ok.ite (λ_=>Ok.pure bp) λ_=>(aiL _ U cell goal).bind λa ha=>(XG _ _ _).bind λ_ _=>Ok.pure ha
theorem ajd (id goal:Int):Ok (xE.f c id goal) λr=>r.2.eY.order.length<=c.eY.order.length:=by
 unfold xE.f;exact Ok.eq J (Ok.ite (λ_=>Ok.pure (jW _)) λ_=>(XA c _).bind λ_ _=>Ok.ite (λ_=>Ok.pure (jW _)) λ_=>(XK c 3 _ _).bind λ_ _=>Ok.ite (λ_=>(P6 c hb _).bind λ_ z=>Ok.pure z) λ_=>(aiM _ _ _).bind λ_ z=>Ok.pure (by simp only;rw[z];exact jW _))
theorem aiO (id:Int):Ok (xD.f c id) λr=>r.2.eY.order.length<=c.eY.order.length:=by
 unfold xD.f;exact Ok.eq J (Ok.ite (λ_=>Ok.pure (jW _)) λ_=>(P6 c hb _).bind λ_ z=>Ok.pure z)
theorem XJ:Ok (qk.f c) λr=>r.length<=c.eY.order.length:=by
 unfold qk.f;exact(aiN _ U).bind λ_ z=>Ok.pure z
theorem aji (hJ:List Int):Ok (nV.f c hJ) λr=>r.2.2.2.eY.order.length<=c.eY.order.length:=by
 unfold nV.f;refine(XJ c hb).bind λL hL=>(aiU _ _ L hJ U).bind λv hv=>Ok.ite (λ_=>Ok.pure (jW _)) λ_=>?_
 refine Ok.qq (F:=λk s i=>nV.l0 k v s i) v.2.1.length U (λs _=>s.eY.order.length<=c.eY.order.length) (λk s z=>?_) (λk s i a b z ih=>?_) c (jW _)
 ·rw[nV.l0,ak U];exact Ok.pure z
 ·rw[nV.l0,wi U U];refine Ok.pos b (Ok.br ⟨a,b⟩ (Ok.bind (P:=λ_=>True) (Ok.eq J (Ok.pure trivial)) λy _=>?_));obtain⟨x8,x9,aL⟩:=y;exact Ok.ite (λ_=>(P6 s U _).bind λc' h'=>ih _ U) λ_=>(aje _ _ _).bind λ_ _=>(ai6 _ _ _).bind λm hm=>ih _ (by simp only;rw[hm];exact z)
end
theorem afL {m:List (Int×List gw)} {g:Int} (h:aT m g≠[]):ck m g=true:=by
 unfold ck;unfold aT at h
 cases e:dW m g with
 |none=>rw[e] at h;exact absurd J h
 |some _=>rfl
theorem OP {m:List (Int×List gw)} {g:Int} (v:List gw) (h:ck m g=true) (g':Int):aT (ue m g v) g'=if g=g' then v else aT m g':=by
 unfold ue;rw[ah h,sP]
section
variable {w h : Int} {l : List bD}
theorem aiV (hb:l.length<=100):Ok (pc.f l) λr=>r.length<=l.length/\r.Nodup:=by
 refine Ok.qq (F:=λk (s:List Int×List (Int×Bool)) i=>pc.l0 k l s.1 s.2 i) l.length U (λs i=>s.1.length<=i/\s.1.Nodup/\ ∀c∈s.1,aT s.2 c=true) (λk s c=>?_) (λk s i a b c ih=>?_) ([],[]) bp
 ·rw[pc.l0,ak U];exact Ok.pure ⟨by omega,c.2.1⟩
 ·rw[pc.l0,wi U U];obtain⟨c1,c2,c3⟩:=c;refine Ok.pos b (Ok.br ⟨a,b⟩ (Ok.ite (λq=>Ok.br U (ih (_,_) ⟨by simp;omega,?_,λc hc=>?_⟩)) λ_=>ih (_,_) ⟨by simp only;omega,c2,c3⟩))
  ·rw[List.nodup_append];refine⟨c2,by simp,λx hx y hy=>?_⟩
   simp only[nh,ra,or_false] at hy;subst hy;intro e;subst e;rw[c3 _ hx] at q;simp at q
  ·simp only at hc⊢;rw[sP];split
   ·rfl
   ·rename_i z;rcases List.mem_append.1 hc with y |y
    ·exact c3 c y
    ·simp only[nh,ra,or_false] at y;exact absurd y.symm z
def LR (w h:Int) (l:List bD) (p:gw):Prop:=(∃u∈l,u.Goal=p.Goal/\aR w h u.Cell=p.tA)/\ ∀id∈p.kn,∃u∈l,u.Id=id/\aR w h u.Cell=p.tA
structure PJ (w h:Int) (l:List bD) (i n:Int) (m:List (Int×List gw)) (at':List ((Int×Int)×Int)):Prop where
 ok: ∀g,∀p∈aT m g,LR w h l p/\p.kn.length<=i
 len_: ∀g,(aT m g).length<=n
 place: ∀g s,ck at' (g,s)=true->0<=aT at' (g,s)/\aT at' (g,s)<(aT m g).length/\(rd (aT m g) (aT at' (g,s))).tA=s
theorem aja (hb:l.length<=100):Ok (kA.f w h l) λr=>r.length<=10000/\(r=[]∨tu w h l)/\ ∀p∈r,LR w h l p/\p.kn.length<=100:=by
 obtain⟨b,eb,hm⟩:=VM (w:=w) (h:=h) (l:=l) U;unfold kA.f;refine Ok.eq eb (Ok.ite (λ_=>Ok.pure bp) λq=>?_);have hm:tu w h l:=hm.1 (by simpa using q)
 refine Ok.qq (F:=λk (s:List (Int×List gw)×List ((Int×Int)×Int)) i=>kA.l0 k w h l s.1 s.2 i) l.length U (λs i=>PJ w h l i i s.1 s.2) (λk s c=>?_) (λk s i i0 i1 c ih=>?_) ([],[]) ⟨by simp[aT,dW,show(default:List gw)=[] from rfl],by simp[aT,dW,show(default:List gw)=[] from rfl],by simp[ck,dW]⟩
 ·rw[kA.l0,ak U];refine(aiV hb).bind λG hG=>Ok.qq (F:=λk (t:List Int×List gw) i=>kA.l1 k G s.1 t.1 t.2 i) G.length U (λt i=>(∀g∈t.1,∃j:Int,0<=j/\j<i/\rd G j=g)/\t.2.length<=i*100/\ ∀p∈t.2,LR w h l p/\p.kn.length<=100) (λk t d=>?_) (λk t i i0 i1 d ih=>?_) ([],[]) bp
  ·rw[kA.l1,ak U];exact Ok.pure ⟨by omega,.inr hm,d.2.2⟩
  ·obtain⟨d1,d2,d3⟩:=d;have hl:=c.len_ (rd G i);rw[kA.l1,wi U U];refine Ok.pos i1 (Ok.br ⟨i0,i1⟩ (Ok.br (λz=>?_) (Ok.br U (ih (_,_) ⟨λg hg=>?_,by simp;omega,λp hp=>?_⟩))))
   ·obtain⟨j,j0,j1,e⟩:=d1 _ z;exact yA hG.2 j0 j1 i1 e
   ·rcases List.mem_cons.1 hg with rfl |hg
    ·exact⟨i,i0,by omega,J⟩
    ·obtain⟨j,j0,j1,e⟩:=d1 g hg;exact⟨j,j0,by omega,e⟩
   ·rcases List.mem_append.1 hp with z |z
    ·exact d3 p z
    ·have:=c.ok _ p z;exact⟨this.1,by omega⟩
 ·rw[kA.l0,wi U U];have hu:=fS i0 i1;generalize rd l i=u at hu⊢;refine Ok.pos i1 (Ok.bind (P:=λr=>PJ w h l (i+1) (i+1) r.1 r.2) (Ok.br ⟨i0,i1⟩ (Ok.eq (rK ..) (Ok.bind (P:=λr=>PJ w h l i (i+1) r.1 r.2.1/\ck r.1 u.Goal=true/\0<=r.2.2/\r.2.2<(aT r.1 u.Goal).length/\(rd (aT r.1 u.Goal) r.2.2).tA=aR w h u.Cell) (Ok.ite (λq=>?_) λq=>?_) λr hr=>?_))) λr hr=>ih (_,_) hr)
  ·have q:ck s.2 (u.Goal,aR w h u.Cell)=false:=by simpa using q
   have hl:=c.len_ u.Goal;refine Ok.br U (Ok.pure ⟨⟨λg p hp=>?_,λg=>?_,λg t hh=>?_⟩,by simp only;rw[Va];simp,by simp only;omega,by simp only;rw[sP,ah J];simp;omega,?_⟩)
   ·simp only at hp;rw[sP] at hp;split at hp
    ·rename_i e;subst e;rcases List.mem_append.1 hp with z |z
     ·exact c.ok _ p z
     ·simp only[nh,ra,or_false] at z;subst z;exact⟨⟨⟨u,hu,J,J⟩,by simp⟩,by simp;omega⟩
    ·exact c.ok _ p hp
   ·simp only;rw[sP];split
    ·simp;omega
    ·have:=c.len_ g;omega
   ·simp only at hh⊢;rw[Va] at hh;rw[sP,sP]
    by_cases e:(u.Goal,aR w h u.Cell)=(g,t)
    ·obtain⟨e1,e2⟩:=Prod.mk.inj e;rw[ah e,ah e1,HI U U,ah J];exact⟨by omega,by simp;omega,e2⟩
    ·rw[ak e];simp only[e,decide_false,Bool.false_or] at hh;obtain⟨p1,p2,p3⟩:=c.place g t hh;split
     ·rename_i e1;rw[e1] at hl⊢;rw[HI p1 U,ak U];exact⟨p1,by simp;omega,p3⟩
     ·exact⟨p1,p2,p3⟩
   ·simp only;rw[sP,ah J,HI U U,ah J]
  ·have q:ck s.2 (u.Goal,aR w h u.Cell)=true:=by simpa using q
   obtain⟨p1,p2,p3⟩:=c.place _ _ q;refine Ok.pure ⟨⟨c.ok,λg=>by have:=c.len_ g;simp only;omega,c.place⟩,afL λz=>?_,p1,p2,p3⟩
   rw[z] at p2;simp at p2;omega
  ·obtain⟨m,a,j⟩:=r;simp only at hr⊢;obtain⟨c,r1,r2,r3,r4⟩:=hr;have N':=fS r2 r3;have hk:=c.ok _ _ N';refine Ok.br ⟨r2,r3⟩ (Ok.br U (Ok.pure ⟨λg p hp=>?_,λg=>?_,λg t hh=>?_⟩))
   ·simp only at hp;rw[OP _ r1] at hp;split at hp
    ·rename_i e;subst e;rcases List.mem_or_eq_of_mem_set hp with z |z
     ·have:=c.ok _ p z;exact⟨this.1,by omega⟩
     ·subst z;refine⟨⟨hk.1.1,λid hid=>?_⟩,by simp;omega⟩
      rcases List.mem_append.1 hid with y |y
      ·exact hk.1.2 id y
      ·simp only[nh,ra,or_false] at y;exact⟨u,hu,y.symm,r4.symm⟩
    ·have:=c.ok _ p hp;exact⟨this.1,by omega⟩
   ·simp only;rw[OP _ r1];have:=c.len_ g;split
    ·rename_i e;subst e;simpa using this
    ·exact this
   ·simp only at hh⊢;obtain⟨p1,p2,p3⟩:=c.place g t hh;rw[OP _ r1];split
    ·rename_i e;subst e;rw[mr r2 r3 p1];refine⟨p1,by simpa using p2,?_⟩
     split
     ·rename_i z;rw[z] at p3;exact p3
     ·exact p3
    ·exact⟨p1,p2,p3⟩
end
section
variable {S : cg} {k most b : Int} {L : List bD}
theorem Vk {n:cI} {ord:List Int} {c:fe} (hn:jF n k b ord) (hb:0<=b/\b<=100000000000) (hc:n.core=some c) {goal s:Int} (hg:bS c.aK.m goal) (hs:bC c.aK.m.W c.aK.m.H s):
 ∃f n',rE.f n goal s=some (f,0,n')/\DN n k b ord c goal s (f,Er.nil,n'):=by
 obtain⟨⟨f,e,n'⟩,er,hr⟩:=Vj hn hb hc hg hs;have he:=hr.err;simp only at he;subst he;refine⟨f,n',?_,hr⟩;unfold rE.f;rw[er,aM];simp only[Vg,aM]
theorem MW {n:cI} {ord:List Int} {c:fe} {goal s:Int} {r:eJ×Er×cI} (h:DN n k b ord c goal s r):(∃ui,jF r.2.2 k (b+5000) ui)/\(∃c',r.2.2.core=some c'/\c'.aK=c.aK)/\r.1.cx.length=(dG c.aK.m s).C.length:=by
 obtain⟨R,l,c',ui,f1,f2,f3,f4,f5,f6,f7,f8,f9,f10,f11,f12,f13,f14,f15,f16,_⟩:=h.Gd;exact⟨⟨ui,f16⟩,⟨c',f7,f8⟩,f6.dl⟩
theorem aiP {c:fe} {ord:List Int} (hn:jF S.nav k b ord) (hb:0<=b/\b<=50000000000) (hc:S.nav.core=some c) (hL:L.length<=100):
 Ok (fB.f S L) λr=>r.2.1=Er.nil/\ ∃nv ui,r.2.2=⟨S.most,nv,S.fE⟩/\jF nv k (b+50000000) ui/\ ∃c',nv.core=some c':=by
 unfold fB.f;refine Ok.eq (Vp hc) (Ok.qq (F:=λk x i=>fB.l0 k S L (c.aK.m.W,c.aK.m.H) x i) L.length U (λx i=>tu c.aK.m.W c.aK.m.H L-> ∀j:Int,0<=j->j<i->aT x (rd L j).Id=cE c.aK.m.W c.aK.m.H (rd L j).Cell) (λq x hx=>?_) (λq x i a b hx ih=>?_) [] (λ_ j j0 j1=>by omega))
 ·rw[fB.l0,ak U];refine(aja hL).bind λps ⟨ry,N',Ob⟩=>?_
  refine Ok.qq (F:=λk (s:cI×List (Int×Int)) i=>fB.l1 k S L x ps s.1 s.2 i) ps.length U (λs i=> ∃ord,jF s.1 k (b+5000*i) ord/\ ∃c',s.1.core=some c'/\c'.aK=c.aK) (λq s hs=>?_) (λq s i i0 i1 hs ih=>?_) (S.nav,[]) ⟨ord,by simpa using hn,c,hc,J⟩
  ·obtain⟨ui,h1,c',h2,h3⟩:=hs;rw[fB.l1,ak U];refine Ok.qq (F:=λk y i=>fB.l3 k S L s.1 s.2 y i) L.length U (λy i=>y.length<=i) (λq y hy=>?_) (λq y i i0 i1 hy ih=>?_) [] bp
   ·rw[fB.l3,ak U];exact Ok.pure ⟨J,s.1,ui,J,h1.mono U,c',h2⟩
   ·rw[fB.l3,wi U U];exact Ok.pos i1 (Ok.br ⟨i0,i1⟩ (Ok.br U (ih _ bo)))
  ·obtain⟨nv,D⟩:=s;obtain⟨ui,h1,c',h2,h3⟩:=hs;simp only at h1 h2;have hp:=fS i0 i1;obtain⟨⟨⟨u,hu,u1,u2⟩,aeq⟩,hil⟩:=Ob _ hp;have hm:tu c.aK.m.W c.aK.m.H L:=N'.resolve_left λz=>by rw[z] at hp;simp at hp
   have hG:=(h1.core c' h2).1.gs;have gC: ∀u∈L,cV c.aK.m.W c.aK.m.H u.Cell/\cV c.aK.m.W c.aK.m.H u.Goal:=λu hu=>by
    obtain⟨j,j0,j1,rfl⟩:=qD hu;exact⟨(hm.2 j j0 j1).2.1,(hm.2 j j0 j1).2.2.1⟩
   obtain⟨f,n',ef,hf⟩:=Vk h1 ⟨by omega,by omega⟩ h2 (goal:=(rd ps i).Goal) (s:=(rd ps i).tA) (by rw[h3,<-u1];exact(gC u hu).2.2) (by rw[h3,<-u2];exact pe (gC u hu).1)
   obtain⟨⟨o2,f1⟩,⟨c2,f2,f3⟩,f4⟩:=MW hf;simp only at f1 f2 f4;rw[fB.l1,wi (x:=i+1) U U];refine Ok.pos i1 (Ok.bind (P:=λz=> ∃D',z=Sum.inr (n',D')) (Ok.br ⟨i0,i1⟩ (Ok.bind (P:=λp=>p=(n',f.cN,f.cx,(0:Int))) (Ok.eq ef (Ok.pure J)) λp hp=>?_)) λz hz=>?_)
   ·subst hp;refine Ok.neg bp (Ok.qq (F:=λk y j=>fB.l2 k x i ps n' f.cx y j) (rd ps i).kn.length U (λ_ _=>True) (λq y _=>?_) (λq y j j0 j1 _ ih=>?_) D trivial)
    ·rw[fB.l2,ak U];exact Ok.pure ⟨_,J⟩
    ·rw[fB.l2,wi U U];refine Ok.pos j1 (Ok.br ⟨j0,j1⟩ (Ok.br ?_ (ih _ trivial)));obtain⟨v,hv,v1,v2⟩:=aeq _ (fS j0 j1);obtain⟨t,t0,t1,rfl⟩:=qD hv;have:=uy hG (c:=(rd L t).Cell) (by rw[h3];exact(gC _ hv).1.2)
     rw[<-v1,hx hm t t0 t1,f4,<-v2,<-h3];exact⟨this.1,this.2.1⟩
   ·obtain⟨D',rfl⟩:=hz;exact ih (n',D') ⟨o2,by simp only;rw[show b+5000*(i+1)=b+5000*i+5000 by omega];exact f1,c2,f2,by rw[f3,h3]⟩
 ·rw[fB.l0,wi U U];refine Ok.pos b (Ok.br ⟨a,b⟩ (Ok.eq (G8 ..) (ih _ λhm j j0 j1=>?_)));rw[sP]
  by_cases z:j=i
  ·subst z;rw[ah rfl]
  ·have:=hm.aeC j0 (show j<i by omega) b
   rw[ak U];exact hx hm j j0 U
structure uT (S:cg) (k most b:Int):Prop where
 m_:S.most=most
 mb:1<=most/\most<=100
 nav: ∃ord,jF S.nav k b ord
 cr:(S.nav.core=none/\S.fE=none)∨ ∃c C,S.nav.core=some c/\S.fE=some C/\60000000*(C.eY.order.length:Int)<=b
theorem uT.mono {b':Int} (h:uT S k most b) (hb:b<=b'):uT S k most b':=by
 obtain⟨ord,hn⟩:=h.nav;refine⟨h.m_,h.mb,⟨ord,hn.mono hb⟩,?_⟩;rcases h.cr with z |⟨c,C,h1,h2,h3⟩
 ·exact .inl z
 ·exact .inr ⟨c,C,h1,h2,by omega⟩
structure WE (k most b:Int) (S:cg) (o:eG) (e:Er) (S':cg):Prop where
 sv:uT S' k most b
 core:((∃c,S.nav.core=some c)∨(o.Kind=1/\ ∃m,tJ.f o.Map=some (m,0)))-> ∃c',S'.nav.core=some c'
 er:e=Er.nil∨e=Er.dR 0∨ ∃c,e=Er.num 148 c
theorem LD (c:Int):Ok (fV.f c) λe=>e=Er.nil∨e=Er.dR 0∨ ∃c,e=Er.num 148 c:=by
 unfold fV.f;exact Ok.ite (λ_=>Ok.pure (.inl J)) λ_=>Ok.pure (.inr (.inr ⟨c,J⟩))
abbrev a0:mJ:=mJ.mk 0 0 5 (-1) [] [] (g_.mk 0 0 0 0 0 0)
variable (h : uT S k most b) (hb : 0 <= b /\ b <= 5000000000) {o : eG} (ho : vO o)
include h hb
omit hb in
theorem DI {e:Er} (he:e=Er.nil∨e=Er.dR 0∨ ∃c,e=Er.num 148 c) (hk:o.Kind≠1):WE k most (b+60000000) S o e S:=
 ⟨h.mono U,λz=>z.resolve_right λy=>hk y.1,he⟩
include ho
theorem ai5 (hk:o.Kind=1):Ok (yN.f S o.Map) λr=>WE k most (b+60000000) S o r.1 r.2:=by
 obtain⟨l1,l2,l3,l4,l5⟩:=ho.ld hk;obtain⟨ord,hn⟩:=h.nav;unfold yN.f;obtain⟨v,ev,hv⟩:=YB l1 l3;refine Ok.eq ev ?_;rcases hv with q |⟨q1,q2,q3,q4,q5⟩
 ·refine Ok.pos (by rcases q with q |q<;>simp[q]) (Ok.pure ⟨h.mono U,λz=>z.resolve_right λ⟨_,m,em⟩=>?_,.inr (.inr ⟨6,rfl⟩)⟩)
  rw[ev] at em;have:=Option.some.inj em;rw[this] at q;simp at q
 ·refine Ok.neg (by simp[q1]) ?_
  have N8:Ql v.1:=⟨q2,q3,by
   have:=q2.1;have:v.1.W*v.1.H<=40*40:=kU U U U U;omega⟩
  obtain⟨n',c',e,e1,e2,_⟩:=agb hn ⟨hb.1,by omega⟩ N8
  have T9:=h.mb;obtain⟨_,eC,C,rfl,hC⟩:=ai9 (w:=v.1.W) (h:=v.1.H) (most:=most) q2.1 T9.1 U;refine Ok.eq e (Ok.pos J ?_);rw[h.m_];exact Ok.eq eC (Ok.opt (Ok.eq J (Ok.pure ⟨⟨J,T9,⟨[],e2.mono U⟩,.inr ⟨c',C,e1,J,by rw[hC];simp;omega⟩⟩,λ_=>⟨c',e1⟩,.inl J⟩)))
variable {c : fe} {C : fA} (h1 : S.nav.core = some c) (h2 : S.fE = some C) (h3 : 60000000 * (C.eY.order.length : Int) <= b)
include h1 h2 h3
omit hb ho h2 in
theorem P7 {C':fA} (hC:(C'.eY.order.length:Int)<=C.eY.order.length+1) {e:Er} (he:e=Er.nil∨e=Er.dR 0∨ ∃c,e=Er.num 148 c):WE k most (b+60000000) S o e ⟨S.most,S.nav,some C'⟩:=by
 obtain⟨ord,hn⟩:=h.nav;exact⟨⟨h.m_,h.mb,⟨ord,hn.mono U⟩,.inr ⟨c,C',h1,J,by omega⟩⟩,λ_=>⟨c,h1⟩,he⟩
theorem aiS (hk:o.Kind=2) (hA:bS c.aK.m o.A):Ok (yM.f S o.A o.B) λr=>WE k most (b+60000000) S o r.1 r.2:=by
 have hB:=ho.b2 hk;obtain⟨ord,hn⟩:=h.nav;have no: ∀c,WE k most (b+60000000) S o (Er.num 148 c) S:=λc=>DI h (.inr (.inr ⟨c,J⟩)) U;unfold yM.f;refine Ok.ite (λq=>Ok.pure (no _)) λq=>?_
 have q: ¬(o.B<1∨o.B>255):=by simpa using q
 rw[h2];refine Ok.bind (P:=λ_=>True) (Ok.opt (Ok.ite (λ_=>by unfold D9.f;exact Ok.bind (P:=λ_=>True) ((LF _ _).bind λ_ _=>Ok.pure trivial) λ_ _=>Ok.pure trivial) λ_=>Ok.pure trivial)) λx _=>Ok.ite (λz=>Ok.pure (no _)) λz=>?_
 obtain⟨n',e1,e2,e3,e4,e5,e6⟩:=af8 hn ⟨hb.1,by omega⟩ h1 hA U hB
 exact Ok.eq e1 (Ok.eq J (Ok.pure ⟨⟨h.m_,h.mb,⟨ord,e5.mono U⟩,.inr ⟨_,C,e2,J,by omega⟩⟩,λ_=>⟨_,e2⟩,.inl J⟩))
omit ho in
theorem ajc (hk:o.Kind=6):Ok (yO.f S a0 o.A o.B) λr=>WE k most (b+60000000) S o r.1 r.2.1:=by
 obtain⟨ord,hn⟩:=h.nav;unfold yO.f;refine(agc hn ⟨hb.1,by omega⟩ h1 o.A o.B).bind λv hv=>?_
 rcases hv with⟨_,_,a3,f,a4,_⟩ |⟨_,a2,a3⟩
 ·obtain⟨⟨o2,f1⟩,⟨c2,f2,f3⟩,_⟩:=MW a4;rw[a3];exact Ok.pos J (Ok.eq J (Ok.pure ⟨⟨h.m_,h.mb,⟨o2,f1.mono U⟩,.inr ⟨c2,C,f2,h2,by omega⟩⟩,λ_=>⟨c2,f2⟩,.inl J⟩))
 ·rw[a2,a3];exact Ok.neg bp (Ok.eq J (Ok.pure (DI h (.inr (.inr ⟨7,J⟩)) U)))
omit ho in
theorem ajh:Ok (yP.f S a0) λr=>WE k most (b+60000000) S o r.1 r.2.1:=by
 obtain⟨ord,hn⟩:=h.nav;unfold yP.f;rw[h2];refine Ok.opt ((XJ C U).bind λL hL=>(aiP hn ⟨hb.1,by omega⟩ h1 U).bind λr hr=>?_)
 obtain⟨r1,nv,ui,r2,r3,c',r4⟩:=hr;rw[r1,r2];refine Ok.neg (by simp[Er.isNil]) ?_
 simp only[h2];exact Ok.opt ((aji C U _).bind λv hv=>(LD _).bind λe he=>Ok.pure ⟨⟨h.m_,h.mb,⟨ui,r3.mono U⟩,.inr ⟨c',_,r4,J,by omega⟩⟩,λ_=>⟨c',r4⟩,he⟩)
omit h1 h2 h3
theorem aiQ:Ok (yL.f S o a0) λr=>WE k most (b+60000000) S o r.1 r.2.1:=by
 obtain⟨ord,hn⟩:=h.nav;have hkr:=ho.k;unfold yL.f
 by_cases N1:o.Kind=0
 ·rw[ah (by simpa using N1)]
  exact Ok.eq J (Ok.pos J (Ok.pure (DI h (.inr (.inl J)) U)))
 rw[ak (by simpa using N1),ags ho N1]
 refine Ok.eq J (Ok.neg bp ?_);refine Ok.bind (P:=λx=>(x=true->o.Kind≠1)/\(x=false->S.fE=none->o.Kind=1∨o.Kind=8)) ?_ λx hx=>Ok.ite (λz=>Ok.pure (DI h (.inr (.inr ⟨4,J⟩)) (hx.1 z))) λz=>Ok.bind (P:=λe=>(e=Er.nil/\(o.Kind=2-> ∃c,S.nav.core=some c/\bS c.aK.m o.A))∨(e=Er.num 148 7/\o.Kind≠1)) ?_ λe he=>?_
 ·cases hc:S.fE with
  |none=>
   by_cases k1:o.Kind=1
   ·exact Ok.Vy (Ok.neg (by simp[k1]) (Ok.pure ⟨by simp,λ_ _=> .inl k1⟩))
   ·exact Ok.Vy (Ok.pos (by simp[k1]) (Ok.pure ⟨λ_=>k1,λy _=> .inr (by simpa using y)⟩))
  |some C=>exact Ok.opt (Ok.pure ⟨by simp,λ_ y=>by simp at y⟩)
 ·have wD:=hx.2 (by simpa using z)
  rcases h.cr with⟨n1,n2⟩ |⟨c,C,h1,h2,h3⟩
  ·have:=wD n2;unfold yK.f;exact Ok.neg bo (Ok.neg bo (Ok.pure (.inl ⟨J,λ_=>by omega⟩)))
  ·have b_: ∀x,je c.aK x≠0->bS c.aK.m x:=λx hx=>pr λz=>hx (by unfold je;rw[ak z])
   unfold yK.f;refine Ok.ite (λq=>Ok.eq (KU hn h1 _) (Ok.ite (λ_=>Ok.pure (.inr ⟨J,by simp at q;omega⟩)) λ_=>Ok.eq (KU hn h1 _) (Ok.ite (λ_=>Ok.pure (.inr ⟨J,by simp at q;omega⟩)) λ_=>Ok.pure (.inl ⟨J,λ_=>by simp at q;omega⟩)))) λ_=>Ok.ite (λq=>Ok.eq (KU hn h1 _) (Ok.ite (λ_=>Ok.pure (.inr ⟨J,by simp at q;omega⟩)) λy=>Ok.pure (.inl ⟨J,λ_=>⟨c,h1,b_ _ (by simpa using y)⟩⟩))) λq=>Ok.pure (.inl ⟨J,λy=>by simp at q;omega⟩)
 rcases he with⟨rfl,b_⟩ |⟨rfl,h8⟩
 rotate_left
 ·exact Ok.pos J (Ok.pure (DI h (.inr (.inr ⟨7,J⟩)) h8))
 refine Ok.neg (by simp[Er.isNil]) (Ok.bind (P:=λr=>WE k most (b+60000000) S o r.1 r.2.2.2.2.2.2.2.2.2.2.2.2.2) (Ok.ite (λq=>(ai5 h hb ho (by simpa using q)).bind λv hv=>Ok.pure hv) λk1=>Ok.ite (λq=>?_) λk8=>?_) λr hr=>Ok.pure hr)
 ·obtain⟨n',e1,e2,_,_,_,e6⟩:=af' hn;have k8:o.Kind=8:=by simpa using q
  refine Ok.eq e1 (Ok.pure ⟨⟨h.m_,h.mb,⟨[],e2.mono U⟩,?_⟩,λy=>?_,.inl J⟩)
  ·rcases h.cr with⟨n1,n2⟩ |⟨c,C,h1,h2,h3⟩
   ·rcases e6 with e6 |⟨c,e6,_⟩
    ·exact .inl ⟨e6.2,n2⟩
    ·rw[n1] at e6;simp at e6
   ·rcases e6 with e6 |⟨c2,_,e6⟩
    ·rw[h1] at e6;simp at e6
    ·exact .inr ⟨_,C,e6,h2,by omega⟩
  ·rcases e6 with e6 |⟨c2,_,e6⟩
   ·rcases y with⟨c,y⟩ |y
    ·rw[e6.1] at y;simp at y
    ·omega
   ·exact⟨_,e6⟩
 have k1:o.Kind≠1:=by simpa using k1
 have k8:o.Kind≠8:=by simpa using k8
 rcases h.cr with⟨n1,n2⟩ |⟨c,C,h1,h2,h3⟩
 ·have:=hx.2 (by simpa using z) n2;omega
 refine Ok.ite (λq=>?_) λk2=>Ok.ite (λq=>?_) λk3=>Ok.ite (λq=>?_) λk4=>Ok.ite (λq=>?_) λk5=>Ok.ite (λq=>?_) λk6=>Ok.ite (λq=>?_) λk7=>Ok.pure (DI h (.inl J) k1)
 ·obtain⟨c',y1,y2⟩:=b_ (by simpa using q)
  exact(aiS h hb ho y1 h2 h3 (by simpa using q) y2).bind λv hv=>Ok.pure hv
 ·unfold Ao.f;exact Ok.bind (P:=λr=>WE k most (b+60000000) S o r.2.1 r.2.2) (Ok.eq (KU hn h1 _) (Ok.ite (λ_=>Ok.pure (DI h (.inr (.inr ⟨9,J⟩)) k1)) λ_=>by
   rw[h2];exact Ok.opt ((ajf C U _ _).bind λv hv=>(LD _).bind λe he=>Ok.pure (P7 h h1 h3 U he)))) λv hv=>Ok.pure hv
 ·rw[h2];exact Ok.opt ((ajd C U _ _).bind λv hv=>(LD _).bind λe he=>Ok.pure (P7 h h1 h3 U he))
 ·rw[h2];exact Ok.opt ((aiO C U _).bind λv hv=>(LD _).bind λe he=>Ok.pure (P7 h h1 h3 U he))
 ·exact(ajc h hb h1 h2 h3 (by simpa using q)).bind λv hv=>Ok.pure hv
 ·exact(ajh h hb h1 h2 h3).bind λv hv=>Ok.pure hv
theorem aiI:Ok (mu.f S o) λr=> ∃e,WE k most (b+60000000) S o e r.2:=by
 unfold mu.f;refine(aiQ h hb ho).bind λr hr=>?_
 obtain⟨ord,hn⟩:=hr.sv.nav;have mo:An.f r.2.1=some (jB r.2.1.nav):=by
  unfold An.f;rw[ain hn ⟨by omega,by omega⟩];rfl
 have her:=hr.er;rcases her with e |e |⟨c,e⟩
 ·exact Ok.neg (by rw[e];simp[Er.isNil]) (Ok.eq mo (Ok.pure ⟨_,hr⟩))
 ·exact Ok.pos (by rw[e];rfl) (Ok.eq (v:=5) (by rw[e];rfl) (Ok.eq mo (Ok.pure ⟨_,hr⟩)))
 ·exact Ok.pos (by rw[e];rfl) (Ok.eq (v:=c) (by rw[e];rfl) (Ok.eq mo (Ok.pure ⟨_,hr⟩)))
end
def Hk (l:List cP):Prop:= ∀j:Int,1<=j->j<l.length->(rd l ((j-1)/2)).key<=(rd l j).key
def XX (l:List cP) (i:Int):Prop:=(∀j:Int,1<=j->j<l.length->j≠i->(rd l ((j-1)/2)).key<=(rd l j).key)/\ ∀j:Int,1<=j->j<l.length->(j-1)/2=i->1<=i->(rd l ((i-1)/2)).key<=(rd l j).key
def Fw (l:List cP) (i:Int):Prop:=(∀j:Int,1<=j->j<l.length->(j-1)/2≠i->(rd l ((j-1)/2)).key<=(rd l j).key)/\ ∀j:Int,1<=j->j<l.length->(j-1)/2=i->1<=i->(rd l ((i-1)/2)).key<=(rd l j).key
theorem aer {l:List cP} (h:Hk l): ∀(n:Nat) (j:Int),j.toNat<=n->0<=j->j<l.length->(rd l 0).key<=(rd l j).key:=by
 intro n
 induction n with
 |zero=>intro j hn h0 h1;rw[show j=0 by omega];exact dU _
 |succ n ih=>
  intro j hn h0 h1
  by_cases z:j=0
  ·rw[z];exact dU _
  ·have a:=h j U h1;have b:=ih ((j-1)/2) U U U;omega
theorem Jr {a b:cP}:(Cl a b=true->a.key<=b.key)/\(Cl a b=false->b.key<=a.key):=by
 unfold Cl
 by_cases h:a.key<b.key
 ·simp[h];omega
 ·by_cases g:a.key=b.key
  ·simp[h,g]
  ·simp[h,g];omega
theorem BG {l:List cP} {i j c:Int} (i0:0<=i) (i1:i<l.length) (j0:0<=j) (j1:j<l.length) (c0:0<=c):rd (aD (aD l i.toNat (rd l j)) j.toNat (rd l i)) c=if c=j then rd l i else if c=i then rd l j else rd l c:=by
 rw[Bl j0 (by simpa using j1) c0,Bl i0 i1 c0]
theorem aiE: ∀(n k:Nat) (l:List cP) (i:Int),i.toNat<=n->n<k->0<=i->i<l.length->l.length<=1099511627776->XX l i->Ok (mP.l0 k l i) (λh=>Hk h.l):=by
 intro n
 induction n with
 |zero=>
  intro k l i hn hk h0 hi hb hu;obtain⟨k,rfl⟩:=bw hk;rw[mP.l0,ak U];exact Ok.pure λj j1 j2=>hu.1 j j1 j2 U
 |succ n ih=>
  intro k l i hn hk h0 hi hb hu;obtain⟨k,rfl⟩:=bw hk;rw[mP.l0];refine Ok.ite (λhp=>?_) (λhp=>Ok.pure λj j1 j2=>hu.1 j j1 j2 U);have ew:af (di (af (i-1)) 2)=(i-1)/2:=by rw[wi (x:=i-1) U U,qe U,wi U U]
  simp only[ew];refine Ok.br U (Ok.br U (Ok.eq (Jq _ _) (Ok.ite (λq=>Ok.pure λj j1 j2=>?_) λq=>Ok.br bo ?_)))
  ·have q:Cl (rd l i) (rd l ((i-1)/2))=false:=by simpa using q
   by_cases z:j=i
   ·rw[z];exact Jr.2 q
   ·exact hu.1 j j1 j2 z
  ·have q:Cl (rd l i) (rd l ((i-1)/2))=true:=by simpa using q
   have hq:=Jr.1 q;refine ih k _ ((i-1)/2) U U U bo (by simpa using hb) ⟨λj j1 j2 hj=>?_,λj j1 j2 hj i1=>?_⟩
   ·simp only[nO] at j2;rw[BG h0 hi U U U,BG h0 hi U U U,ak hj]
    by_cases z:j=i
    ·subst z;rw[ah rfl,ah rfl];exact hq
    ·rw[ak z]
     by_cases y:(j-1)/2=(i-1)/2
     ·rw[ah y];have:=hu.1 j j1 j2 z;rw[y] at this;omega
     ·rw[ak y]
      by_cases x:(j-1)/2=i
      ·rw[ah x];exact hu.2 j j1 j2 x U
      ·rw[ak x];exact hu.1 j j1 j2 z
   ·simp only[nO] at j2;have Oa:=hu.1 ((i-1)/2) i1 U U;rw[BG h0 hi U U U,BG h0 hi U U U,ak U,ak U,ak U]
    by_cases z:j=i
    ·rw[ah z];exact Oa
    ·rw[ak z];have:=hu.1 j j1 j2 z;rw[hj] at this;omega
theorem agF (h:eP) (k i:Int) (hb:h.l.length<1099511627776) (ho:Hk h.l):Ok (mO.f h k i) (λr=>r.l.length=h.l.length+1/\(∀e,e∈r.l↔e∈h.l∨e=⟨k,i⟩)/\Hk r.l):=by
 obtain⟨r,er,r1,r2⟩:=EL h k i hb;refine⟨r,er,r1,r2,?_⟩;unfold mO.f mP.f at er;rw[ah U] at er;simp only[zg,tz,List.length_nil] at er;rw[wi U U] at er;obtain⟨q,eq,hq⟩:=aiE h.l.length fuel (h.l++[⟨k,i⟩]) (((h.l.length+(0+1):Nat):Int)-1) U (by rw[de];omega) U bo bo ⟨λj j1 j2 hj=>by
  simp only[zg,tz,List.length_nil] at j2;rw[Wv U U,Wv U U,ak U,ak U];exact ho j j1 U,λj j1 j2 hj _=>by
  simp only[zg,tz,List.length_nil] at j2;omega⟩
 rw[eq,aM] at er;simp only[Option.some.injEq] at er;rw[<-er];exact hq
theorem aa7: ∀(n k:Nat) (l:List cP) (i m j:Int),(2*i+3-j).toNat<=n->n<k->0<=i->i<l.length->(m=i∨(i<m/\(m-1)/2=i))->m<l.length->i<j->2*i+1<=j->l.length<=1099511627776->Fw l i->(rd l m).key<=(rd l i).key->(∀c:Int,2*i+1<=c->c<j->c<=2*i+2->c<l.length->(rd l m).key<=(rd l c).key)->
 Ok (gk.l1 k l i m j) (λr=>(r=Sum.inl ⟨l⟩/\Hk l)∨ ∃l' m',r=Sum.inr (l',m')/\l'.length=l.length/\i<m'/\m'<l.length/\Fw l' m'):=by
 have fin: ∀(l:List cP) (i m j:Int),0<=i->i<l.length->(m=i∨(i<m/\(m-1)/2=i))->m<l.length->l.length<=1099511627776->Fw l i->(rd l m).key<=(rd l i).key->(∀c:Int,2*i+1<=c->c<=2*i+2->c<l.length->(rd l m).key<=(rd l c).key)->
  Ok (if(m==i)=true then(some (Sum.inl (eP.mk l))) else(if(0<=m/\m<(aa l:Int)) then(if(0<=i/\i<(aa l:Int)) then(if(0<=m/\m<(aa (aD l (ax i) (rd l m)):Int)) then(some (Sum.inr ((aD (aD l (ax i) (rd l m)) (ax m) (rd l i)),m))) else none) else none) else none)) (λr=>(r=Sum.inl ⟨l⟩/\Hk l)∨ ∃l' m',r=Sum.inr (l',m')/\l'.length=l.length/\i<m'/\m'<l.length/\Fw l' m'):=λl i m j i0 i1 hm m1 hb hd Ep wA=>by
  refine Ok.ite (λq=>Ok.pure (.inl ⟨J,λc c1 c2=>?_⟩)) λq=>?_
  ·have q:m=i:=by simpa using q
   by_cases z:(c-1)/2=i
   ·rw[z,<-q];exact wA c U U c2
   ·exact hd.1 c c1 c2 z
  ·have q:m≠i:=by simpa using q
   obtain⟨m2,m3⟩:=hm.resolve_left q;refine Ok.br U (Ok.br U (Ok.br bo (Ok.pure (.inr ⟨_,_,J,by simp,m2,m1,λc c1 c2 hc=>?_,λc c1 c2 hc _=>?_⟩))))
   ·simp only[nO] at c2;rw[BG i0 i1 U m1 U,BG i0 i1 U m1 U,ak hc]
    by_cases z:(c-1)/2=i
    ·rw[ah z]
     by_cases y:c=m
     ·rw[ah y];exact Ep
     ·rw[ak y,ak U];exact wA c U U c2
    ·rw[ak z]
     by_cases y:c=m
     ·exact absurd (by rw[y];exact m3) z
     ·rw[ak y]
      by_cases x:c=i
      ·rw[ah x];have:=hd.2 m U m1 m3 U;rw[x];exact this
      ·rw[ak x];exact hd.1 c c1 c2 z
   ·simp only[nO] at c2;rw[BG i0 i1 U m1 U,BG i0 i1 U m1 U,m3,ak U,ah J,ak U,ak U];have:=hd.1 c c1 c2 U;rw[hc] at this;exact this
 intro n
 induction n with
 |zero=>
  intro k l i m j hn hk i0 i1 hm m1 hj GG hb hd Ep wA;obtain⟨k,rfl⟩:=bw hk;rw[gk.l1,wi (x:=2*i) U U,wi (x:=2*i+2) U U,ak U];simp only[aM,jk,if_false];exact fin l i m j i0 i1 hm m1 hb hd Ep λc c1 c2 c3=>wA c c1 U c2 c3
 |succ n ih=>
  intro k l i m j hn hk i0 i1 hm m1 hj GG hb hd Ep wA;obtain⟨k,rfl⟩:=bw hk;rw[gk.l1,wi (x:=2*i) U U,wi (x:=2*i+2) U U];have hx:(if j<=2*i+2 then some (decide (j<(l.length:Int))) else some false)=some (decide (j<=2*i+2/\j<l.length)):=by
   by_cases a:j<=2*i+2<;>simp[a]
  rw[hx];simp only[aM];refine Ok.ite (λq=>?_) λq=>?_
  ·have q':=of_decide_eq_true q;refine Ok.br U (Ok.br U (Ok.eq (Jq _ _) (Ok.ite (λw=>?_) λw=>?_)))
   ·have hw:=Jr.1 w;rw[wi U U];refine ih k l i j (j+1) U U i0 i1 (.inr ⟨hj,by omega⟩) q'.2 U U hb hd U λc c1 c2 c3 c4=>?_
    by_cases z:c=j
    ·rw[z];exact dU _
    ·have:=wA c c1 U c3 c4;omega
   ·have hw:=Jr.2 (by simpa using w)
    rw[wi U U];refine ih k l i m (j+1) U U i0 i1 hm m1 U U hb hd Ep λc c1 c2 c3 c4=>?_
    by_cases z:c=j
    ·rw[z];exact hw
    ·exact wA c c1 U c3 c4
  ·have q: ¬(j<=2*i+2/\j<l.length):=by simpa using q
   exact fin l i m j i0 i1 hm m1 hb hd Ep λc c1 c2 c3=>wA c c1 U c2 c3
theorem aa6: ∀(n k:Nat) (l:List cP) (i:Int),l.length-i.toNat<=n->n<k->0<=i->i<l.length->l.length<=1099511627776->Fw l i->Ok (gk.l0 k l i) (λh=>Hk h.l):=by
 intro n
 induction n with
 |zero=>intro k l i hn hk i0 i1;omega
 |succ n ih=>
  intro k l i hn hk i0 i1 hb hd;obtain⟨k,rfl⟩:=bw hk;rw[gk.l0,wi (x:=2*i) U U,wi (x:=2*i+1) U U];refine(aa7 (i.toNat+3) fuel l i i (2*i+1) U (by rw[de];omega) i0 i1 (.inl J) i1 U U hb hd (dU _) (λc c1 c2=>by omega)).bind λr hr=>?_
  rcases hr with⟨rfl,z⟩ |⟨l',m',rfl,e1,e2,e3,e4⟩
  ·exact Ok.pure z
  ·exact ih k l' m' U U U U U e4
theorem agD (h:eP) (hb:h.l.length<=1099511627776) (ho:Hk h.l):Ok (mN.f h) (λr=>Qn h.l r/\Hk r.2.2.2.l/\(r.2.2.1=true-> ∀e∈h.l,r.1<=e.key)):=by
 obtain⟨r,er,hr⟩:=EK h hb;refine⟨r,er,hr,?_,λhq e he=>?_⟩
 rotate_left
 ·rcases hr with⟨_,rfl⟩ |⟨_,_,h3,_⟩
  ·simp at hq
  ·obtain⟨c,c0,c1,rfl⟩:=Hm.1 he;have:=aer ho _ c (jW _) c0 c1;rw[<-h3] at this;exact this
 obtain⟨l⟩:=h
 by_cases hl:l=[]
 ·rcases hr with⟨_,rfl⟩ |⟨z,_⟩
  ·intro j j1 j2;simp at j2;omega
  ·exact absurd hl z
 have hp:0<l.length:=List.length_pos_iff.2 hl;simp only at hb ho;unfold mN.f Cz.f Cy.f gk.f at er;simp only[aM] at er;rw[ak (by simpa using hl),ah U,wi (x:=(l.length:Int)-1) U U] at er
 simp only[aM,if_true] at er;rw[ah U,ah U,ah bo] at er;obtain⟨v,ev,er⟩:=Option.bind_eq_some_iff.1 er;simp only[Option.some.injEq] at er;rw[<-er];simp only;have hs:aA (aD l (ax 0) (rd l ((l.length:Int)-1))) 0 ((l.length:Int)-1)=(aD l 0 (rd l ((l.length:Int)-1))).take (l.length-1):=by unfold aA;simp
 rw[hs] at ev;have hlen:((aD l 0 (rd l ((l.length:Int)-1))).take (l.length-1)).length=l.length-1:=by simp
 have ht: ∀d:Int,0<=d->d<(l.length:Int)-1->rd ((aD l 0 (rd l ((l.length:Int)-1))).take (l.length-1)) d=if d=0 then rd l ((l.length:Int)-1) else rd l d:=by
  intro d d0 d1;have:=Bl (L:=l) (i:=0) (c:=d) (v:=rd l ((l.length:Int)-1)) U U d0;rw[<-this];simp only[Int.toNat_zero];rw[iU (xs:=List.take _ _) bo,List.getElem_take,iU (xs:=aD _ _ _) bo]
 by_cases h1:l.length=1
 ·have e0:(aD l 0 (rd l ((l.length:Int)-1))).take (l.length-1)=[]:=by rw[h1];rfl
  rw[e0] at ev;have hd:gk.l0 fuel [] 0=some ⟨[]⟩:=by
   obtain⟨k,hk⟩: ∃q,fuel=q+1+1:=⟨fuel-2,by rw[de]⟩
   rw[hk,gk.l0,hk,gk.l1];rfl
  rw[hd] at ev;simp only[Option.some.injEq] at ev;rw[<-ev];intro j j1 j2;simp at j2;omega
 ·obtain⟨q,eq,hq⟩:=aa6 l.length fuel ((aD l 0 (rd l ((l.length:Int)-1))).take (l.length-1)) 0 bp (by rw[de];omega) U U U ⟨λj j1 j2 hj=>by
   rw[ht j U U,ht _ U U,ak hj,ak U];exact ho j j1 U,λj j1 j2 hj i1=>by omega⟩
  rw[eq] at ev;simp only[Option.some.injEq] at ev;rw[<-ev];exact hq
def nL (m:aG) (c:Int):Prop:=bS m c/\rd m.C c≠255
def xo (m:aG):Prop:= ∀c:Int,bS m c->1<=rd m.C c/\rd m.C c<=255
inductive Way (m:aG) (t:Int):Int->Int->Prop
 |here:nL m t->Way m t t 0
 |go {c k n:Int} (side:Int):Way m t c k->0<=side->side<=3->bk m.W m.H n side=c->nL m n->Way m t n (k+rd m.C c)
theorem Im {m:aG} {t c k:Int} (h:Way m t c k):nL m c:=by
 cases h with
 |here h=>exact h
 |go _ _ _ _ _ h=>exact h
theorem Xz {m:aG} {t c k:Int} (h:Way m t c k):nL m t:=by
 induction h with
 |here h=>exact h
 |go _ _ _ _ _ _ ih=>exact ih
theorem LC {m:aG} {t c k:Int} (hc:xo m) (h:Way m t c k):0<=k:=by
 induction h with
 |here h=>exact dU _
 |go s h1 _ _ _ _ ih=>have:=hc _ (Im h1).1;omega
structure AE (m:aG) (t:Int) (D:List Int):Prop where
 len:D.length=m.C.length
 xg: ∀c:Int,bS m c->rd D c<(1099511627776:Int)->Way m t c (rd D c)
 le: ∀c k:Int,Way m t c k->rd D c<=k
 top: ∀c:Int,bS m c->rd D c<=(1099511627776:Int)
theorem air {w h c s t:Int} (hc:cV w h c) (s0:0<=s) (s4:s<=4) (t0:0<=t) (t4:t<=4) (hs:cV w h (bk w h c s)) (hx:dX t= -dX s) (hy:dY t= -dY s):bk w h (bk w h c s) t=c:=by
 rcases E8 hc s0 s4 with⟨h1,_⟩ |⟨_,b1,b2,_⟩
 ·rw[h1] at hs;obtain⟨_,h2,_⟩:=hs;omega
 ·have e:bk w h (bk w h c s) t=ou w h (bk w h c s%w+dX t) (bk w h c s/w+dY t):=by unfold bk;rw[ah (c:=cV w h _/\0<=t/\_) ⟨by unfold bk at hs;exact hs,t0,t4⟩]
  rw[e,b1,b2,hx,hy];have e1:c%w+dX s+ -dX s=c%w:=U;have e2:c/w+dY s+ -dY s=c/w:=U;rw[e1,e2,Mt hc]
theorem D4 {m:aG} (hm:nK m) {n c s:Int} (hn:bS m n) (hc:bS m c) (s0:0<=s) (s3:s<=3) (h:bk m.W m.H n s=c): ∃t,0<=t/\t<=3/\bk m.W m.H c t=n:=by
 have hbk: ∃t,0<=t/\t<=3/\dX t= -dX s/\dY t= -dY s:=by
  have hs:s=0∨s=1∨s=2∨s=3:=U;rcases hs with rfl |rfl |rfl |rfl
  ·exact⟨2,by omega,by omega,J,J⟩
  ·exact⟨3,by omega,by omega,J,J⟩
  ·exact⟨0,by omega,by omega,J,J⟩
  ·exact⟨1,by omega,by omega,J,J⟩
 obtain⟨t,t0,t3,tx,ty⟩:=hbk;refine⟨t,t0,t3,?_⟩;have:=air (fI hm hn) s0 (by omega:s<=4) t0 (by omega:t<=4) (by rw[h];exact fI hm hc) tx ty
 rw[h] at this;exact this
theorem abf {m:aG} {t:Int} {D:List Int} (hc:xo m) (h:AE m t D) (ho:nL m t):rd D t=0:=by
 have h1:=h.le t 0 (Way.here ho);have h2:=LC hc (h.xg t ho.1 U);omega
theorem abg {m:aG} {t:Int} {D:List Int} (hc:xo m) (h:AE m t D) {c:Int} (hi:bS m c):0<=rd D c:=by
 by_cases hd:rd D c<(1099511627776:Int)
 ·exact LC hc (h.xg c hi hd)
 ·have:(1099511627776:Int)=1099511627776:=rfl;omega
section
variable {g : bx} {more : Int}
theorem C9 {c:Int}:sS g c↔nL g.m c:=by
 unfold sS nL je;constructor
 ·rintro⟨a,b⟩;rw[ah a] at b;exact⟨a,b⟩
 ·rintro⟨a,b⟩;exact⟨a,by rw[ah a];exact b⟩
theorem Rz (h:cL g more):xo g.m:=λc hc=>h.sm c hc.1 hc.2
theorem Ed {c:Int} (hc:bS g.m c):je g c=rd g.m.C c:=by unfold je;rw[ah hc]
def Nb (g:bx) (goal c d n:Int):Prop:=0<=d/\d<=3/\n=bk g.m.W g.m.H c d/\nL g.m n/\aR g.m.W g.m.H n=aR g.m.W g.m.H goal
theorem ai1 (h:cL g more) (goal cell key:Int) (m:List (Int×Int)) (hc:sS g cell) (k0:0<=key) (k1:key<=1000000000): ∀(n k:Nat) (l:List cP) (s:Int),(4-s).toNat<=n->n<k->0<=s->l.length<=10000000-4+s->Hk l->
 Ok (gd.l1 k goal g (g.m.W,g.m.H) m cell key l s) (λr=>r.1=cQ m cell key/\r.2.length<=l.length+(4-s).toNat/\Hk r.2/\(∀e∈l,e∈r.2)/\(∀e∈r.2,e∈l∨ ∃d,Nb g goal cell d e.item/\e.key=key+rd g.m.C cell)/\ ∀d n,s<=d->Nb g goal cell d n->⟨key+rd g.m.C cell,n⟩∈r.2):=by
 have fi:=Gi h hc.1;have xS:=Ed hc.1;intro n
 induction n with
 |zero=>
  intro k l s hn hk s0 hl ho;obtain⟨k,rfl⟩:=bw hk;rw[gd.l1,ak U];exact Ok.pure ⟨J,by simp,ho,λe he=>he,λe he=> .inl he,λd n hd hn=>by have:=hn.2.1;omega⟩
 |succ n ih=>
  intro k l s hn hk s0 hl ho;obtain⟨k,rfl⟩:=bw hk;rw[gd.l1];refine Ok.ite (λhs=>?_) λhs=>Ok.pure ⟨J,by simp only;omega,ho,λe he=>he,λe he=> .inl he,λd n hd hn=>by have:=hn.2.1;omega⟩
  refine Ok.eq (E9 ..) ?_;have Oh:Ok (if bk g.m.W g.m.H cell s<0 then some true else(gG.f g.m.W g.m.H (bk g.m.W g.m.H cell s)).bind λv28=>(gG.f g.m.W g.m.H goal).bind λqR=>if(v28 !=qR)=true then some true else(jf.f g (bk g.m.W g.m.H cell s)).bind λv30=>some (v30==255)) (λb=>b=false↔Nb g goal cell s (bk g.m.W g.m.H cell s)):=by
   refine Ok.ite (λq=>Ok.pure ⟨by simp,λz=>?_⟩) λq=>Ok.eq (rK ..) (Ok.eq (rK ..) (Ok.ite (λw=>Ok.pure ⟨by simp,λz=>?_⟩) λw=>Ok.eq (sw h _) (Ok.pure ?_)))
   ·have:=z.2.2.2.1.1.1;omega
   ·have w:aR g.m.W g.m.H (bk g.m.W g.m.H cell s)≠aR g.m.W g.m.H goal:=by simpa using w
    exact absurd z.2.2.2.2 w
   ·have w:aR g.m.W g.m.H (bk g.m.W g.m.H cell s)=aR g.m.W g.m.H goal:=by simpa using w
    have b_:=Lk q;rw[Ed b_];constructor
    ·intro z;exact⟨s0,by omega,J,⟨b_,by simpa using z⟩,w⟩
    ·intro z;simpa using z.2.2.2.1.2
  refine Oh.bind λb hb=>Ok.ite (λq=>?_) λq=>?_
  ·rw[wi U U];refine(ih k l (s+1) U U U U ho).mono λr hr=>⟨hr.1,by have:=hr.2.1;omega,hr.2.2.1,hr.2.2.2.1,hr.2.2.2.2.1,λd x hd hx=>?_⟩
   by_cases z:d=s
   ·subst z;have:=hx.2.2.1;subst this;have:=hb.2 hx;rw[this] at q;simp at q
   ·exact hr.2.2.2.2.2 d x U hx
  ·have hnb:=hb.1 (by simpa using q)
   refine Ok.eq (sw h _) ((agF ⟨l⟩ _ _ (by simp only;omega) ho).bind λr hr=>?_)
   simp only at hr;rw[wi (x:=s+1) U U];have ek:af (key+je g cell)=key+rd g.m.C cell:=by rw[wi U U,xS]
   rw[ek] at hr;refine(ih k r.l (s+1) U U U U hr.2.2).mono λr' mm=>⟨mm.1,by have:=mm.2.1;omega,mm.2.2.1,λe he=>mm.2.2.2.1 e ((hr.2.1 e).2 (.inl he)),λe he=>?_,λd x hd hx=>?_⟩
   ·rcases mm.2.2.2.2.1 e he with z |z
    ·rcases(hr.2.1 e).1 z with y |rfl
     ·exact .inl y
     ·exact .inr ⟨s,hnb,J⟩
    ·exact .inr z
   ·by_cases z:d=s
    ·subst z;have:=hx.2.2.1;subst this;exact mm.2.2.2.1 _ ((hr.2.1 _).2 (.inr J))
    ·exact mm.2.2.2.2.2 d x U hx
structure WI (g:bx) (goal:Int) (m:List (Int×Int)) (l:List cP) (key cell:Int) (ok:Bool):Prop where
 w: ∀c,ck m c=true->Way g.m goal c (aT m c)/\aR g.m.W g.m.H c=aR g.m.W g.m.H goal
 hl: ∀e∈l,Way g.m goal e.item e.key/\aR g.m.W g.m.H e.item=aR g.m.W g.m.H goal/\ ∀c,ck m c=true->aT m c<=e.key
 cur:ok=true->Way g.m goal cell key/\aR g.m.W g.m.H cell=aR g.m.W g.m.H goal/\(∀e∈l,key<=e.key)/\ ∀c,ck m c=true->aT m c<=key
 no:ok=false->l=[]
 o:Hk l
 st:(ck m goal=true/\aT m goal<=0)∨(ok=true/\cell=goal/\key<=0)
 cl: ∀c,ck m c=true-> ∀d n,Nb g goal c d n->(ck m n=true/\aT m n<=aT m c+rd g.m.C c)∨(ok=true/\cell=n/\key<=aT m c+rd g.m.C c)∨ ∃e∈l,e.item=n/\e.key<=aT m c+rd g.m.C c
structure FA (g:bx) (goal:Int) (m:List (Int×Int)):Prop where
 w: ∀c,ck m c=true->Way g.m goal c (aT m c)
 st:nL g.m goal->ck m goal=true/\aT m goal<=0
 cl: ∀c,ck m c=true-> ∀d n,Nb g goal c d n->ck m n=true/\aT m n<=aT m c+rd g.m.C c
theorem ai0 (h:cL g more) (hN:g.m.W*g.m.H<=1600) (goal:Int): ∀(n k:Nat) (m:List (Int×Int)) (l:List cP) (key cell:Int) (ok:Bool),
 5*na g m+l.length+(if ok then 1 else 0)<=n->n<k->l.length+5*na g m<=9000->
 (∀e∈l,sS g e.item/\0<=e.key/\e.key+254*(na g m:Int)<=254*1600)->(ok=true->sS g cell/\0<=key/\key+254*(na g m:Int)<=254*1600)->WI g goal m l key cell ok->
 Ok (gd.l0 k goal g (g.m.W,g.m.H) m l key cell ok) (FA g goal):=by
 have fin: ∀(m:List (Int×Int)) (l:List cP) (key cell:Int),WI g goal m l key cell false->FA g goal m:=λm l key cell hi=>by
  have e:=hi.no J;subst e;refine⟨λc hc=>(hi.w c hc).1,λ_=>?_,λc hc d n hn=>?_⟩
  ·rcases hi.st with z |⟨z,_⟩
   ·exact z
   ·simp at z
  ·rcases hi.cl c hc d n hn with z |⟨z,_⟩ |⟨e,z,_⟩
   ·exact z
   ·simp at z
   ·simp at z
 intro n
 induction n with
 |zero=>
  intro k m l key cell ok hn hk hb hl hp hi;obtain⟨k,rfl⟩:=bw hk;have:ok=false:=by cases ok<;>simp_all
  subst this;rw[gd.l0];exact Ok.pure (fin _ _ _ _ hi)
 |succ n ih=>
  intro k m l key cell ok hn hk hb hl hp hi;obtain⟨k,rfl⟩:=bw hk;rw[gd.l0];refine Ok.ite (λq=>?_) λq=>Ok.pure (by
   have:ok=false:=by simpa using q
   subst this;exact fin _ _ _ _ hi)
  obtain⟨p1,p2,p3⟩:=hp q;subst q;simp only[if_true] at hn;obtain⟨u1,u2,u3,u4⟩:=hi.cur J;have N7:Ok (if ck m cell=true then some (m,l) else gd.l1 fuel goal g (g.m.W,g.m.H) m cell key l 0) (λr=>5*na g r.1+r.2.length<=n/\r.2.length+5*na g r.1<=9000/\(∀e∈r.2,sS g e.item/\0<=e.key/\e.key+254*(na g r.1:Int)<=254*1600)/\
   Hk r.2/\(∀c,ck r.1 c=true->Way g.m goal c (aT r.1 c)/\aR g.m.W g.m.H c=aR g.m.W g.m.H goal)/\(∀e∈r.2,Way g.m goal e.item e.key/\aR g.m.W g.m.H e.item=aR g.m.W g.m.H goal/\ ∀c,ck r.1 c=true->aT r.1 c<=e.key)/\(ck r.1 goal=true/\aT r.1 goal<=0)/\
   ∀c,ck r.1 c=true-> ∀d n,Nb g goal c d n->(ck r.1 n=true/\aT r.1 n<=aT r.1 c+rd g.m.C c)∨ ∃e∈r.2,e.item=n/\e.key<=aT r.1 c+rd g.m.C c):=by
   refine Ok.ite (λz=>Ok.pure ⟨by simp only;omega,hb,hl,hi.o,hi.w,hi.hl,?_,λc hc d n hn=>?_⟩) λz=>?_
   ·rcases hi.st with y |⟨_,y1,y2⟩
    ·exact y
    ·simp only;rw[y1] at z;have:=u4 goal z;exact⟨z,by omega⟩
   ·rcases hi.cl c hc d n hn with y |⟨_,y1,y2⟩ |y
    ·exact .inl y
    ·rw[y1] at z;have:=u4 n z;exact .inl ⟨z,by simp only;omega⟩
    ·exact .inr y
   have z:ck m cell=false:=by simpa using z
   have hu:=Xq (v:=key) p1.1 z;refine(ai1 h goal cell key m p1 p2 U 4 fuel l 0 bp (by rw[de];omega) U U hi.o).mono λr hr=>?_
   obtain⟨e1,e2,e3,e4,e5,e6⟩:=hr;have fi:=Gi h p1.1;have xS:=Ed p1.1;have bK:je g cell≠255:=p1.2;rw[e1];have:(4-(0:Int)).toNat=4:=rfl;have bc: ∀c,ck (cQ m cell key) c=true->c≠cell->ck m c=true/\aT (cQ m cell key) c=aT m c:=λc hc tV=>by
    rw[EE,ak (λy=>tV y.symm)] at hc;rw[sP,ak (λy=>tV y.symm)];exact⟨hc,J⟩
   have now:aT (cQ m cell key) cell=key:=by rw[sP,ah J]
   have Vo:ck (cQ m cell key) cell=true:=by rw[EE,ah J]
   have rB: ∀c,ck m c=true->ck (cQ m cell key) c=true/\aT (cQ m cell key) c=aT m c:=λc hc=>by
    have tV:cell≠c:=λy=>by rw[<-y,z] at hc;simp at hc
    rw[EE,ak tV,sP,ak tV];exact⟨hc,J⟩
   have low: ∀c,ck (cQ m cell key) c=true->aT (cQ m cell key) c<=key:=λc hc=>by
    by_cases y:c=cell
    ·rw[y,now];exact dU _
    ·obtain⟨a,b⟩:=bc c hc y;rw[b];exact u4 c a
   refine⟨by omega,by omega,λe he=>?_,e3,λc hc=>?_,λe he=>?_,?_,λc hc d n hn=>?_⟩
   ·rcases e5 e he with y |⟨d,y1,y2⟩
    ·have:=hl e y;exact⟨this.1,this.2.1,by omega⟩
    ·rw[y2];exact⟨C9.2 y1.2.2.2.1,by omega,by omega⟩
   ·by_cases y:c=cell
    ·rw[y,now];exact⟨u1,u2⟩
    ·obtain⟨a,b⟩:=bc c hc y;rw[b];exact hi.w c a
   ·rcases e5 e he with y |⟨d,y1,y2⟩
    ·have:=hi.hl e y;exact⟨this.1,this.2.1,λc hc=>Int.le_trans (low c hc) (u3 e y)⟩
    ·obtain⟨d0,d3,dn,RG,ds⟩:=y1;obtain⟨t,t0,t3,tb⟩:=D4 h.ok p1.1 RG.1 d0 d3 dn.symm;refine⟨by rw[y2];exact Way.go t u1 t0 t3 tb RG,ds,λc hc=>?_⟩
     have:=low c hc;rw[y2];omega
   ·rcases hi.st with⟨y1,y2⟩ |⟨_,y1,y2⟩
    ·obtain⟨a,b⟩:=rB goal y1;exact⟨a,by rw[b];exact y2⟩
    ·rw[<-y1];exact⟨Vo,by rw[now];exact y2⟩
   ·by_cases y:c=cell
    ·subst y;exact .inr ⟨_,e6 d n (hn.1) hn,J,by rw[now];exact dU _⟩
    ·obtain⟨a,b⟩:=bc c hc y;rw[b];rcases hi.cl c a d n hn with⟨x1,x2⟩ |⟨_,x1,x2⟩ |⟨e,x1,x2,x3⟩
     ·obtain⟨a',b'⟩:=rB n x1;exact .inl ⟨a',by rw[b'];exact x2⟩
     ·rw[<-x1];exact .inl ⟨Vo,by rw[now];exact x2⟩
     ·exact .inr ⟨e,e4 e x1,x2,x3⟩
  refine N7.bind λr hr=>?_
  obtain⟨h1,h2,h4,h5,h6,h7,h8,h9⟩:=hr;refine(agD ⟨r.2⟩ (by simp only;omega) h5).bind λv hv=>?_
  obtain⟨hv,ho,Es⟩:=hv;rcases hv with⟨e1,e2⟩ |⟨e1,e2,e3,e4,e5,e6⟩
  ·subst e2;simp only at e1;refine ih k r.1 [] 0 0 false bo U bo bp bp ⟨h6,by simp,by simp,λ_=>rfl,λj j1 j2=>by simp at j2;omega,.inl h8,λc hc d n hn=>?_⟩
   rcases h9 c hc d n hn with y |⟨e,y,_⟩
   ·exact .inl y
   ·rw[e1] at y;simp at y
  ·simp only at e1 e3 e4 e5 e6 Es ho;have Ba:=fS (a:=r.2) (i:=0) U (by have:=List.length_pos_iff.2 e1;omega)
   have NQ:=h4 _ Ba;have Kr:=h7 _ Ba;rw[<-e3] at NQ Kr;refine ih k r.1 v.2.2.2.l v.1 v.2.1 v.2.2.1 (by rw[e2];simp;omega) U U (λe he=>h4 e (e5 e he)) (λ_=>NQ) ⟨h6,λe he=>h7 e (e5 e he),λ_=>⟨Kr.1,Kr.2.1,λe he=>Es e2 e (e5 e he),Kr.2.2⟩,by rw[e2];simp,ho,.inl h8,λc hc d n hn=>?_⟩
   rcases h9 c hc d n hn with y |⟨e,y1,y2,y3⟩
   ·exact .inl y
   ·rcases e6 e y1 with x |x
    ·rw[x,<-e3] at y2 y3;exact .inr (.inl ⟨e2,y2,y3⟩)
    ·exact .inr (.inr ⟨e,x,y2,y3⟩)
theorem aiZ (h:cL g more) (hN:g.m.W*g.m.H<=1600) (f:kc) (M:dO) {goal:Int} (hg:bS g.m goal):Ok (gd.f f goal M g) (FA g goal):=by
 unfold gd.f;refine Ok.eq (Bz g) (Ok.eq (sw h _) (Ok.ite (λq=>Ok.pure ⟨by simp[ck,dW],λz=>?_,by simp[ck,dW]⟩) λq=>?_))
 ·have q:je g goal=255:=by simpa using q
  exact absurd q (C9.2 z).2
 have hu:na g []<=1600:=by unfold na;have:=D8 (λc=>!ck ([]:List (Int×Int)) c) (g.m.W*g.m.H).toNat;omega
 refine(EL ⟨[]⟩ 0 goal bp).bind λr hr=>(EK r (by simp at hr;omega)).bind λv hv=>?_
 have ho:sS g goal:=⟨hg,by simpa using q⟩
 have qx: ∀e∈r.l,e=⟨0,goal⟩:=λe he=>by simpa using(hr.2 e).1 he
 have hlen:r.l.length=1:=by simpa using hr.1
 rcases hv with⟨e1,e2⟩ |⟨e1,e2,e3,e4,e5,e6⟩
 ·rw[e1] at hlen;simp at hlen
 ·have h0:=qx _ (fS (a:=r.l) (i:=0) U U);rw[h0] at e3;simp only[cP.mk.injEq] at e3;have xW:v.2.2.2.l=[]:=List.length_eq_zero_iff.1 U;rw[xW,e3.1,e3.2,e2];exact ai0 h hN goal 9000 fuel [] [] 0 goal true bo (by rw[de];omega) bo bp (λ_=>⟨ho,by omega,by omega⟩)
   ⟨by simp[ck,dW],by simp,λ_=>⟨Way.here (C9.1 ho),J,by simp,by simp[ck,dW]⟩,by simp,λj j1 j2=>by simp at j2;omega,.inr ⟨J,J,dU _⟩,by simp[ck,dW]⟩
theorem XC (h:cL g more) (hN:g.m.W*g.m.H<=1600) {goal:Int} (hg:bS g.m goal) {im:List (Int×Int)} (hw: ∀f M,gd.f f goal M g=some im):FA g goal im:=by
 obtain⟨r,e,hr⟩:=aiZ h hN default default hg;rw[hw] at e;rw[Option.some.inj e];exact hr
end
section
theorem aaa (l:List aX) (c side:Int) (hb:l.length<=1000000): ∀(n k:Nat) (x:Int) (b:Bool) (i:Int),(l.length-i).toNat<=n->n<k->0<=i->
 Ok (lb.l0 k l c side x b i) (λr=>((r=x/\(b=true∨ ∀j:Int,i<=j->j<l.length-> ¬((rd l j).Cell=c/\(rd l j).cK=side)))∨ ∃y∈l,y.Cell=c/\y.cK=side/\y.Key=r)/\(∀j:Int,i<=j->j<l.length->(rd l j).Cell=c->(rd l j).cK=side->r<=(rd l j).Key)/\(b=true->r<=x)):=by
 have fin: ∀(k:Nat) (x:Int) (b:Bool) (i:Int),¬i<l.length->Ok (lb.l0 (k+1) l c side x b i) (λr=>((r=x/\(b=true∨ ∀j:Int,i<=j->j<l.length-> ¬((rd l j).Cell=c/\(rd l j).cK=side)))∨ ∃y∈l,y.Cell=c/\y.cK=side/\y.Key=r)/\(∀j:Int,i<=j->j<l.length->(rd l j).Cell=c->(rd l j).cK=side->r<=(rd l j).Key)/\(b=true->r<=x)):=λk x b i hi=>by
  rw[lb.l0,ak hi];exact Ok.pure ⟨.inl ⟨J,.inr λj j0 j1=>by omega⟩,λj j0 j1=>by omega,λ_=>dU _⟩
 intro n
 induction n with
 |zero=>
  intro k x b i hn hk hi;obtain⟨k,rfl⟩:=bw hk;exact fin k x b i U
 |succ n ih=>
  intro k x b i hn hk hi;obtain⟨k,rfl⟩:=bw hk
  by_cases aS:i<l.length
  ·rw[lb.l0,wi U U];have hq:(if((rd l i).Cell==c)=true then(if((rd l i).cK==side)=true then(if(!b)=true then(some true) else(some (decide ((rd l i).Key<x)))) else(some false)) else(some false))=some (decide (((rd l i).Cell=c/\(rd l i).cK=side)/\(b=false∨(rd l i).Key<x))):=by
    by_cases a1:(rd l i).Cell=c
    ·by_cases a2:(rd l i).cK=side
     ·cases b<;>simp[a1,a2]
     ·simp[a1,a2]
    ·simp[a1]
   refine Ok.pos aS (Ok.br ⟨hi,aS⟩ (Ok.eq hq (Ok.ite (λq=>?_) λq=>?_)))
   ·obtain⟨⟨q1,q2⟩,q3⟩:=of_decide_eq_true q;refine(ih k (rd l i).Key true (i+1) U U U).mono λr hr=>⟨?_,λj j0 j1 e1 e2=>?_,λkt=>?_⟩
    ·rcases hr.1 with⟨z,_⟩ |z
     ·exact .inr ⟨_,fS hi aS,q1,q2,z.symm⟩
     ·exact .inr z
    ·by_cases z:j=i
     ·rw[z];exact hr.2.2 J
     ·exact hr.2.1 j U j1 e1 e2
    ·have:=hr.2.2 J;rcases q3 with q3 |q3
     ·rw[q3] at kt;simp at kt
     ·omega
   ·have q: ¬(((rd l i).Cell=c/\(rd l i).cK=side)/\(b=false∨(rd l i).Key<x)):=by simpa using q
    refine(ih k x b (i+1) U U U).mono λr hr=>⟨?_,λj j0 j1 e1 e2=>?_,hr.2.2⟩
    ·rcases hr.1 with⟨z,w⟩ |z
     ·refine .inl ⟨z,?_⟩
      by_cases kt:b=true
      ·exact .inl kt
      ·refine .inr λj j0 j1 e=>?_
       by_cases y:j=i
       ·subst y;exact q ⟨e,.inl (by simpa using kt)⟩
       ·exact(w.resolve_left kt) j U j1 e
     ·exact .inr z
    ·by_cases z:j=i
     ·subst z
      by_cases kt:b=true
      ·have:=hr.2.2 kt;have: ¬(rd l j).Key<x:=λy=>q ⟨⟨e1,e2⟩,.inr y⟩
       omega
      ·exact absurd ⟨⟨e1,e2⟩,.inl (by simpa using kt)⟩ q
     ·exact hr.2.1 j U j1 e1 e2
  ·exact fin k x b i aS
theorem aab {l:List aX} (hb:l.length<=1000000) (c side:Int):((uX l c side=ct/\ ∀y∈l,¬(y.Cell=c/\y.cK=side))∨ ∃y∈l,y.Cell=c/\y.cK=side/\y.Key=uX l c side)/\ ∀y∈l,y.Cell=c->y.cK=side->uX l c side<=y.Key:=by
 obtain⟨r,e,h1,h2,_⟩:=aaa l c side hb l.length fuel 1099511627776 false 0 U (by rw[de];omega) U
 have hv:uX l c side=r:=by unfold uX lb.f;rw[e];rfl
 rw[hv];refine⟨?_,λy hy e1 e2=>?_⟩
 ·rcases h1 with⟨a,b⟩ |a
  ·refine .inl ⟨a,λy hy z=>?_⟩
   obtain⟨j,j0,j1,rfl⟩:=qD hy;exact(b.resolve_left bp) j j0 j1 z
  ·exact .inr a
 ·obtain⟨j,j0,j1,rfl⟩:=qD hy;exact h2 j j0 j1 e1 e2
theorem Vi {w h s l d:Int} (hs:bC w h s) (l0:0<=l) (l1:l<(ay w h s).1*(ay w h s).2) (d0:0<=d) (d3:d<=3) {t:aG} (hW:t.W=(ay w h s).1) (hH:t.H=(ay w h s).2) (hn:0<=eI t l d):
 eI t l d<(ay w h s).1*(ay w h s).2/\bk w h (cA w h s l) d=cA w h s (eI t l d):=by
 obtain⟨z1,z2,z3,z4⟩:=p9 hs;obtain⟨hc,e1,e2⟩:=Gj hs l0 l1;obtain⟨p1,p2,p3,p4,p5,p6⟩:=we hs l0 l1;have GD:=uQ l (ay w h s).1;have hm:=hc.1;have key: ∀x y:Int,0<=x->x<(ay w h s).1->0<=y->y<(ay w h s).2->x=l%(ay w h s).1+dX d->y=l/(ay w h s).1+dY d->y*(ay w h s).1+x<(ay w h s).1*(ay w h s).2/\bk w h (cA w h s l) d=cA w h s (y*(ay w h s).1+x):=by
  intro x y x0 x1 y0 y1 ex ey;have b_:=tM (w:=(ay w h s).1) (h:=(ay w h s).2) x0 x1 y0 y1;have vm:=pR (a:=(ay w h s).1) (x:=x) (y:=y) x0 x1;refine⟨b_.2,?_⟩;obtain⟨q1,q2,q3,q4,q5,q6⟩:=we hs b_.1 b_.2;rw[vm.1] at q5;rw[vm.2] at q6;have mo:bk w h (cA w h s l) d=ou w h (cA w h s l%w+dX d) (cA w h s l/w+dY d):=by unfold bk;rw[ah ⟨hc,d0,by omega⟩]
  rw[mo,e1,e2];have hsp:=uA hs;unfold ou cA;rw[ah (c:=bC w h s/\_) ⟨hs,b_⟩,vm.1,vm.2,ah ⟨hm,by omega,by omega,by omega,by omega⟩,ex,ey,Int.add_assoc,Int.add_assoc]
 have hd:d=0∨d=1∨d=2∨d=3:=U;rw[mC] at GD;unfold eI at hn⊢;simp only[hW,hH] at hn⊢;rcases hd with rfl |rfl |rfl |rfl
 ·simp only[if_true] at hn⊢;split at hn
  ·rename_i z;rw[ah z];have:=key (l%(ay w h s).1) (l/(ay w h s).1-1) p1 p2 U U (by simp[dX]) (by simp[dY];omega)
   rw[Int.sub_mul,Int.one_mul] at this;rw[show l-(ay w h s).1=l/(ay w h s).1*(ay w h s).1-(ay w h s).1+l%(ay w h s).1 by omega]
   exact this
  ·omega
 ·simp only[show ¬(1:Int)=0 by omega,if_true,if_false] at hn⊢
  split at hn
  ·rename_i z;rw[ah z];have:=key (l%(ay w h s).1+1) (l/(ay w h s).1) U U p3 p4 (by simp[dX]) (by simp[dY])
   rw[show l+1=l/(ay w h s).1*(ay w h s).1+(l%(ay w h s).1+1) by omega]
   exact this
  ·omega
 ·simp only[show ¬(2:Int)=0 by omega,show ¬(2:Int)=1 by omega,if_true,if_false] at hn⊢
  split at hn
  ·rename_i z;rw[ah z];have:=key (l%(ay w h s).1) (l/(ay w h s).1+1) p1 p2 U U (by simp[dX]) (by simp[dY])
   rw[Int.add_mul,Int.one_mul] at this;rw[show l+(ay w h s).1=l/(ay w h s).1*(ay w h s).1+(ay w h s).1+l%(ay w h s).1 by omega]
   exact this
  ·omega
 ·simp only[show ¬(3:Int)=0 by omega,show ¬(3:Int)=1 by omega,show ¬(3:Int)=2 by omega,if_false] at hn⊢
  split at hn
  ·rename_i z;rw[ah z];have:=key (l%(ay w h s).1-1) (l/(ay w h s).1) U U p3 p4 (by simp[dX];omega) (by simp[dY])
   rw[show l-1=l/(ay w h s).1*(ay w h s).1+(l%(ay w h s).1-1) by omega]
   exact this
  ·omega
variable {g : bx} {more : Int} {R : gO}
end
theorem Vh {w h s l d:Int} (hs:bC w h s) (l0:0<=l) (l1:l<(ay w h s).1*(ay w h s).2) (d0:0<=d) (d3:d<=3) {t:aG} (hW:t.W=(ay w h s).1) (hH:t.H=(ay w h s).2)
 (hn:cV w h (bk w h (cA w h s l) d)) (he:aR w h (bk w h (cA w h s l) d)=s):0<=eI t l d:=by
 obtain⟨hc,e1,e2⟩:=Gj hs l0 l1;obtain⟨a1,a2,a3,a4,a5,a6⟩:=we hs l0 l1;obtain⟨z1,z2,z3,z4⟩:=p9 hs;obtain⟨y1,y2⟩:=W3 hs;obtain⟨p1,p2,p3,p4⟩:=uA hs;have zI:d=0∨d=1∨d=2∨d=3:=U;rcases E8 hc d0 (by omega:d<=4) with⟨b1,_⟩ |⟨b1,b2,b3,b4,b5,b6,b7⟩
 ·rw[b1] at hn;have:=hn.2.1;omega
 have rA:=Ds b1;have vm:=pR (a:=(bq w h).1) (y:=bk w h (cA w h s l) d/w/16) rA.1 rA.2.1;have e:aR w h (bk w h (cA w h s l) d)=bk w h (cA w h s l) d/w/16*(bq w h).1+bk w h (cA w h s l) d%w/16:=by unfold aR;rw[ah b1]
 rw[<-e,b2,b3,e1,e2,he] at vm;rw[e1] at b4 b5;rw[e2] at b6 b7;obtain⟨k2,k1⟩:=vm;unfold eI;simp only[hW,hH];have hle:1<=l/(ay w h s).1->(ay w h s).1<=l:=λz=>by
  apply pr;intro y;have:=Int.ediv_eq_zero_of_lt l0 (b:=(ay w h s).1) U;omega
 have aes:1<=l%(ay w h s).1->1<=l:=λz=>by
  apply pr;intro y;have:l=0:=U;rw[this] at z;simp at z
 unfold dX at k2 b4 b5;unfold dY at k1 b6 b7;rcases zI with rfl |rfl |rfl |rfl<;>simp at k1 k2 b4 b5 b6 b7⊢
 ·rw[ah U];have:=hle U;omega
 ·rw[ah U];omega
 ·rw[ah U];omega
 ·rw[ah U];have:=aes U;omega
section
variable {g : bx} {more : Int} {goal : Int} {R : gO} {s : Int}
theorem HX (s:Int):((dG g.m s).C.length:Int)=(ay g.m.W g.m.H s).1*(ay g.m.W g.m.H s).2:=by
 have hz:=uD g.m.W g.m.H s
 show((jV g.m s ((ay g.m.W g.m.H s).1*(ay g.m.W g.m.H s).2).toNat).length:Int)=_
 rw[BI];omega
theorem Cq (h:cL g more) (hs:bC g.m.W g.m.H s) {c:Int} (c0:0<=c) (c1:c<(dG g.m s).C.length):bS g.m (cA g.m.W g.m.H s c)/\rd (dG g.m s).C c=rd g.m.C (cA g.m.W g.m.H s c)/\aR g.m.W g.m.H (cA g.m.W g.m.H s c)=s/\cE g.m.W g.m.H (cA g.m.W g.m.H s c)=c:=by
 rw[HX] at c1;have hg:=A6 hs c0 c1;refine⟨⟨hg.1,hg.2⟩,?_,EY hs c0 c1,afw hs c0 c1⟩
 show rd (jV g.m s _) c=_
 rw[Lo c0 (by have:=uD g.m.W g.m.H s;omega)]
theorem MZ (h:cL g more) (hs:bC g.m.W g.m.H s) {c d:Int} (c0:0<=c) (c1:c<(dG g.m s).C.length) (d0:0<=d) (d3:d<=3) (hn:0<=eI (dG g.m s) c d):eI (dG g.m s) c d<(dG g.m s).C.length/\bk g.m.W g.m.H (cA g.m.W g.m.H s c) d=cA g.m.W g.m.H s (eI (dG g.m s) c d):=by
 rw[HX] at c1⊢;exact Vi hs c0 c1 d0 d3 J J hn
theorem W_ (h:cL g more) (hs:bC g.m.W g.m.H s) {l:List aX} {K k:Int} {D:List Int} (hD:oI (dG g.m s) l K D) (hl: ∀x∈l,Way g.m goal (cA g.m.W g.m.H s x.Cell) (x.Key+k)): ∀(n:Nat) (c:Int),0<=c->c<(dG g.m s).C.length->rd D c≠ct->(rd D c).toNat<=n->Way g.m goal (cA g.m.W g.m.H s c) (rd D c+k):=by
 have ht:=Bv h hs;intro n
 induction n with
 |zero=>
  intro c c0 c1 hc hn;obtain⟨a1,a2,a3,a4⟩:=hD.dv c c0 c1 hc;rcases a4 with⟨x,x1,x2,x3⟩ |⟨c',d,b0,b1,d0,d3,b2,b3,b4⟩
  ·rw[<-x3,<-x2];exact hl x x1
  ·have:=(ht.2 c' b0 b1).1;have:=(hD.dv c' b0 b1 b2).1;omega
 |succ n ih=>
  intro c c0 c1 hc hn;obtain⟨a1,a2,a3,a4⟩:=hD.dv c c0 c1 hc;rcases a4 with⟨x,x1,x2,x3⟩ |⟨c',d,b0,b1,d0,d3,b2,b3,b4⟩
  ·rw[<-x3,<-x2];exact hl x x1
  ·have fi:=(ht.2 c' b0 b1).1;have hw:=ih c' b0 b1 b2 (by have:=(hD.dv c' b0 b1 b2).1;omega)
   obtain⟨e1,e2⟩:=MZ h hs b0 b1 d0 d3 (by rw[b3];exact c0)
   rw[b3] at e2;obtain⟨f1,f2,_,_⟩:=Cq h hs b0 b1;obtain⟨g1,g2,_,_⟩:=Cq h hs c0 c1;obtain⟨t,t0,t3,tb⟩:=D4 h.ok f1 g1 d0 d3 e2;rw[<-b4,f2];have:=Way.go t hw t0 t3 tb ⟨g1,by rw[<-g2];exact a3⟩
   rw[show rd D c'+rd g.m.C (cA g.m.W g.m.H s c')+k=rd D c'+k+rd g.m.C (cA g.m.W g.m.H s c') by omega]
   exact this
theorem WJ (h:cL g more) (hN:g.m.W*g.m.H<=1600) (hR:rf g R) (hg:bS g.m R.goal): ∀(n:Nat) (c:Int),0<=c->c<R.aN.length->rd R.aN c≠dN->(rd R.aN c).toNat<=n->Way g.m R.goal c (rd R.aN c):=by
 obtain⟨_,im,hw,hd⟩:=hR;have hx:=XC h hN hg hw.1;intro n
 induction n with
 |zero=>
  intro c c0 c1 hc hn;obtain⟨a1,a2,_,hp⟩:=hd.dv c c0 c1 hc;rcases hp with⟨p1,p2,p3⟩ |⟨b,e,p1,p2,p3,p4,p5⟩
  ·rw[<-p3];exact hx.w c p2
  ·have:=(F4 h p1 p3).2.2.1;have hb:=uh h hd.len_ p1;have:=(hd.dv b hb.1 hb.2 p2).2.1;omega
 |succ n ih=>
  intro c c0 c1 hc hn;obtain⟨a1,a2,_,hp⟩:=hd.dv c c0 c1 hc;rcases hp with⟨p1,p2,p3⟩ |⟨b,e,p1,p2,p3,p4,p5⟩
  ·rw[<-p3];exact hx.w c p2
  ·have hk:=(F4 h p1 p3).2.2.1;have hb:=uh h hd.len_ p1;have TJ:=(hd.dv b hb.1 hb.2 p2).2.1;have Uu:=ih b hb.1 hb.2 p2 U;have hle:=(hd.rel b p1 p2 e p3).2;rw[p4] at hle;have ev:rd R.aN c=rd R.aN b+e.kG:=U;have NP:=(yw p1).2;have hbs:=pe (fI h.ok NP);rw[ev];rcases p3 with⟨q1,q2,q3,T,q4,q5⟩ |⟨q1,q2,⟨d,d0,d3,q3⟩,q4⟩
   ·have oX:=(qE q1).2.1;have ku:=(qE q1).2.2.2;have eO:=uy h oX;rw[ku] at eO;have:=W_ (k:=rd R.aN b) h hbs q4 (λx hx=>by
     simp only[nh,ra,or_false] at hx;subst hx;simp only;rw[nX (fI h.ok NP),Int.zero_add];exact Uu) _ _ eO.1 eO.2.1 (by rw[<-q5];exact q3) (jW _)
    have eg:=nX (fI h.ok oX);rw[ku] at eg;rw[eg,<-q5,p4] at this;rw[Int.add_comm];exact this
   ·have oX:=yw q1;rw[p4] at oX q3;obtain⟨t,t0,t3,tb⟩:=D4 h.ok NP oX.2 d0 d3 q3.symm;rw[q4];exact Way.go t Uu t0 t3 tb (ph.1 oX.1)
theorem ahV (h:cL g more) (hs:bC g.m.W g.m.H s) {l:List aX} {K:Int} {D:List Int} (hD:oI (dG g.m s) l K D): ∀(n:Nat) (c:Int),0<=c->c<(dG g.m s).C.length->rd D c≠ct->(rd D c).toNat<=n-> ∃x∈l,∀T,zh (dG g.m s) x.Cell T->rd T c≠ct/\rd T c+x.Key<=rd D c:=by
 have ht:=Bv h hs;have self: ∀(c:Int) (x:aX),x∈l->x.Cell=c->x.Key=rd D c-> ∃x∈l,∀T,zh (dG g.m s) x.Cell T->rd T c≠ct/\rd T c+x.Key<=rd D c:=λc x x1 x2 x3=>
  ⟨x,x1,λT hT=>by
    obtain⟨a,b⟩:=hT.sd ⟨x.Cell,4,0⟩ bp;simp only at a b;rw[x2] at a b;exact⟨a,by omega⟩⟩
 intro n
 induction n with
 |zero=>
  intro c c0 c1 hc hn;obtain⟨a1,a2,a3,a4⟩:=hD.dv c c0 c1 hc;rcases a4 with⟨x,x1,x2,x3⟩ |⟨c',d,b0,b1,d0,d3,b2,b3,b4⟩
  ·exact self c x x1 x2 x3
  ·have:=(ht.2 c' b0 b1).1;have:=(hD.dv c' b0 b1 b2).1;omega
 |succ n ih=>
  intro c c0 c1 hc hn;obtain⟨a1,a2,a3,a4⟩:=hD.dv c c0 c1 hc;rcases a4 with⟨x,x1,x2,x3⟩ |⟨c',d,b0,b1,d0,d3,b2,b3,b4⟩
  ·exact self c x x1 x2 x3
  ·have fi:=(ht.2 c' b0 b1).1;obtain⟨x,x1,x2⟩:=ih c' b0 b1 b2 (by have:=(hD.dv c' b0 b1 b2).1;omega)
   refine⟨x,x1,λT hT=>?_⟩
   obtain⟨y1,y2⟩:=x2 T hT;obtain⟨z1,z2⟩:=hT.nb c' d b0 b1 y1 d0 d3 (by rw[b3];exact c0) (by rw[b3];exact a3)
   rw[b3] at z1 z2;exact⟨z1,by omega⟩
theorem aiW (h:cL g more) (hg:bS g.m goal) {im:List (Int×Int)} (hx:FA g goal im) (ho:nL g.m goal) {T:List Int} (hT:zh (dG g.m (aR g.m.W g.m.H goal)) (cE g.m.W g.m.H goal) T): ∀(n:Nat) (c:Int),0<=c->c<(dG g.m (aR g.m.W g.m.H goal)).C.length->rd T c≠ct->(rd T c).toNat<=n->ck im (cA g.m.W g.m.H (aR g.m.W g.m.H goal) c)=true/\aT im (cA g.m.W g.m.H (aR g.m.W g.m.H goal) c)<=rd T c:=by
 have hs:=pe (fI h.ok hg);have ht:=Bv h hs;have eg:=nX (fI h.ok hg);have self: ∀c:Int,(∃x∈[(⟨cE g.m.W g.m.H goal,4,0⟩:aX)],x.Cell=c/\x.Key=rd T c)->ck im (cA g.m.W g.m.H (aR g.m.W g.m.H goal) c)=true/\aT im (cA g.m.W g.m.H (aR g.m.W g.m.H goal) c)<=rd T c:=λc ⟨x,x1,x2,x3⟩=>by
  simp only[nh,ra,or_false] at x1;subst x1;simp only at x2 x3;subst x2;rw[eg];have:=hx.st ho;exact⟨this.1,by omega⟩
 intro n
 induction n with
 |zero=>
  intro c c0 c1 hc hn;obtain⟨a1,a2,a3,a4⟩:=hT.dv c c0 c1 hc;rcases a4 with z |⟨c',d,b0,b1,d0,d3,b2,b3,b4⟩
  ·exact self c z
  ·have:=(ht.2 c' b0 b1).1;have:=(hT.dv c' b0 b1 b2).1;omega
 |succ n ih=>
  intro c c0 c1 hc hn;obtain⟨a1,a2,a3,a4⟩:=hT.dv c c0 c1 hc;rcases a4 with z |⟨c',d,b0,b1,d0,d3,b2,b3,b4⟩
  ·exact self c z
  ·have fi:=(ht.2 c' b0 b1).1;obtain⟨i1,i2⟩:=ih c' b0 b1 b2 (by have:=(hT.dv c' b0 b1 b2).1;omega)
   obtain⟨e1,e2⟩:=MZ h hs b0 b1 d0 d3 (by rw[b3];exact c0)
   rw[b3] at e2;obtain⟨_,f2,_,_⟩:=Cq h hs b0 b1;obtain⟨g1,g2,g3,_⟩:=Cq h hs c0 c1;obtain⟨j1,j2⟩:=hx.cl _ i1 d _ ⟨d0,d3,e2.symm,⟨g1,by rw[<-g2];exact a3⟩,g3⟩
   exact⟨j1,by rw[<-f2] at j2;omega⟩
def EV (g:bx) (R:gO) (s:Int) (D:List Int):Prop:= ∃l K,(∀y,y∈l↔xu g R s y)/\oI (dG g.m s) l K D
theorem Vm (h:cL g more) {n d:Int} (hn:nL g.m n) (ho:0<=fo g.m.W g.m.H n d):node g.m n:=by
 have hc:=fI h.ok hn.1;have b_:=zQ hc;have hs:=pe hc;have qz:=HD ho;unfold node bP;rw[List.mem_filter];refine⟨?_,ph.2 hn⟩;unfold qK vx;rw[List.mem_map];refine⟨(cE g.m.W g.m.H n).toNat,?_,by rw[show(((cE g.m.W g.m.H n).toNat:Nat):Int)=cE g.m.W g.m.H n by omega,nX hc]⟩
 rw[List.mem_filter,List.mem_range];refine⟨by omega,?_⟩
 unfold Bs;rw[show(((cE g.m.W g.m.H n).toNat:Nat):Int)=cE g.m.W g.m.H n by omega,nX hc]
 have hd:d=0∨d=1∨d=2∨d=3:=by have:=qz.2.1;have:=qz.2.2.1;omega
 simp only[zj];rcases hd with rfl |rfl |rfl |rfl<;>simp[ho]
theorem VF {w h c d:Int} (h0:0<=bk w h c d) (bK:aR w h (bk w h c d)≠aR w h c):fo w h c d=bk w h c d:=by
 unfold fo;rw[ak];rintro(z |z)
 ·omega
 ·exact bK z
theorem agk (h:cL g more) (hN:g.m.W*g.m.H<=1600) (hR:rf g R) (hg:bS g.m R.goal) {c:Int} (hc:node g.m c) {D:List Int} (hD:EV g R (aR g.m.W g.m.H c) D) (bK:rd D (cE g.m.W g.m.H c)≠ct):rd R.aN c≠dN/\rd R.aN c<=rd D (cE g.m.W g.m.H c):=by
 obtain⟨l,K,hl,hS⟩:=hD;have JP:=hR;obtain⟨_,im,hw,hd⟩:=hR;have hx:=XC h hN hg hw.1;have oX:=(yw hc).2;have ku:=pe (fI h.ok oX);have ht:=Bv h ku;have eO:=uy h oX;obtain⟨x,x1,x2⟩:=ahV h ku hS _ _ eO.1 eO.2.1 bK (jW _);have Xj: ∀q:Int,nL g.m q->aR g.m.W g.m.H q=aR g.m.W g.m.H c-> ∃T,zh (dG g.m (aR g.m.W g.m.H c)) (cE g.m.W g.m.H q) T:=λq hq e=>by
  have xZ:=uy h hq.1;rw[e,Ed hq.1] at xZ;obtain⟨r,_,hr⟩:=Xl ht xZ.1 xZ.2.1 (by rw[xZ.2.2];exact hq.2)
  exact⟨r.1,hr.1⟩
 rcases(hl x).1 x1 with⟨q,hq,e,he,Cx,ex⟩ |⟨e1,e2,ex⟩
 ·obtain⟨q1,q2,_,q4⟩:=qE hq;obtain⟨d,d0,d3,o1,eE⟩:=F5 he;have hqo:=ph.1 q1;have hyo:=ph.1 o1;have qz:=HD (w:=g.m.W) (h:=g.m.H) (c:=q) (side:=d) hyo.1.1;subst eE;simp only at Cx ex;obtain⟨v1,v2,v3,v4,_⟩:=FV hN JP Cx;have hlen:=hd.len_;have hny:=(hd.dv _ v1.1 (by have:=v1.2;omega) v2).1
  obtain⟨t,t0,t3,tb⟩:=D4 h.ok q2 v1 d0 d3 qz.2.2.2.2.1.symm;have Ub:node g.m q:=by unfold node;rw[q4];exact hq
  have xR:Comes g.m (fo g.m.W g.m.H q d) ⟨q,rd g.m.C (fo g.m.W g.m.H q d)⟩:= .inr ⟨Ub,λz=>qz.2.2.2.2.2 z.symm,⟨t,t0,t3,tb.symm⟩,J⟩
  obtain⟨r1,r2⟩:=hd.rel _ hny v2 _ xR;simp only at r1 r2;obtain⟨T,hT⟩:=Xj q hqo q4;obtain⟨y1,y2⟩:=x2 T (by rw[ex];exact hT)
  have hTc:=(hT.dv _ eO.1 eO.2.1 y1).1;rw[ex] at y2;simp only at y2;rw[v3] at y2
  by_cases z:c=q
  ·rw[z] at y2 hTc⊢;exact⟨r1,by omega⟩
  ·have aef:Comes g.m q ⟨c,rd T (cE g.m.W g.m.H c)⟩:= .inl ⟨by rw[q4];exact hc,z,y1,T,by rw[q4];exact hT,J⟩
   obtain⟨w1,w2⟩:=hd.rel q Ub r1 _ aef;simp only at w1 w2;exact⟨w1,by omega⟩
 ·have TV:nL g.m R.goal:=C9.1 ⟨hg,e2⟩;rw[<-e1] at eO x2 ku;obtain⟨T,hT⟩:=Xj R.goal TV e1;rw[<-e1] at hT;obtain⟨y1,y2⟩:=x2 T (by rw[ex];exact hT)
  obtain⟨i1,i2⟩:=aiW h hg hx TV hT _ _ eO.1 eO.2.1 y1 (jW _);have eg:=nX (fI h.ok oX);rw[<-e1] at eg;rw[eg] at i1 i2;obtain⟨w1,w2⟩:=hd.sd c (by rw[e1];exact hc) i1
  rw[ex] at y2;simp only at y2;exact⟨w1,by omega⟩
theorem WX (h:cL g more) (hN:g.m.W*g.m.H<=1600) (hR:rf g R) (hg:bS g.m R.goal) (hex: ∀s,bC g.m.W g.m.H s-> ∃D,EV g R s D) {c n side k:Int} (lY:nL g.m n) (pK:nL g.m c) (s0:0<=side) (s3:side<=3) (mo:bk g.m.W g.m.H n side=c) (z:aR g.m.W g.m.H c≠aR g.m.W g.m.H n)
 (ih: ∀D,EV g R (aR g.m.W g.m.H c) D->rd D (cE g.m.W g.m.H c)≠ct/\rd D (cE g.m.W g.m.H c)<=k): ∃x,xu g R (aR g.m.W g.m.H n) x/\x.Cell=cE g.m.W g.m.H n/\x.cK=side/\x.Key<=k+rd g.m.C c:=by
 have iR:=fI h.ok lY.1;have tV:=fI h.ok pK.1;obtain⟨t,t0,t3,tb⟩:=D4 h.ok lY.1 pK.1 s0 s3 mo;have O':fo g.m.W g.m.H n side=c:=by rw[VF (by rw[mo];exact pK.1.1) (by rw[mo];exact z),mo]
 have ov2:fo g.m.W g.m.H c t=n:=by rw[VF (by rw[tb];exact lY.1.1) (by rw[tb];exact λy=>z y.symm),tb]
 have xY:=Vm h lY (d:=side) (by rw[O'];exact pK.1.1)
 have Kh:=Vm h pK (d:=t) (by rw[ov2];exact lY.1.1)
 obtain⟨D2,Sm⟩:=hex _ (pe tV);obtain⟨i1,i2⟩:=ih D2 Sm;obtain⟨r1,r2⟩:=agk h hN hR hg Kh Sm i1;have eA:qW g R c=rd R.aN c:=by unfold qW;rw[ah ⟨pK.1,r1⟩]
 have hA:qW g R c≠ct:=by
  obtain⟨_,im,hw',hd⟩:=hR;have zH:=hd.len_;have:=(hd.dv c pK.1.1 (by have:=pK.1.2;omega) r1).2.2.1
  have h1:RB=104538400:=rfl;have h2:ct=1099511627776:=rfl;rw[eA];omega
 have xS:(⟨c,rd g.m.C c⟩:ez)∈uq g.m n:=by
  unfold uq wX;rw[ah (ph.2 lY),List.mem_map];refine⟨side.toNat,List.mem_filter.2 ⟨List.mem_range.2 U,?_⟩,?_⟩
  ·rw[show((side.toNat:Nat):Int)=side by omega,O'];exact ph.2 pK
  ·rw[show((side.toNat:Nat):Int)=side by omega,O']
 refine⟨_,.inl ⟨n,xY,_,xS,hA,J⟩,J,?_,?_⟩
 ·simp only;rw[<-mo];exact PH iR s0 U (by rw[mo];exact tV)
 ·simp only;rw[eA];omega
theorem RZ (h:cL g more) (hN:g.m.W*g.m.H<=1600) (hR:rf g R) (hg:bS g.m R.goal) (hex: ∀s,bC g.m.W g.m.H s-> ∃D,EV g R s D) {c k:Int} (hw:Way g.m R.goal c k): ∀D,EV g R (aR g.m.W g.m.H c) D->rd D (cE g.m.W g.m.H c)≠ct/\rd D (cE g.m.W g.m.H c)<=k:=by
 induction hw with
 |here ho=>
  rintro D ⟨l,K,hl,hS⟩;have:=hS.sd ⟨cE g.m.W g.m.H R.goal,4,0⟩ ((hl _).2 (.inr ⟨J,(C9.2 ho).2,J⟩));exact this
 | @go c k n side hw s0 s3 mo lY ih=>
  intro D hD;have pK:=Im hw;have iR:=fI h.ok lY.1;have tV:=fI h.ok pK.1;obtain⟨t,t0,t3,tb⟩:=D4 h.ok lY.1 pK.1 s0 s3 mo
  by_cases z:aR g.m.W g.m.H c=aR g.m.W g.m.H n
  ·obtain⟨i1,i2⟩:=ih D (by rw[z];exact hD)
   obtain⟨l,K,hl,hS⟩:=hD;have hs:=pe tV;have eO:=uy h pK.1;have Ki:=uy h lY.1;have b_:=zQ tV;have MK:=nX tV;have N9:=Vh (t:=dG g.m (aR g.m.W g.m.H c)) hs b_.1 b_.2 t0 t3 J J (by rw[MK,tb];exact iR) (by rw[MK,tb];exact z.symm)
   obtain⟨e1,e2⟩:=MZ h hs eO.1 eO.2.1 t0 t3 N9;rw[MK,tb] at e2;have RP:eI (dG g.m (aR g.m.W g.m.H c)) (cE g.m.W g.m.H c) t=cE g.m.W g.m.H n:=by
    rw[e2,(Cq h hs N9 e1).2.2.2]
   have hcw:rd (dG g.m (aR g.m.W g.m.H c)).C (cE g.m.W g.m.H n)≠255:=by
    rw[z,Ki.2.2,Ed lY.1];exact lY.2
   rw[<-z] at hS;obtain⟨j1,j2⟩:=hS.nb _ t eO.1 eO.2.1 i1 t0 t3 N9 (by rw[RP];exact hcw)
   rw[RP] at j1 j2;rw[eO.2.2,Ed pK.1] at j2;exact⟨j1,by omega⟩
  ·obtain⟨l,K,hl,hS⟩:=hD;obtain⟨x,x1,x2,_,x4⟩:=WX h hN hR hg hex lY pK s0 s3 mo z ih;have:=hS.sd _ ((hl _).2 x1);rw[x2] at this;exact⟨this.1,by omega⟩
theorem abk (h:cL g more) (hN:g.m.W*g.m.H<=1600) (hR:rf g R) (hg:bS g.m R.goal) {c:Int} (hc:bS g.m c) {D:List Int} (hD:EV g R (aR g.m.W g.m.H c) D) (bK:rd D (cE g.m.W g.m.H c)≠ct):Way g.m R.goal c (rd D (cE g.m.W g.m.H c)):=by
 obtain⟨l,K,hl,hS⟩:=hD;have hs:=pe (fI h.ok hc);have eO:=uy h hc;have:=W_ (goal:=R.goal) (k:=0) h hs hS (λx hx=>by
  rw[Int.add_zero];rcases(hl x).1 hx with⟨q,hq,e,he,Cx,ex⟩ |⟨e1,e2,ex⟩
  ·obtain⟨q1,q2,_,q4⟩:=qE hq;obtain⟨d,d0,d3,o1,eE⟩:=F5 he;have qz:=HD (w:=g.m.W) (h:=g.m.H) (c:=q) (side:=d) (ph.1 o1).1.1;subst eE;simp only at Cx ex;obtain⟨v1,v2,v3,v4,_⟩:=FV hN hR Cx;have hlen:=hR.2.choose_spec.2.len_;have hw:=WJ h hN hR hg _ _ v1.1 (by have:=v1.2;omega) v2 (jW _)
   rw[ex];simp only;have eg:=nX (fI h.ok q2);rw[q4] at eg;rw[eg,v3,Int.add_comm];exact Way.go d hw d0 d3 qz.2.2.2.2.1.symm (ph.1 q1)
  ·rw[ex];simp only;rw[<-e1,nX (fI h.ok hg)];exact Way.here (C9.1 ⟨hg,e2⟩)) _ _ eO.1 eO.2.1 bK (jW _)
 rw[nX (fI h.ok hc),Int.add_zero] at this;exact this
end
section
variable {m : aG} {t : Int}
structure Up (m:aG) (t:Int) (D:List Int):Prop where
 len:D.length=m.C.length
 top: ∀c:Int,bS m c->rd D c<=(1099511627776:Int)
 xg: ∀c:Int,bS m c->rd D c<(1099511627776:Int)->Way m t c (rd D c)
 goal:rd D t<=0
abbrev Fp (m:aG) (D:List Int) (c s:Int):Prop:=(bS m (bk m.W m.H c s)/\rd m.C (bk m.W m.H c s)≠255)/\rd D (bk m.W m.H c s)<(1099511627776:Int)/\rd D (bk m.W m.H c s)+rd m.C (bk m.W m.H c s)<rd D c
abbrev xd (D:List Int):Int:=qc (rd D) D.length
theorem P0 (hc:xo m) {D:List Int} (h:Up m t D) {c:Int} (hi:bS m c):0<=rd D c:=by
 by_cases hd:rd D c<(1099511627776:Int)
 ·exact LC hc (h.xg c hi hd)
 ·omega
theorem abq (hm:nK m) (hc:xo m) {c:Int} (hi:bS m c): ∀(n k:Nat) (j:Int) (D:List Int) (b:Bool),(4-j).toNat<=n->n<k->0<=j->Up m t D->
 Ok (eV.l3 k m c D b j) (λr=>Up m t r.1/\((r.2=b/\r.1=D/\(rd m.C c≠255-> ∀s:Int,j<=s->s<=3-> ¬Fp m D c s))∨(r.2=true/\xd r.1+1<=xd D))):=by
 have hl:=hm.2.1;have wy:=hi.1;have rp:=hi.2;intro n
 induction n with
 |zero=>
  intro k j D b hj hk h0 hu;obtain⟨k,rfl⟩:=bw hk;rw[eV.l3,ak (c:=j<=3) U];exact Ok.pure ⟨hu,.inl ⟨J,J,λ_ s q1 q2=>by omega⟩⟩
 |succ n ih=>
  intro k j D b hj hk h0 hu;obtain⟨k,rfl⟩:=bw hk;have hD:=hu.len
  by_cases hw:rd m.C c≠255/\j<=3
  rotate_left
  ·rw[eV.l3];have e:(if j<=3 then(if(0<=c/\c<(aa m.C:Int)) then(some ((rd m.C c)!=255)) else none) else(some false))=some false:=by
    by_cases z:j<=3
    ·have:rd m.C c=255:=pr λy=>hw ⟨y,z⟩
     rw[ah z,ah ⟨wy,by omega⟩,this];rfl
    ·rw[ak z]
   rw[e];exact Ok.pure ⟨hu,.inl ⟨J,J,λq s q1 q2=>by omega⟩⟩
  rw[eV.l3,ah hw.2,ah ⟨wy,by omega⟩,aM,ah (by simpa using hw.1),WM,aM,wi (x:=j+1) U U]
  have aeg:(if bk m.W m.H c j≥0 then(if(0<=bk m.W m.H c j/\bk m.W m.H c j<(aa m.C:Int)) then(if((rd m.C (bk m.W m.H c j))!=255)=true then(if(0<=bk m.W m.H c j/\bk m.W m.H c j<(aa D:Int)) then(if(rd D (bk m.W m.H c j))<1099511627776 then(if(0<=c/\c<(aa D:Int)) then(some (decide ((af ((rd D (bk m.W m.H c j))+(af (rd m.C (bk m.W m.H c j)))))<(rd D c)))) else none) else(some false)) else none) else(some false)) else none) else(some false))=some (decide (Fp m D c j)):=by
   by_cases hn:bk m.W m.H c j<0
   ·rw[ak U,decide_eq_false (λq=>by have:=q.1.1.1;omega)]
   ·have b_:=Lk hn;have TX:=b_.2;have iR:=hc _ b_;have t1:=hu.top _ b_;have t0:=P0 hc hu b_;rw[ah U,ah ⟨b_.1,by omega⟩]
    by_cases hw:rd m.C (bk m.W m.H c j)=255
    ·rw[ak (by simpa using hw),decide_eq_false (λq=>q.1.2 hw)]
    ·rw[ah (by simpa using hw),ah ⟨b_.1,by omega⟩]
     by_cases aS:rd D (bk m.W m.H c j)<(1099511627776:Int)
     ·rw[ah aS,ah ⟨wy,by omega⟩,wi (x:=rd m.C _) U U,wi U U]
      congr 1
      rw[nM];simp[b_,hw,aS]
     ·rw[ak aS,decide_eq_false (λq=>aS q.2.1)]
  refine Ok.eq aeg (Ok.ite (λhq=>?_) λhq=>?_)
  ·obtain⟨q1,q2,q3⟩:=of_decide_eq_true hq;have TX:=q1.1.2;have iR:=hc _ q1.1;have t0:=P0 hc hu q1.1;have tc:=hu.top c hi;rw[wi (x:=rd m.C _) U U,wi (x:=_+_) U U];refine Ok.br ⟨q1.1.1,by omega⟩ (Ok.br ⟨q1.1.1,by omega⟩ (Ok.br ⟨wy,by omega⟩ ?_))
   have Oq:=Way.go j (hu.xg _ q1.1 q2) h0 hw.2 J ⟨hi,hw.1⟩;generalize rd D (bk m.W m.H c j)+rd m.C (bk m.W m.H c j)=v at q3 Oq⊢;have sI: ∀x:Int,0<=x->rd (aD D c.toNat v) x=if x=c then v else rd D x:=λx x0=>mr wy U x0
   have Ex:xd (aD D c.toNat v)+1<=xd D:=by
    show qc _ (aD D c.toNat v).length+1<=_
    rw[nO];refine PQ (c:=c) _ wy U (by rw[sI c wy,ah J];omega) λi i0 i1 ic=>by rw[sI i i0,ak ic]
   have kz:=(Xz Oq).1.1;have Kq:Up m t (aD D c.toNat v):=by
    refine⟨by simpa using hD,λx hx=>?_,λx hx aS=>?_,?_⟩
    ·rw[sI x hx.1];split
     ·omega
     ·exact hu.top x hx
    ·rw[sI x hx.1] at aS⊢;split at aS
     ·rename_i q;rw[ah q,q];exact Oq
     ·rename_i q;rw[ak q];exact hu.xg x hx aS
    ·rw[sI t kz];have:=hu.goal;split
     ·rename_i q;rw[q] at this;omega
     ·exact this
   refine(ih k (j+1) _ true U U U Kq).mono λr hr=>⟨hr.1,.inr ?_⟩
   rcases hr.2 with⟨a1,a2,_⟩ |⟨a1,a2⟩
   ·exact⟨a1,by rw[a2];exact Ex⟩
   ·exact⟨a1,by omega⟩
  ·refine(ih k (j+1) D b U U U hu).mono λr hr=>⟨hr.1,?_⟩
   rcases hr.2 with⟨a1,a2,a3⟩ |a
   ·refine .inl ⟨a1,a2,λq s s0 s3=>?_⟩
    by_cases hs:s=j
    ·rw[hs];simpa using hq
    ·exact a3 q s U s3
   ·exact .inr a
theorem abp (hm:nK m) (hc:xo m): ∀(n k:Nat) (i:Int) (D:List Int) (b:Bool),(2*m.C.length-i).toNat<=n->n<k->0<=i->Up m t D->
 Ok (eV.l2 k m D b i) (λr=>Up m t r.1/\((r.2=b/\r.1=D/\ ∀c:Int,nL m c->i<=c-> ∀s:Int,0<=s->s<=3-> ¬Fp m D c s)∨(r.2=true/\xd r.1+1<=xd D))):=by
 have hl:=hm.2.1;have Oa:=pP hm.1;have fin: ∀(k:Nat) (i:Int) (D:List Int) (b:Bool),¬i<2*m.C.length->Up m t D->Ok (eV.l2 (k+1) m D b i) (λr=>Up m t r.1/\((r.2=b/\r.1=D/\ ∀c:Int,nL m c->i<=c-> ∀s:Int,0<=s->s<=3-> ¬Fp m D c s)∨(r.2=true/\xd r.1+1<=xd D))):=λk i D b hi hu=>by
  rw[eV.l2,wi U U,ak hi];exact Ok.pure ⟨hu,.inl ⟨J,J,λc hc q=>by have:=hc.1.2;omega⟩⟩
 intro n
 induction n with
 |zero=>
  intro k i D b hi hk h0 hu;obtain⟨k,rfl⟩:=bw hk;exact fin k i D b U hu
 |succ n ih=>
  intro k i D b hi hk h0 hu;obtain⟨k,rfl⟩:=bw hk
  by_cases aS:i<2*m.C.length
  rotate_left
  ·exact fin k i D b aS hu
  have hx: ∃c:Int,bS m c/\(i<m.C.length->c=i)/\(if i≥(aa m.C:Int) then(some (af ((af ((af (2*(aa m.C:Int)))-1))-i))) else(some i))=some c:=by
   by_cases hq:i≥(aa m.C:Int)
   ·rw[ah hq,wi (x:=2*_) U U,wi (x:=_-1) U U,wi U U];exact⟨_,⟨by omega,by omega⟩,λq=>by omega,J⟩
   ·rw[ak hq];exact⟨i,⟨h0,by omega⟩,λ_=>rfl,J⟩
  obtain⟨c,pH,J4,e⟩:=hx;rw[eV.l2,e,aM,wi (x:=2*_) U U,ah aS,wi U U];refine(abq hm hc pH 4 fuel 0 D b U (by rw[de];omega) U hu).bind λr1 h1=>(ih k (i+1) r1.1 r1.2 U U U h1.1).mono λr2 h2=>⟨h2.1,?_⟩
  obtain⟨D1,b1⟩:=r1;rcases h1.2 with⟨a1,a2,a3⟩ |⟨a1,a2⟩
  ·simp only at a1 a2 h2;subst a1 a2;rcases h2.2 with⟨p1,p2,p3⟩ |p
   ·refine .inl ⟨p1,p2,λx hx vi s s0 s3=>?_⟩
    by_cases hq:x=i
    ·have ya:=hx.1.2;have oX:=J4 U;rw[hq,<-oX];rw[hq,<-oX] at hx;exact a3 hx.2 s s0 s3
    ·exact p3 x hx U s s0 s3
   ·exact .inr p
  ·simp only at a1 a2 h2;rcases h2.2 with⟨p1,p2,_⟩ |⟨p1,p2⟩
   ·exact .inr ⟨by rw[p1,a1],by rw[p2];exact a2⟩
   ·exact .inr ⟨p1,by omega⟩
theorem abo (hm:nK m) (hc:xo m): ∀(n k:Nat) (D:List Int),xd D<=n->n+1<k->Up m t D->Ok (eV.l1 k m D true) (AE m t):=by
 have hl:=hm.2.1;have Oa:=pP hm.1;intro n
 induction n with
 |zero=>?_
 |succ n ih=>?_
 all_goals
  intro k D hs hk hu;obtain⟨k,rfl⟩:=bw hk;rw[eV.l1,ah J];refine(abp hm hc (2*m.C.length) fuel 0 D false U (by rw[de];omega) U hu).bind λr hr=>?_
  obtain⟨D',b'⟩:=r;obtain⟨jL,⟨a1,a2,a3⟩ |⟨a1,a2⟩⟩:=hr
  all_goals have jL:Up m t D':=jL
  ·simp only at a1 a2;subst a1 a2;obtain⟨k,rfl⟩:=bw (show 0<k by omega)
   show Ok (eV.l1 (k+1) m D' false) _
   rw[eV.l1,ak bp];refine Ok.pure ⟨hu.len,hu.xg,λc k hw=>?_,hu.top⟩
   induction hw with
   |here _=>exact hu.goal
   | @go c' k' n s h1 s0 s3 mo ho ih=>
    have tV:=hc c' (Im h1).1;have A':=LC hc h1;have:=hu.top n ho.1;have:=a3 n ho ho.1.1 s s0 s3;unfold Fp at this;rw[mo] at this;have pK:=Im h1
    by_cases q:rd D' c'<(1099511627776:Int)
    ·have: ¬rd D' c'+rd m.C c'<rd D' n:=λy=>this ⟨pK,q,y⟩
     omega
    ·omega
  ·simp only at a1 a2;have h0:0<=xd D':=PT _ λi i0 i1=>P0 hc jL ⟨i0,by have:=jL.len;omega⟩
   first
   |omega
   |rw[a1];exact ih k D' U U jL
theorem abr (hm:nK m) (hc:xo m) (ht:bS m t) (hb:m.C.length<=10000):Ok (eV.f m t) (AE m t):=by
 have hl:=hm.2.1;have ht2:=ht.2;have Oj:=ht.1;unfold eV.f;refine Ok.br U ?_;have key: ∀(n k:Nat) (i:Int) (x:List Int),(m.C.length-i).toNat<=n->n<k->0<=i->x.length=m.C.length->(∀j:Int,0<=j->j<i->j<m.C.length->rd x j=(1099511627776:Int))->
  Ok (eV.l0 k m t x i) (AE m t):=by
  have fin: ∀(k:Nat) (i:Int) (x:List Int),¬i<m.C.length->x.length=m.C.length->(∀j:Int,0<=j->j<i->j<m.C.length->rd x j=(1099511627776:Int))->Ok (eV.l0 (k+1) m t x i) (AE m t):=λk i x hi hx hr=>by
   have mm: ∀c,bS m c->rd x c=(1099511627776:Int):=λc hc=>by have:=hc.1;have:=hc.2;exact hr c U U U
   rw[eV.l0,ak hi,ahr hm,aM];refine Ok.ite (λq=>Ok.pure ⟨hx,λc hc aS=>?_,λc k hw=>?_,λc hc=>?_⟩) λq=>Ok.br ⟨Oj,by omega⟩ ?_
   ·rw[mm c hc] at aS;omega
   ·have:=ph.2 (Xz hw);rw[this] at q;simp at q
   ·rw[mm c hc];omega
   ·have ho:nL m t:=ph.1 (by simpa using q)
    have sI: ∀c:Int,0<=c->rd (aD x t.toNat 0) c=if c=t then 0 else rd x c:=λc c0=>mr Oj U c0
    have Kq:Up m t (aD x t.toNat 0):=by
     refine⟨by simpa using hx,λc hc=>?_,λc hc aS=>?_,?_⟩
     ·rw[sI c hc.1];split
      ·omega
      ·rw[mm c hc];omega
     ·rw[sI c hc.1] at aS⊢;split at aS
      ·rename_i q;rw[ah q,q];exact Way.here ho
      ·rw[mm c hc] at aS;omega
     ·rw[sI t Oj,ah J];omega
    have Ex:xd (aD x t.toNat 0)<=(aD x t.toNat 0).length*(1099511627776:Int):=PS _ λi i0 i1=>Kq.top i ⟨i0,by simp at i1;omega⟩
    rw[nO] at Ex;exact abo hm hc (10000*1099511627776) fuel _ U (by rw[de];omega) Kq
  intro n
  induction n with
  |zero=>
   intro k i x hi hk h0 hx hr;obtain⟨k,rfl⟩:=bw hk;exact fin k i x U hx hr
  |succ n ih=>
   intro k i x hi hk h0 hx hr;obtain⟨k,rfl⟩:=bw hk
   by_cases aS:i<m.C.length
   ·rw[eV.l0,ah aS,ah U,wi U U];refine ih k (i+1) _ U U U (by simpa using hx) (λj j0 j1 j2=>?_)
    rw[mr h0 U j0]
    by_cases hj:j=i
    ·rw[ah hj]
    ·rw[ak hj];exact hr j j0 U j2
   ·exact fin k i x aS hx hr
 exact key m.C.length fuel 0 _ U (by rw[de];omega) U bp (λj j0 j1=>by omega)
end
end Go.Proofs.YthodkonhneebbaaGreatDoor
