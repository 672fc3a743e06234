/- What the functions do, in plain Lean, on the objects that are kept in order. -/
import Derived.KernelRfl
import Derived.Test.YthodkonhneebbaaGreatDoorKD15
import Derived.Test.YthodkonhneebbaaGreatDoorKD16
import Derived.Test.YthodkonhneebbaaGreatDoorKD12
namespace Go.Proofs.YthodkonhneebbaaGreatDoor
open Go.Hx
open List renaming length->aa,replicate->ct,append_assoc->uz,length_append->yS
open Int renaming fdiv->fL
open Nat renaming le_refl->jM
open Bool renaming eq_iff_iff->nD
set_option linter.unusedVariables false
set_option linter.unusedSimpArgs false
section
variable {g : bw} {more : Int} {R : gI}
def gB (m:aF) (D:List Int) (c s:Int):Bool:=decide ((bP m (bj m.W m.H c s)/\rd m.C (bj m.W m.H c s)≠255)/\rd D (bj m.W m.H c s)+rd m.C (bj m.W m.H c s)=rd D c)
theorem agE {m:aF} (hm:nz m) (hc:w9 m) {t:Int} {D:List Int} (hf:Am m t D) {c:Int} (hi:bP m c):rm.f m t D c=some (if rd D c=cn then 5 else if c=t then 4 else if gB m D c 0=true then 0 else if gB m D c 1=true then 1 else if gB m D c 2=true then 2 else if gB m D c 3=true then 3 else 5):=by
 have hl:=hm.2.1;have hD:=hf.len;have wc:=hi.1;have qY:=hi.2;have TZ:=hf.top c hi;have hI:cn=1099511627776:=rfl;have jQ: ∀j:Int,(if bj m.W m.H c j≥0 then(if(0<=bj m.W m.H c j/\bj m.W m.H c j<(aa m.C:Int)) then(if((rd m.C (bj m.W m.H c j))!=255)=true then(if(0<=bj m.W m.H c j/\bj m.W m.H c j<(aa D:Int)) then(if(0<=c/\c<(aa D:Int)) then(some ((af ((rd D (bj m.W m.H c j))+(af (rd m.C (bj m.W m.H c j)))))==(rd D c))) else none) else none) else(some false)) else none) else(some false))=some (gB m D c j):=λj=>by
  unfold gB
  by_cases hn:bj m.W m.H c j<0
  ·rw[aj U,decide_eq_false (λq=>by have:=q.1.1.1;omega)]
  ·have bY:=K4 hn;have TD:=bY.2;have ja:=hc _ bY;have t1:=hf.top _ bY;have t0:=aaX hc hf bY;rw[ah U,ah ⟨bY.1,by omega⟩]
   by_cases hw:rd m.C (bj m.W m.H c j)=255
   ·rw[aj (by simpa using hw),decide_eq_false (λq=>q.1.2 hw)]
   ·rw[ah (by simpa using hw),ah ⟨bY.1,by omega⟩,ah ⟨wc,by omega⟩,wi (x:=rd m.C _) U U,wi U U]
    congr 1
    rw[nD];simp[bY,hw]
 unfold rm.f;rw[ah ⟨wc,by omega⟩]
 by_cases hq:rd D c=cn
 ·rw[ah U,ah hq]
 ·rw[aj U,aj hq]
  by_cases JP:c=t
  ·rw[ah (by simpa using JP),ah JP]
  ·rw[aj (by simpa using JP),aj JP]
   obtain⟨q,e⟩: ∃q,fuel=q+5:=⟨fuel-5,by rw[cY]⟩
   rw[e];simp only[rm.l0,Wo,aM,jQ,wi (x:=(0:Int)+1) U U,wi (x:=(0:Int)+1+1) U U,wi (x:=(0:Int)+1+1+1) U U,wi (x:=(0:Int)+1+1+1+1) U U];simp
   repeat' split
   all_goals rfl
theorem ahh (h:cL g more) {x:Int} (hx:bP g.m x) {y:aX} (hy:xd g R (aQ g.m.W g.m.H x) y) (e:y.Cell=cy g.m.W g.m.H x) (hg:bP g.m R.goal):
 (y.cH=4/\x=R.goal/\y.Key=0)∨(y.cH<=3/\nC g.m (bj g.m.W g.m.H x y.cH)/\qL g R (bj g.m.W g.m.H x y.cH)≠cn/\y.Key=rd g.m.C (bj g.m.W g.m.H x y.cH)+qL g R (bj g.m.W g.m.H x y.cH)):=by
 have gw:=fM h.ok hx;have lA:=nR gw;rcases hy with⟨c',mc,E,he,ha,rfl⟩ |⟨a,_,rfl⟩
 ·obtain⟨_,n2,_,n4⟩:=qt mc;obtain⟨d',d0',d3',d4',rfl⟩:=FV he;simp only at e ha;have adM:c'=x:=by
   have h1:=nR (fM h.ok n2);rw[n4,e,lA] at h1;exact h1.symm
  subst adM;have aR:=o0.1 d4';have qm:=Hh (w:=g.m.W) (h:=g.m.H) (c:=c') (side:=d') aR.1.1;have ho:=qm.2.2.2.2.1;rw[ho] at aR ha;have Cr:Df g.m.W g.m.H c' (bj g.m.W g.m.H c' d')=d':=Ph gw d0' U (fM h.ok aR.1);simp only[ho,Cr];exact .inr ⟨d3',aR,ha,trivial⟩
 ·simp only at e;refine .inl ⟨J,?_,J⟩;have h1:=nR (fM h.ok hg);rw[a,e,lA] at h1;exact h1
structure PV (g:bw) (goal s:Int) (f:gp):Prop where
 len_:(f.ez.length:Int)=(ay g.m.W g.m.H s).1*(ay g.m.W g.m.H s).2/\f.cK.length=f.ez.length
 ex: ∀D,Am g.m goal D-> ∀x,bP g.m x->aQ g.m.W g.m.H x=s->rd f.ez (cy g.m.W g.m.H x)=rd D x/\rm.f g.m goal D x=some (rd f.cK (cy g.m.W g.m.H x))
theorem aa9 {n:cF} {k b:Int} {ord:List Int} {c:fe} {goal s:Int} {r:gp×Er×cF} (eI:PU c b) (hg:bP c.aL.m goal) (hs:bC c.aL.m.W c.aL.m.H s) (h:DC n k b ord c goal s r):PV c.aL goal s r.1:=by
 obtain⟨R,l,_,_,f1,f2,f3,f4,_,f6,_⟩:=h.F2;have hG:=eI.gs;have hN:=eI.mF;have MG:=Rc hG;have R9:KF=104603678:=rfl;have hI:cn=1099511627776:=rfl;subst f2;have JT:EV c.aL R s r.1.ez:=⟨l,KF,f4,f6.aN⟩;have hex: ∀s,bC c.aL.m.W c.aL.m.H s-> ∃D,EV c.aL R s D:=λs hs=>by
  obtain⟨l,_,l1,l2,_⟩:=Uk hG hN f1 s;obtain⟨f,_,_,hf⟩:=RF (K:=KF) (Bh hG hs) (l:=l) U U (λx hx=>Wz hG hN f1 hg hs ((l2 x).1 hx));exact⟨f.1.ez,l,KF,l2,hf.aN⟩
 refine⟨⟨by rw[f6.aN.dl];exact KW s,by rw[f6.dl,f6.aN.dl]⟩,λD hD=>?_⟩
 have RE: ∀x,bP c.aL.m x->aQ c.aL.m.W c.aL.m.H x=s->rd r.1.ez (cy c.aL.m.W c.aL.m.H x)=rd D x:=λx hx es=>by
  have eH:=ud hG hx;rw[es] at eH;have TZ:=hD.top x hx;have hle:rd r.1.ez (cy c.aL.m.W c.aL.m.H x)≠cn->rd D x<=rd r.1.ez (cy c.aL.m.W c.aL.m.H x)/\rd r.1.ez (cy c.aL.m.W c.aL.m.H x)<=KF:=λz=>
   ⟨hD.le _ _ (aa1 hG hN f1 hg hx (by rw[es];exact JT) z),(f6.aN.dv _ eH.1 eH.2.1 z).2.1⟩
  by_cases q:rd D x<(1099511627776:Int)
  ·obtain⟨a1,a2⟩:=RG hG hN f1 hg hex (hD.wV x hx q) _ (by rw[es];exact JT)
   have:=hle a1;omega
  ·by_cases z:rd r.1.ez (cy c.aL.m.W c.aL.m.H x)=cn
   ·omega
   ·have:=hle z;omega
 intro x hx es;have gw:=fM hG.ok hx;have eH:=ud hG hx;have Gv:=zD gw;have lA:=nR gw;have eD:=RE x hx es;refine⟨eD,?_⟩;rw[agE hG.ok MG hD hx];rw[es] at eH Gv lA;rw[f6.dir _ eH.1 eH.2.1];unfold DW;rw[eD]
 by_cases z:rd D x=cn
 ·rw[ah z,ah z]
 rw[aj z,aj z];have TZ:=hD.top x hx;have J4:=HY (hD.wV x hx U);have bs:=λside=>ZI (l:=l) U (cy c.aL.m.W c.aL.m.H x) side;have at_: ∀y∈l,y.Cell=cy c.aL.m.W c.aL.m.H x->_:=λy hy e=>ahh hG hx (y:=y) (by rw[es];exact(f4 y).1 hy) e hg
 by_cases q:x=R.goal
 ·have h0:rd D x=0:=by rw[q];exact aaW MG hD (q▸J4)
  have hb:uG l (cy c.aL.m.W c.aL.m.H x) 4=0:=by
   obtain⟨b1,b2⟩:=bs 4;rcases b1 with⟨_,b1⟩ |⟨y,y1,y2,y3,y4⟩
   ·exact absurd ⟨J,J⟩ (b1 ⟨cy c.aL.m.W c.aL.m.H x,4,0⟩ ((f4 _).2 (.inr ⟨by rw[<-q];exact es,by rw[<-q];exact(CW.2 J4).2,by rw[q]⟩)))
   ·rcases at_ y y1 y2 with⟨_,_,w⟩ |⟨w,_⟩
    ·omega
    ·omega
  rw[ah q,ah U]
 have hb: ¬rd D x=uG l (cy c.aL.m.W c.aL.m.H x) 4:=λw=>by
  rcases(bs 4).1 with⟨b1,_⟩ |⟨y,y1,y2,y3,y4⟩
  ·omega
  ·rcases at_ y y1 y2 with⟨_,w,_⟩ |⟨w,_⟩
   ·exact q w
   ·omega
 rw[aj q,aj hb];have jQ: ∀j:Int,0<=j->j<=3->gB c.aL.m D x j=AD (dC c.aL.m s) l r.1.ez (cy c.aL.m.W c.aL.m.H x) j:=λj j0 j3=>by
  unfold gB AD;rw[eD]
  by_cases w:eG (dC c.aL.m s) (cy c.aL.m.W c.aL.m.H x) j<0
  ·rw[ah w,nD,decide_eq_true_iff,beq_iff_eq];obtain⟨b1,b2⟩:=bs j;constructor
   ·rintro⟨ho,e⟩;have hos:aQ c.aL.m.W c.aL.m.H (bj c.aL.m.W c.aL.m.H x j)≠aQ c.aL.m.W c.aL.m.H x:=λv=>by
     have:=U0 (t:=dC c.aL.m s) hs Gv.1 Gv.2 j0 j3 J J (by rw[lA];exact fM hG.ok ho.1) (by rw[lA,v,es])
     omega
    have eI:=MG _ ho.1;have GF:=hD.wV _ ho.1 U;obtain⟨y,y1,y2,y3,y4⟩:=Wy hG hN f1 hg hex J4 ho j0 j3 J hos (RG hG hN f1 hg hex GF);rw[es] at y1;have yl:=(f4 y).2 y1;have:=b2 y yl y2 y3;rcases b1 with⟨_,b1⟩ |⟨y',v1,v2,v3,v4⟩
    ·exact absurd ⟨y2,y3⟩ (b1 y yl)
    ·have:=(f6.aN.sd y' v1).2;rw[v2,eD] at this;omega
   ·intro e;rcases b1 with⟨b1,_⟩ |⟨y,v1,v2,v3,v4⟩
    ·omega
    ·rcases at_ y v1 v2 with⟨w,_⟩ |⟨_,w1,w2,w3⟩
     ·omega
     ·rw[v3] at w1 w2 w3;obtain⟨u1,u2,u3,_,u5⟩:=FK hN f1 w2;have hlen:=f1.2.choose_spec.2.len_;have xz:RB=104538400:=rfl;have d1:=hD.le _ _ (Wk hG hN f1 hg _ _ u1.1 (by have:=u1.2;omega) u2 (jM _))
      have d2:=hD.le _ _ (Way.go j (hD.wV _ u1 U) j0 j3 J J4);exact⟨w1,by omega⟩
  ·rw[aj w];obtain⟨q1,q2⟩:=U1 hs Gv.1 Gv.2 j0 j3 (t:=dC c.aL.m s) J J U;rw[lA] at q2;obtain⟨k1,k2,k3,k4⟩:=D0 (c:=eG (dC c.aL.m s) (cy c.aL.m.W c.aL.m.H x) j) hG hs U (by rw[KW];exact q1)
   have:=RE _ k1 k3;rw[k4] at this;rw[q2,this,k2,nD,decide_eq_true_iff,decide_eq_true_iff];constructor
   ·rintro⟨a,b⟩;exact⟨a.2,by omega⟩
   ·rintro⟨a,b⟩;exact⟨⟨k1,a⟩,by omega⟩
 unfold Pg;rw[jQ 0 U U,jQ 1 U U,jQ 2 U U,jQ 3 U U]
end
theorem WT (A B:List Int):aB (A++B) (A.length:Int) ((A++B).length:Int)=B:=by
 unfold aB;simp;exact List.take_of_length_le U
theorem agG {m:aF} (hm:sV m) {b:List Int} (hw:rd b 0+256*rd b 1=m.W) (hh:rd b 2+256*rd b 3=m.H) (u0:dQ (rd b 0)) (u1:dQ (rd b 1)) (u2:dQ (rd b 2)) (u3:dQ (rd b 3)):
 ∀(n k:Nat) (i:Int) (x:List Int),i+n=dB m.W m.H->0<=i->n<k->(outs m n i).length<=100000->(x.length:Int)=m.W*m.H->
 (∀c,0<=c->c<m.W*m.H->(∃s,0<=s/\s<i/\bC m.W m.H s/\oR m.W m.H s c)->rd x c=rd m.C c)->
 mB.l0 k b (dB m.W m.H) (outs m n i) x i=some (m,.nil):=by
 have ja:=nP m.W m.H;intro n
 induction n with
 |zero=>
  intro k i x hi i0 hk hr hx bY;obtain⟨k,rfl⟩:=bz hk;rw[mB.l0,uV u0 u1,uV u2 u3,hw,hh,aj U,aj (by simp[outs])]
  have:x=m.C:=by
   have h2:=hm.ok.2.1;refine yj U (λc c0 c1=>?_);obtain⟨s,s1,s2⟩:=Wx (w:=m.W) (h:=m.H) (c:=c) ⟨hm.ok.1,c0,by omega⟩
   exact bY c c0 U ⟨s,s1.1,by have:=s1.2;omega,s1,s2⟩
  rw[this]
 |succ n ih=>
  intro k i x hi i0 hk hr hx bY;obtain⟨k,rfl⟩:=bz hk;have hs:bC m.W m.H i:=⟨i0,by omega⟩
  obtain⟨L,f,e,hL⟩:=OH hm hs;obtain⟨t1,t2⟩:=KV hm hs;have eo:outs m (n+1) i=vc m i++outs m n (i+1):=rfl;rw[eo] at hr⊢;have hlen:(vc m i++outs m n (i+1)).length=(vc m i).length+(outs m n (i+1)).length:=by simp
  rw[mB.l0,uV u0 u1,uV u2 u3,hw,hh,ah U,ER,aM];have eg:=abk t1 t2 e hL (b:=vc m i++outs m n (i+1)) hr (λj j0 j1 j2=>vf j0 j1);have eg':pN.f (vc m i++outs m n (i+1)) (ay m.W m.H i).1 (ay m.W m.H i).2=_:=eg;rw[eg',ah (show(vc m i).length<=(vc m i++outs m n (i+1)).length by omega),aM]
  simp only;obtain⟨x',f1,f2,f3⟩:=UD hs (t:=dC m i) J J t1.2.2.2.2.1 (x:=x) hx;rw[aj bd,f1,aM,ah U,wi (x:=i+1) U U,WT];refine ih k (i+1) x' U U U U f2 λc c0 c1 mc=>?_
  rw[f3 c c0 c1]
  by_cases eY:oR m.W m.H i c
  ·rw[ah eY];have ND:=Og hs eY;have hn3:=Pa hs
   show rd (jK m i (EK m.W m.H i)) _=_
   rw[K7 ND.1 U,abn hs eY]
  ·rw[aj eY];obtain⟨s,s0,s1,s2,s3⟩:=mc;have:s≠i:=λq=>eY (q▸s3);exact bY c c0 c1 ⟨s,s0,by omega,s2,s3⟩
theorem abl {m:aF} (hm:sV m) (ai4:(bytesOf m).length<=100000):tj.f (bytesOf m)=some (m,0):=by
 have hlen:=QM hm;have hc:=nP m.W m.H;have Em:(bytesOf m).length=4+(outs m (dB m.W m.H).toNat 0).length:=by
  unfold bytesOf;rw[yS];rfl
 have hh: ∀j:Int,0<=j->j<4->rd (bytesOf m) j=rd (xG m) j:=λj j0 j1=>by
  unfold bytesOf;rw[vf j0 (by show j<4;exact j1)]
 have v0:rd (bytesOf m) 0=bN m.W:=hh 0 U U;have v1:rd (bytesOf m) 1=bN (fL m.W (2^8)):=hh 1 U U;have v2:rd (bytesOf m) 2=bN m.H:=hh 2 U U;have v3:rd (bytesOf m) 3=bN (fL m.H (2^8)):=hh 3 U U;have hb8:=QN hm;have u: ∀j:Int,0<=j->j<4->dQ (rd (bytesOf m) j):=λj j0 j1=>hb8 _ (fV j0 U);obtain⟨w1,w2,h1,h2⟩:=hm.ok.1;have ew:rd (bytesOf m) 0+256*rd (bytesOf m) 1=m.W:=by rw[v0,v1];exact JR U U
 have eh:rd (bytesOf m) 2+256*rd (bytesOf m) 3=m.H:=by rw[v2,v3];exact JR U U
 have hp:=pJ hm.ok.1;have u0:=u 0 U U;have u1:=u 1 U U;have u2:=u 2 U U;have u3:=u 3 U U;unfold tj.f mB.f;rw[aj U,ah (show 0<=(0:Int)/\(0:Int)<((bytesOf m).length:Int) by omega),ah (show 0<=(1:Int)/\(1:Int)<((bytesOf m).length:Int) by omega),ah (show 0<=(2:Int)/\(2:Int)<((bytesOf m).length:Int) by omega),ah (show 0<=(3:Int)/\(3:Int)<((bytesOf m).length:Int) by omega),uV u0 u1,uV u2 u3,ew,eh,zH,decide_eq_true hm.ok.1,aM,aj bd,ah U,wi (x:=m.W*m.H) U U,ah U]
 unfold AA.f;rw[Di];simp only[aM];have e:af ((bn m.W m.H).1*(bn m.W m.H).2)=dB m.W m.H:=by
  show af (dB m.W m.H)=_
  exact wi U U
 rw[e];have es:aB (bytesOf m) 4 ((bytesOf m).length:Int)=outs m (dB m.W m.H).toNat 0:=WT (xG m) _;rw[es,agG hm ew eh u0 u1 u2 u3 (dB m.W m.H).toNat fuel 0 (ct (m.W*m.H).toNat 0) U U (by rw[cY];omega) U bo (λc _ _ mc=>by obtain⟨s,s0,s1,_⟩:=mc;omega),aM,Qf];rfl
theorem Zt:E0.f=some true:=aA
section
variable {S : cm} {k most b : Int}
theorem ahf (w h:Int) (c:List Int) (l:List pD): ∀(q:Nat) (x9 aK:Int) (bf:List Int) (x:List dL) (N i:Int) (r:List dL),kX.l0 q w h c l x9 aK bf x N i=some r-> ∃t,r=x++t:=by
 intro q
 induction q with
 |zero=>intro x9 aK bf x N i r e;simp[kX.l0] at e
 |succ q ih=>
  intro x9 aK bf x N i r e;rw[kX.l0] at e
  by_cases z:((decide (i<(aa l:Int)))&&(decide (i<60)))=true
  ·rw[ah z] at e
   by_cases y:0<=i/\i<(aa l:Int)
   ·rw[ah y] at e;obtain⟨⟨v1,v2,v3,v4⟩,_,e⟩:=Option.bind_eq_some_iff.1 e;obtain⟨⟨y1,y2,y3,y4,y5,y6,y7,y8⟩,_,e⟩:=Option.bind_eq_some_iff.1 e;dsimp only at e
    by_cases u:x.length+1<=1099511627776
    ·rw[ah u] at e;obtain⟨t,rfl⟩:=ih _ _ _ _ _ _ _ e;exact⟨_::t,by rw[uz];rfl⟩
    ·rw[aj u] at e;cases e
   ·rw[aj y] at e;cases e
  ·rw[aj z] at e;simp only[Option.some.injEq] at e;exact⟨[],by simp[e]⟩
theorem ahc (w h:Int) {c:List Int} (hc: ∀y∈c,dQ y) (l:List pD): ∃m x,kX.f w h c l=some x/\sV m/\1<=x.length/\x.length<=61/\rd x 0=⟨1,0,0,bytesOf m⟩/\ ∀o∈x,ux o:=by
 obtain⟨r,er,r0,r1,r2⟩:=ahd w h hc l;have er':=er;unfold kX.f at er;obtain⟨m,em,hm,m1,m2⟩:=OS w h hc;rw[em,aM,OV hm,aM] at er;obtain⟨t,rfl⟩:=ahf _ _ _ _ _ _ _ _ _ _ _ _ er;exact⟨m,_,er',hm,by simp,r1,J,r2⟩
theorem Xl {c:fe} (h:uC S k most b) (hc:S.nav.core=some c):sM.f S=some c.aL.m:=by
 obtain⟨ord,hn⟩:=h.nav;unfold sM.f;rw[afF hn hc];rfl
theorem aaZ (l:List pD) {n:Int} (h:0<=n): ∃r,wT.f l n=some r:=by
 unfold wT.f
 by_cases z:n<(l.length:Int)
 ·simp only[ah z];exact⟨n,by rw[ah U]⟩
 ·simp only[aj z];exact⟨_,by rw[ah U]⟩
theorem aiD {k most:Int} (k1:1<=k) (k2:k<=1000000) (m1:1<=most) (m2:most<=100) (w h:Int) {c:List Int} (hc: ∀y∈c,dQ y) (l:List pD): ∃S c',ov.f k most w h c l=some (some S)/\uC S k most 3660000000/\S.nav.core=some c':=by
 obtain⟨n,en,hn,AV,_⟩:=afG k1 k2;obtain⟨m,x,ex,hm,x1,yJ,x0,hx⟩:=ahc w h hc l;have key:Ok (ov.l0 fuel x ⟨most,n,none⟩ 0) λr=> ∃S,r=some S/\uC S k most 3660000000/\ ∃c,S.nav.core=some c:=by
  refine Ok.qW (F:=λq S i=>ov.l0 q x S i) x.length U (λS i=>uC S k most (60000000*i)/\(1<=i-> ∃c,S.nav.core=some c)) (λq S ⟨h1,h2⟩=>?_) (λq S i i0 i1 ⟨h1,h2⟩ ih=>?_) _ ⟨⟨J,⟨m1,m2⟩,⟨[],hn⟩,.inl ⟨AV,J⟩⟩,λz=>by omega⟩
  ·obtain⟨c,hc⟩:=h2 U;obtain⟨ord,hn⟩:=h1.nav;have sj:=(hn.core c hc).1.gs.ok;have hp:=pJ sj.1;have hl:=sj.2.1;have em:C9.f c.aL.m=some true:=by
    unfold C9.f;rw[OT,decide_eq_true sj.1,aM,ah J,wi (x:=c.aL.m.W*c.aL.m.H) U U,ah (by simpa using hl),aa' _ U,decide_eq_true sj.2.2];rfl
   rw[ov.l0,aj U];exact Ok.eq (Xl h1 hc) (Ok.eq em (Ok.neg bd (Ok.pure ⟨S,J,h1.mono U,c,hc⟩)))
  ·rw[ov.l0,wi U U];refine Ok.pos i1 (Ok.br ⟨i0,i1⟩ ((Xe h1 ⟨by omega,by omega⟩ (hx _ (fV i0 i1))).bind λr ⟨e,hr⟩=>ih _ ⟨by rw[show 60000000*(i+1)=60000000*i+60000000 by omega];exact hr.sv,λ_=>hr.core ?_⟩))
   by_cases z:i=0
   ·subst z;rw[x0];exact .inr ⟨J,m,abl hm (by have:=(hx _ (fV (a:=x) (i:=0) U U)).ld (by rw[x0]);rw[x0] at this;exact this.2.2.1)⟩
   ·exact .inl (h2 U)
 obtain⟨_,e,S,rfl,hS,c',mc⟩:=key;refine⟨S,c',?_,hS,mc⟩;unfold ov.f vk.f;rw[aj bo,en]
 show((kX.f w h c l).bind _)=_
 rw[ex,aM];exact e
end
theorem ah' {S:cm} {k most b:Int} (h:uC S k most b) (hb:0<=b/\b<=5000000000) {c:fe} (hc:S.nav.core=some c) {goal x:Int} (hg:bP c.aL.m goal) (hx:bP c.aL.m x):
 ∃f S',yB.f S goal x=some (rd f.ez (cy c.aL.m.W c.aL.m.H x),rd f.cK (cy c.aL.m.W c.aL.m.H x),true,S')/\uC S' k most (b+60000000)/\(∃c',S'.nav.core=some c'/\c'.aL=c.aL)/\PV c.aL goal (aQ c.aL.m.W c.aL.m.H x) f:=by
 obtain⟨ord,hn⟩:=h.nav;have eI:=(hn.core c hc).1;have Gq:=eI.mF;have hA:=hg.2;have hB:=hx.2;have ho:ux ⟨6,goal,x,[]⟩:=⟨by simp,⟨hg.1,by simp only;omega⟩,⟨hx.1,by simp only;omega⟩,λ_=>rfl,by simp,by simp,by simp,by simp⟩
 obtain⟨⟨a,S'⟩,e,_,h1⟩:=Xe h hb ho;obtain⟨v,ev,hv⟩:=U3 hn ⟨hb.1,by omega⟩ hc goal x
 rcases hv with⟨_,_,v3,f,v4,v5,v6⟩ |⟨z,_⟩
 rotate_left
 ·exact absurd ⟨hg,hx⟩ z
 obtain⟨_,⟨c2,g2,g3⟩,_⟩:=MA v4;rcases h.cr with⟨n1,_⟩ |⟨c1,C,p1,p2,_⟩
 ·rw[hc] at n1;simp at n1
 have key:vn.f S ⟨6,goal,x,[]⟩ a0=some (Er.nil,⟨S.most,v.2.2.2,S.fB⟩,⟨0,v.1,v.2.1,-1,[],[],⟨0,0,0,0,0,0⟩⟩):=by
  have ec:vm.f S ⟨6,goal,x,[]⟩=some Er.nil:=by
   unfold vm.f;rw[aj bd,aj bd]
  have eq:vp.f S a0 goal x=some (Er.nil,⟨S.most,v.2.2.2,S.fB⟩,⟨0,v.1,v.2.1,-1,[],[],⟨0,0,0,0,0,0⟩⟩):=by
   unfold vp.f;rw[ev,aM,v3];rfl
  have eo:(dF S.fB (if((dL.mk 6 goal x []).Kind !=1)=true then(some ((dL.mk 6 goal x []).Kind !=8)) else(some false)) (λx6=>some false))=some false:=by rw[p2];rfl
  unfold vn.f;rw[aj bd,Ve ho bd,aM,aM,aj bd,eo,aM,aj bd,ec,aM,aj (by simp[Er.isNil]),aj bd,aj bd,aj bd,aj bd,aj bd,aj bd,ah bd,eq];rfl
 have e':=e;unfold kC.f at e;have ea:lZ.mk 0 0 5 (-1) ([]:List fY) ([]:List Int) (gL.mk 0 0 0 0 0 0)=a0:=rfl;rw[ea,key,aM,aj (by simp[Er.isNil])] at e
 obtain⟨st,_,e⟩:=Option.bind_eq_some_iff.1 e;simp only[Option.some.injEq,Prod.mk.injEq] at e;obtain⟨e1,e2⟩:=e;refine⟨f,S',?_,h1.sv,⟨c2,by rw[<-e2];exact g2,g3⟩,aa9 eI hg (oY (fM eI.gs.ok hx)) v4⟩
 unfold yB.f;rw[e',aM,<-e1,<-v5,<-v6];rfl
theorem X4:o_.Pure:=by
 intro p0 w h p3 l goal cells _ _ _ hp3 _ _ jR _ _ _;unfold o_.f;obtain⟨k,ek,k1,k2⟩:=uv (n:=p0) (lo:=1) (hi:=6) U U U;obtain⟨r,er⟩:=aaZ l (n:=30) U;obtain⟨S,c,eS,hS,hc⟩:=aiD (k:=k) (most:=5) U U U U w h hp3 (aB l 0 r);obtain⟨ord,hn⟩:=hS.nav;have hG:=(hn.core c hc).1.gs;have Gq:=(hn.core c hc).1.mF;have hl:=hG.ok.2.1;have hp:=pJ hG.ok.1;obtain⟨t,et,t0,t1⟩:=uv (n:=goal) (lo:=0) (hi:=(c.aL.m.C.length:Int)-1) U U U;have ht:bP c.aL.m t:=⟨t0,by omega⟩
 obtain⟨D,eD,hD⟩:=aa8 hG.ok (Rc hG) ht U;have hDl:=hD.len;rw[ek,aM,er,aM,eS,aM]
 show((sM.f S).bind _)=_
 rw[Xl hS hc,aM,wi (x:=(c.aL.m.C.length:Int)-1) U U,et,aM,eD,aM];have key:Ok (o_.l0 fuel cells c.aL.m t D S 0) λr=>r=true:=by
  refine Ok.qW (F:=λq S i=>o_.l0 q cells c.aL.m t D S i) (min cells.length 6) U (λS i=>uC S k 5 (3660000000+60000000*i)/\ ∃c',S.nav.core=some c'/\c'.aL=c.aL) (λq S _=>?_) (λq S i i0 i1 ⟨h1,c',h2,h3⟩ ih=>?_) S ⟨hS,c,hc,J⟩
  ·rw[o_.l0,aj bo,Zt];exact Ok.pure J
  ·have Ug:i<cells.length/\i<6:=U;obtain⟨x,ex,x0,x1⟩:=uv (n:=rd cells i) (lo:=0) (hi:=(c.aL.m.C.length:Int)-1) U U U;have hx:bP c.aL.m x:=⟨x0,by omega⟩
   obtain⟨f,S',e,g1,⟨c2,g2,g3⟩,g4⟩:=ah' h1 ⟨by omega,by omega⟩ h2 (goal:=t) (x:=x) (by rw[h3];exact ht) (by rw[h3];exact hx)
   rw[h3] at e g4;obtain⟨q1,q2⟩:=g4.ex D hD x hx J;rw[o_.l0,wi (x:=i+1) U U,wi (x:=(c.aL.m.C.length:Int)-1) U U];refine Ok.pos (by simpa using Ug) (Ok.br ⟨i0,Ug.1⟩ (Ok.eq ex (Ok.eq e (Ok.bind (P:=λb=>b=false) (Ok.neg bd (Ok.br ⟨x0,by omega⟩ (Ok.neg (by simp only;rw[q1];simp) (Ok.eq q2 (Ok.pure bd))))) λb hb=>?_))))
   subst hb;exact Ok.neg bd (ih _ ⟨by rw[show 3660000000+60000000*(i+1)=3660000000+60000000*i+60000000 by omega];exact g1,c2,g2,by rw[g3,h3]⟩)
 obtain⟨_,e,rfl⟩:=key;exact e
end Go.Proofs.YthodkonhneebbaaGreatDoor
