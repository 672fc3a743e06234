/- What the functions do, in plain Lean, on the objects that are kept in order. -/
import Derived.KernelRfl
import Derived.Test.YthodkonhneebbaaGreatDoorKS15
import Derived.Test.YthodkonhneebbaaGreatDoorKS16
import Derived.Test.YthodkonhneebbaaGreatDoorKS12
import Derived.Test.YthodkonhneebbaaGreatDoorKS5
namespace Go.Proofs.YthodkonhneebbaaGreatDoor
open Go.Hx
open List renaming length->aa,replicate->cy,append_assoc->uR,drop_of_length_le->DT,mem_cons->nh,not_mem_nil->ra,length_append->zg
open Int renaming fdiv->fQ
open Nat renaming le_refl->jW
open Bool renaming eq_iff_iff->nM
set_option linter.unusedVariables false
set_option linter.unusedSimpArgs false
section
variable {g : bx} {more : Int} {R : gO}
def gB (m:aG) (D:List Int) (c s:Int):Bool:=decide ((bS m (bk m.W m.H c s)/\rd m.C (bk m.W m.H c s)≠255)/\rd D (bk m.W m.H c s)+rd m.C (bk m.W m.H c s)=rd D c)
theorem ahc {m:aG} (hm:nK m) (hc:xo m) {t:Int} {D:List Int} (hf:AE m t D) {c:Int} (hi:bS m c):rH.f m t D c=some (if rd D c=ct then 5 else if c=t then 4 else if gB m D c 0=true then 0 else if gB m D c 1=true then 1 else if gB m D c 2=true then 2 else if gB m D c 3=true then 3 else 5):=by
 have hl:=hm.2.1;have hD:=hf.len;have wy:=hi.1;have rp:=hi.2;have Um:=hf.top c hi;have hI:ct=1099511627776:=rfl;have j5: ∀j:Int,(if bk m.W m.H c j≥0 then(if(0<=bk m.W m.H c j/\bk m.W m.H c j<(aa m.C:Int)) then(if((rd m.C (bk m.W m.H c j))!=255)=true then(if(0<=bk m.W m.H c j/\bk m.W m.H c j<(aa D:Int)) then(if(0<=c/\c<(aa D:Int)) then(some ((af ((rd D (bk m.W m.H c j))+(af (rd m.C (bk m.W m.H c j)))))==(rd D c))) else none) else none) else(some false)) else none) else(some false))=some (gB m D c j):=λj=>by
  unfold gB
  by_cases hn:bk m.W m.H c j<0
  ·rw[ak U,decide_eq_false (λq=>by have:=q.1.1.1;omega)]
  ·have b_:=Lk hn;have TX:=b_.2;have iR:=hc _ b_;have t1:=hf.top _ b_;have t0:=abg hc hf b_;rw[ah U,ah ⟨b_.1,by omega⟩]
   by_cases hw:rd m.C (bk m.W m.H c j)=255
   ·rw[ak (by simpa using hw),decide_eq_false (λq=>q.1.2 hw)]
   ·rw[ah (by simpa using hw),ah ⟨b_.1,by omega⟩,ah ⟨wy,by omega⟩,wi (x:=rd m.C _) U U,wi U U]
    congr 1
    rw[nM];simp[b_,hw]
 unfold rH.f;rw[ah ⟨wy,by omega⟩]
 by_cases hq:rd D c=ct
 ·rw[ah U,ah hq]
 ·rw[ak U,ak hq]
  by_cases J5:c=t
  ·rw[ah (by simpa using J5),ah J5]
  ·rw[ak (by simpa using J5),ak J5]
   obtain⟨q,e⟩: ∃q,fuel=q+5:=⟨fuel-5,by rw[de]⟩
   rw[e];simp only[rH.l0,WM,aM,j5,wi (x:=(0:Int)+1) U U,wi (x:=(0:Int)+1+1) U U,wi (x:=(0:Int)+1+1+1) U U,wi (x:=(0:Int)+1+1+1+1) U U];simp
   repeat' split
   all_goals rfl
theorem ahQ (h:cL g more) {x:Int} (hx:bS g.m x) {y:aX} (hy:xu g R (aR g.m.W g.m.H x) y) (e:y.Cell=cE g.m.W g.m.H x) (hg:bS g.m R.goal):
 (y.cK=4/\x=R.goal/\y.Key=0)∨(y.cK<=3/\nL g.m (bk g.m.W g.m.H x y.cK)/\qW g R (bk g.m.W g.m.H x y.cK)≠ct/\y.Key=rd g.m.C (bk g.m.W g.m.H x y.cK)+qW g R (bk g.m.W g.m.H x y.cK)):=by
 have gC:=fI h.ok hx;have lD:=nX gC;rcases hy with⟨c',mj,E,he,ha,rfl⟩ |⟨a,_,rfl⟩
 ·obtain⟨_,n2,_,n4⟩:=qE mj;obtain⟨d',d0',d3',d4',rfl⟩:=F5 he;simp only at e ha;have aed:c'=x:=by
   have h1:=nX (fI h.ok n2);rw[n4,e,lD] at h1;exact h1.symm
  subst aed;have aQ:=ph.1 d4';have qz:=HD (w:=g.m.W) (h:=g.m.H) (c:=c') (side:=d') aQ.1.1;have ho:=qz.2.2.2.2.1;rw[ho] at aQ ha;have CF:Dr g.m.W g.m.H c' (bk g.m.W g.m.H c' d')=d':=PH gC d0' U (fI h.ok aQ.1);simp only[ho,CF];exact .inr ⟨d3',aQ,ha,trivial⟩
 ·simp only at e;refine .inl ⟨J,?_,J⟩;have h1:=nX (fI h.ok hg);rw[a,e,lD] at h1;exact h1
structure LJ (g:bx) (goal s:Int) (f:eJ):Prop where
 len_:(f.cN.length:Int)=(ay g.m.W g.m.H s).1*(ay g.m.W g.m.H s).2/\f.cx.length=f.cN.length
 ex: ∀D,AE g.m goal D-> ∀x,bS g.m x->aR g.m.W g.m.H x=s->rd f.cN (cE g.m.W g.m.H x)=rd D x/\rH.f g.m goal D x=some (rd f.cx (cE g.m.W g.m.H x))
theorem abt {n:cI} {k b:Int} {ord:List Int} {c:fe} {goal s:Int} {r:eJ×Er×cI} (fi:Qe c b) (hg:bS c.aK.m goal) (hs:bC c.aK.m.W c.aK.m.H s) (h:DN n k b ord c goal s r):LJ c.aK goal s r.1:=by
 obtain⟨R,l,_,_,f1,f2,f3,f4,_,f6,_⟩:=h.Gd;have hG:=fi.gs;have hN:=fi.lW;have M3:=Rz hG;have Ss:KF=104603678:=rfl;have hI:ct=1099511627776:=rfl;subst f2;have J9:EV c.aK R s r.1.cN:=⟨l,KF,f4,f6.aN⟩;have hex: ∀s,bC c.aK.m.W c.aK.m.H s-> ∃D,EV c.aK R s D:=λs hs=>by
  obtain⟨l,_,l1,l2,_⟩:=UD hG hN f1 s;obtain⟨f,_,_,hf⟩:=RY (K:=KF) (Bv hG hs) (l:=l) U U (λx hx=>WY hG hN f1 hg hs ((l2 x).1 hx));exact⟨f.1.cN,l,KF,l2,hf.aN⟩
 refine⟨⟨by rw[f6.aN.dl];exact HX s,by rw[f6.dl,f6.aN.dl]⟩,λD hD=>?_⟩
 have RX: ∀x,bS c.aK.m x->aR c.aK.m.W c.aK.m.H x=s->rd r.1.cN (cE c.aK.m.W c.aK.m.H x)=rd D x:=λx hx es=>by
  have eO:=uy hG hx;rw[es] at eO;have Um:=hD.top x hx;have hle:rd r.1.cN (cE c.aK.m.W c.aK.m.H x)≠ct->rd D x<=rd r.1.cN (cE c.aK.m.W c.aK.m.H x)/\rd r.1.cN (cE c.aK.m.W c.aK.m.H x)<=KF:=λz=>
   ⟨hD.le _ _ (abk hG hN f1 hg hx (by rw[es];exact J9) z),(f6.aN.dv _ eO.1 eO.2.1 z).2.1⟩
  by_cases q:rd D x<(1099511627776:Int)
  ·obtain⟨a1,a2⟩:=RZ hG hN f1 hg hex (hD.xg x hx q) _ (by rw[es];exact J9)
   have:=hle a1;omega
  ·by_cases z:rd r.1.cN (cE c.aK.m.W c.aK.m.H x)=ct
   ·omega
   ·have:=hle z;omega
 intro x hx es;have gC:=fI hG.ok hx;have eO:=uy hG hx;have GJ:=zQ gC;have lD:=nX gC;have eD:=RX x hx es;refine⟨eD,?_⟩;rw[ahc hG.ok M3 hD hx];rw[es] at eO GJ lD;rw[f6.dir _ eO.1 eO.2.1];unfold D_;rw[eD]
 by_cases z:rd D x=ct
 ·rw[ah z,ah z]
 rw[ak z,ak z];have Um:=hD.top x hx;have Kk:=Im (hD.xg x hx U);have bs:=λside=>aab (l:=l) U (cE c.aK.m.W c.aK.m.H x) side;have at_: ∀y∈l,y.Cell=cE c.aK.m.W c.aK.m.H x->_:=λy hy e=>ahQ hG hx (y:=y) (by rw[es];exact(f4 y).1 hy) e hg
 by_cases q:x=R.goal
 ·have h0:rd D x=0:=by rw[q];exact abf M3 hD (q▸Kk)
  have hb:uX l (cE c.aK.m.W c.aK.m.H x) 4=0:=by
   obtain⟨b1,b2⟩:=bs 4;rcases b1 with⟨_,b1⟩ |⟨y,y1,y2,y3,y4⟩
   ·exact absurd ⟨J,J⟩ (b1 ⟨cE c.aK.m.W c.aK.m.H x,4,0⟩ ((f4 _).2 (.inr ⟨by rw[<-q];exact es,by rw[<-q];exact(C9.2 Kk).2,by rw[q]⟩)))
   ·rcases at_ y y1 y2 with⟨_,_,w⟩ |⟨w,_⟩
    ·omega
    ·omega
  rw[ah q,ah U]
 have hb: ¬rd D x=uX l (cE c.aK.m.W c.aK.m.H x) 4:=λw=>by
  rcases(bs 4).1 with⟨b1,_⟩ |⟨y,y1,y2,y3,y4⟩
  ·omega
  ·rcases at_ y y1 y2 with⟨_,w,_⟩ |⟨w,_⟩
   ·exact q w
   ·omega
 rw[ak q,ak hb];have j5: ∀j:Int,0<=j->j<=3->gB c.aK.m D x j=AV (dG c.aK.m s) l r.1.cN (cE c.aK.m.W c.aK.m.H x) j:=λj j0 j3=>by
  unfold gB AV;rw[eD]
  by_cases w:eI (dG c.aK.m s) (cE c.aK.m.W c.aK.m.H x) j<0
  ·rw[ah w,nM,decide_eq_true_iff,beq_iff_eq];obtain⟨b1,b2⟩:=bs j;constructor
   ·rintro⟨ho,e⟩;have hos:aR c.aK.m.W c.aK.m.H (bk c.aK.m.W c.aK.m.H x j)≠aR c.aK.m.W c.aK.m.H x:=λv=>by
     have:=Vh (t:=dG c.aK.m s) hs GJ.1 GJ.2 j0 j3 J J (by rw[lD];exact fI hG.ok ho.1) (by rw[lD,v,es])
     omega
    have fi:=M3 _ ho.1;have GS:=hD.xg _ ho.1 U;obtain⟨y,y1,y2,y3,y4⟩:=WX hG hN f1 hg hex Kk ho j0 j3 J hos (RZ hG hN f1 hg hex GS);rw[es] at y1;have yl:=(f4 y).2 y1;have:=b2 y yl y2 y3;rcases b1 with⟨_,b1⟩ |⟨y',v1,v2,v3,v4⟩
    ·exact absurd ⟨y2,y3⟩ (b1 y yl)
    ·have:=(f6.aN.sd y' v1).2;rw[v2,eD] at this;omega
   ·intro e;rcases b1 with⟨b1,_⟩ |⟨y,v1,v2,v3,v4⟩
    ·omega
    ·rcases at_ y v1 v2 with⟨w,_⟩ |⟨_,w1,w2,w3⟩
     ·omega
     ·rw[v3] at w1 w2 w3;obtain⟨u1,u2,u3,_,u5⟩:=FV hN f1 w2;have hlen:=f1.2.choose_spec.2.len_;have xN:RB=104538400:=rfl;have d1:=hD.le _ _ (WJ hG hN f1 hg _ _ u1.1 (by have:=u1.2;omega) u2 (jW _))
      have d2:=hD.le _ _ (Way.go j (hD.xg _ u1 U) j0 j3 J Kk);exact⟨w1,by omega⟩
  ·rw[ak w];obtain⟨q1,q2⟩:=Vi hs GJ.1 GJ.2 j0 j3 (t:=dG c.aK.m s) J J U;rw[lD] at q2;obtain⟨k1,k2,k3,k4⟩:=Cq (c:=eI (dG c.aK.m s) (cE c.aK.m.W c.aK.m.H x) j) hG hs U (by rw[HX];exact q1)
   have:=RX _ k1 k3;rw[k4] at this;rw[q2,this,k2,nM,decide_eq_true_iff,decide_eq_true_iff];constructor
   ·rintro⟨a,b⟩;exact⟨a.2,by omega⟩
   ·rintro⟨a,b⟩;exact⟨⟨k1,a⟩,by omega⟩
 unfold PG;rw[j5 0 U U,j5 1 U U,j5 2 U U,j5 3 U U]
end
theorem Xd (A B:List Int):aA (A++B) (A.length:Int) ((A++B).length:Int)=B:=by
 unfold aA;simp;exact List.take_of_length_le U
theorem ahe {m:aG} (hm:tr m) {b:List Int} (hw:rd b 0+256*rd b 1=m.W) (hh:rd b 2+256*rd b 3=m.H) (u0:dV (rd b 0)) (u1:dV (rd b 1)) (u2:dV (rd b 2)) (u3:dV (rd b 3)):
 ∀(n k:Nat) (i:Int) (x:List Int),i+n=dy m.W m.H->0<=i->n<k->(outs m n i).length<=100000->(x.length:Int)=m.W*m.H->
 (∀c,0<=c->c<m.W*m.H->(∃s,0<=s/\s<i/\bC m.W m.H s/\oZ m.W m.H s c)->rd x c=rd m.C c)->
 mL.l0 k b (dy m.W m.H) (outs m n i) x i=some (m,.nil):=by
 have iR:=np m.W m.H;intro n
 induction n with
 |zero=>
  intro k i x hi i0 hk hr hx b_;obtain⟨k,rfl⟩:=bw hk;rw[mL.l0,vg u0 u1,vg u2 u3,hw,hh,ak U,ak (by simp[outs])]
  have:x=m.C:=by
   have h2:=hm.ok.2.1;refine yB U (λc c0 c1=>?_);obtain⟨s,s1,s2⟩:=WW (w:=m.W) (h:=m.H) (c:=c) ⟨hm.ok.1,c0,by omega⟩
   exact b_ c c0 U ⟨s,s1.1,by have:=s1.2;omega,s1,s2⟩
  rw[this]
 |succ n ih=>
  intro k i x hi i0 hk hr hx b_;obtain⟨k,rfl⟩:=bw hk;have hs:bC m.W m.H i:=⟨i0,by omega⟩
  obtain⟨L,f,e,hL⟩:=O_ hm hs;obtain⟨t1,t2⟩:=Lc hm hs;have eo:outs m (n+1) i=vt m i++outs m n (i+1):=rfl;rw[eo] at hr⊢;have hlen:(vt m i++outs m n (i+1)).length=(vt m i).length+(outs m n (i+1)).length:=by simp
  rw[mL.l0,vg u0 u1,vg u2 u3,hw,hh,ah U,E5,aM];have eg:=abG t1 t2 e hL (b:=vt m i++outs m n (i+1)) hr (λj j0 j1 j2=>vw j0 j1);have eg':pT.f (vt m i++outs m n (i+1)) (ay m.W m.H i).1 (ay m.W m.H i).2=_:=eg;rw[eg',ah (show(vt m i).length<=(vt m i++outs m n (i+1)).length by omega),aM]
  simp only;obtain⟨x',f1,f2,f3⟩:=UX hs (t:=dG m i) J J t1.2.2.2.2.1 (x:=x) hx;rw[ak bp,f1,aM,ah U,wi (x:=i+1) U U,Xd];refine ih k (i+1) x' U U U U f2 λc c0 c1 mj=>?_
  rw[f3 c c0 c1]
  by_cases fa:oZ m.W m.H i c
  ·rw[ah fa];have N3:=OJ hs fa;have hn3:=Pz hs
   show rd (jV m i (EX m.W m.H i)) _=_
   rw[Lo N3.1 U,abJ hs fa]
  ·rw[ak fa];obtain⟨s,s0,s1,s2,s3⟩:=mj;have:s≠i:=λq=>fa (q▸s3);exact b_ c c0 c1 ⟨s,s0,by omega,s2,s3⟩
theorem abH {m:aG} (hm:tr m) (ajA:(bytesOf m).length<=100000):tJ.f (bytesOf m)=some (m,0):=by
 have hlen:=Q8 hm;have hc:=np m.W m.H;have Ex:(bytesOf m).length=4+(outs m (dy m.W m.H).toNat 0).length:=by
  unfold bytesOf;rw[zg];rfl
 have hh: ∀j:Int,0<=j->j<4->rd (bytesOf m) j=rd (xV m) j:=λj j0 j1=>by
  unfold bytesOf;rw[vw j0 (by show j<4;exact j1)]
 have v0:rd (bytesOf m) 0=bQ m.W:=hh 0 U U;have v1:rd (bytesOf m) 1=bQ (fQ m.W (2^8)):=hh 1 U U;have v2:rd (bytesOf m) 2=bQ m.H:=hh 2 U U;have v3:rd (bytesOf m) 3=bQ (fQ m.H (2^8)):=hh 3 U U;have hb8:=Q9 hm;have u: ∀j:Int,0<=j->j<4->dV (rd (bytesOf m) j):=λj j0 j1=>hb8 _ (fS j0 U);obtain⟨w1,w2,h1,h2⟩:=hm.ok.1;have ew:rd (bytesOf m) 0+256*rd (bytesOf m) 1=m.W:=by rw[v0,v1];exact J7 U U
 have eh:rd (bytesOf m) 2+256*rd (bytesOf m) 3=m.H:=by rw[v2,v3];exact J7 U U
 have hp:=pP hm.ok.1;have u0:=u 0 U U;have u1:=u 1 U U;have u2:=u 2 U U;have u3:=u 3 U U;unfold tJ.f mL.f;rw[ak U,ah (show 0<=(0:Int)/\(0:Int)<((bytesOf m).length:Int) by omega),ah (show 0<=(1:Int)/\(1:Int)<((bytesOf m).length:Int) by omega),ah (show 0<=(2:Int)/\(2:Int)<((bytesOf m).length:Int) by omega),ah (show 0<=(3:Int)/\(3:Int)<((bytesOf m).length:Int) by omega),vg u0 u1,vg u2 u3,ew,eh,zT,decide_eq_true hm.ok.1,aM,ak bp,ah U,wi (x:=m.W*m.H) U U,ah U]
 unfold AQ.f;rw[Du];simp only[aM];have e:af ((bq m.W m.H).1*(bq m.W m.H).2)=dy m.W m.H:=by
  show af (dy m.W m.H)=_
  exact wi U U
 rw[e];have es:aA (bytesOf m) 4 ((bytesOf m).length:Int)=outs m (dy m.W m.H).toNat 0:=Xd (xV m) _;rw[es,ahe hm ew eh u0 u1 u2 u3 (dy m.W m.H).toNat fuel 0 (cy (m.W*m.H).toNat 0) U U (by rw[de];omega) U bo (λc _ _ mj=>by obtain⟨s,s0,s1,_⟩:=mj;omega),aM,Qy];rfl
theorem ZP:Fc.f=some true:=aB
section
variable {S : cg} {k most b : Int}
theorem ahO (w h:Int) (c:List Int) (l:List pI): ∀(q:Nat) (x9 aL:Int) (a_:List Int) (x:List eG) (N i:Int) (r:List eG),kY.l0 q w h c l x9 aL a_ x N i=some r-> ∃t,r=x++t:=by
 intro q
 induction q with
 |zero=>intro x9 aL a_ x N i r e;simp[kY.l0] at e
 |succ q ih=>
  intro x9 aL a_ x N i r e;rw[kY.l0] at e
  by_cases z:((decide (i<(aa l:Int)))&&(decide (i<60)))=true
  ·rw[ah z] at e
   by_cases y:0<=i/\i<(aa l:Int)
   ·rw[ah y] at e;obtain⟨⟨v1,v2,v3,v4⟩,_,e⟩:=Option.bind_eq_some_iff.1 e;obtain⟨⟨y1,y2,y3,y4,y5,y6,y7,y8⟩,_,e⟩:=Option.bind_eq_some_iff.1 e;dsimp only at e
    by_cases u:x.length+1<=1099511627776
    ·rw[ah u] at e;obtain⟨t,rfl⟩:=ih _ _ _ _ _ _ _ e;exact⟨_::t,by rw[uR];rfl⟩
    ·rw[ak u] at e;cases e
   ·rw[ak y] at e;cases e
  ·rw[ak z] at e;simp only[Option.some.injEq] at e;exact⟨[],by simp[e]⟩
theorem ahL (w h:Int) {c:List Int} (hc: ∀y∈c,dV y) (l:List pI): ∃m x,kY.f w h c l=some x/\tr m/\1<=x.length/\x.length<=61/\rd x 0=⟨1,0,0,bytesOf m⟩/\ ∀o∈x,vO o:=by
 obtain⟨r,er,r0,r1,r2⟩:=ahM w h hc l;have er':=er;unfold kY.f at er;obtain⟨m,em,hm,m1,m2⟩:=Pj w h hc;rw[em,aM,Pm hm,aM] at er;obtain⟨t,rfl⟩:=ahO _ _ _ _ _ _ _ _ _ _ _ _ er;exact⟨m,_,er',hm,by simp,r1,J,r2⟩
theorem XE {c:fe} (h:uT S k most b) (hc:S.nav.core=some c):tf.f S=some c.aK.m:=by
 obtain⟨ord,hn⟩:=h.nav;unfold tf.f;rw[agd hn hc];rfl
theorem abi (l:List pI) {n:Int} (h:0<=n): ∃r,xe.f l n=some r:=by
 unfold xe.f
 by_cases z:n<(l.length:Int)
 ·simp only[ah z];exact⟨n,by rw[ah U]⟩
 ·simp only[ak z];exact⟨_,by rw[ah U]⟩
theorem ajb {k most:Int} (k1:1<=k) (k2:k<=1000000) (m1:1<=most) (m2:most<=100) (w h:Int) {c:List Int} (hc: ∀y∈c,dV y) (l:List pI): ∃S c',oC.f k most w h c l=some (some S)/\uT S k most 3660000000/\S.nav.core=some c':=by
 obtain⟨n,en,hn,A',_⟩:=age k1 k2;obtain⟨m,x,ex,hm,x1,yY,x0,hx⟩:=ahL w h hc l;have key:Ok (oC.l0 fuel x ⟨most,n,none⟩ 0) λr=> ∃S,r=some S/\uT S k most 3660000000/\ ∃c,S.nav.core=some c:=by
  refine Ok.qq (F:=λq S i=>oC.l0 q x S i) x.length U (λS i=>uT S k most (60000000*i)/\(1<=i-> ∃c,S.nav.core=some c)) (λq S ⟨h1,h2⟩=>?_) (λq S i i0 i1 ⟨h1,h2⟩ ih=>?_) _ ⟨⟨J,⟨m1,m2⟩,⟨[],hn⟩,.inl ⟨A',J⟩⟩,λz=>by omega⟩
  ·obtain⟨c,hc⟩:=h2 U;obtain⟨ord,hn⟩:=h1.nav;have sH:=(hn.core c hc).1.gs.ok;have hp:=pP sH.1;have hl:=sH.2.1;have em:Dj.f c.aK.m=some true:=by
    unfold Dj.f;rw[Pk,decide_eq_true sH.1,aM,ah J,wi (x:=c.aK.m.W*c.aK.m.H) U U,ah (by simpa using hl),abv _ U,decide_eq_true sH.2.2];rfl
   rw[oC.l0,ak U];exact Ok.eq (XE h1 hc) (Ok.eq em (Ok.neg bp (Ok.pure ⟨S,J,h1.mono U,c,hc⟩)))
  ·rw[oC.l0,wi U U];refine Ok.pos i1 (Ok.br ⟨i0,i1⟩ ((aiI h1 ⟨by omega,by omega⟩ (hx _ (fS i0 i1))).bind λr ⟨e,hr⟩=>ih _ ⟨by rw[show 60000000*(i+1)=60000000*i+60000000 by omega];exact hr.sv,λ_=>hr.core ?_⟩))
   by_cases z:i=0
   ·subst z;rw[x0];exact .inr ⟨J,m,abH hm (by have:=(hx _ (fS (a:=x) (i:=0) U U)).ld (by rw[x0]);rw[x0] at this;exact this.2.2.1)⟩
   ·exact .inl (h2 U)
 obtain⟨_,e,S,rfl,hS,c',mj⟩:=key;refine⟨S,c',?_,hS,mj⟩;unfold oC.f vC.f;rw[ak bo,en]
 show((kY.f w h c l).bind _)=_
 rw[ex,aM];exact e
theorem ahm {g:bx} (hG:cL g 0) (hN:g.m.W*g.m.H<=1600) {goal s:Int} (hg:bS g.m goal) (hs:bC g.m.W g.m.H s) {f:eJ} (hf:LJ g goal s f):oh.f g.m goal s=some f:=by
 obtain⟨l1,l2⟩:=hf.len_;have hz:=(uD g.m.W g.m.H s);have hl:=hG.ok.2.1;have qA:=HX (g:=g) s;obtain⟨D,eD,hD⟩:=abr hG.ok (Rz hG) hg U;have hDl:=hD.len;unfold oh.f;rw[eD,aM,Po,aM];have Ez: ∀l:List Int,l.take l.length=l:=λl=>List.take_of_length_le (jW _);have key:Ok (oh.l0 fuel g.m goal s D (ay g.m.W g.m.H s) [] [] 0) λr=>r=f:=by
  refine Ok.qq (F:=λq (t:List Int×List Int) i=>oh.l0 q g.m goal s D (ay g.m.W g.m.H s) t.1 t.2 i) f.cN.length U (λt i=>t.1=f.cN.take i.toNat/\t.2=f.cx.take i.toNat) (λq t ⟨h1,h2⟩=>?_) (λq t i i0 i1 ⟨h1,h2⟩ ih=>?_) ([],[]) bp
  ·rw[oh.l0,<-l1,wi U U,ak U,h1,h2];refine Ok.pure ?_;rw[show((f.cN.length:Int)).toNat=f.cN.length by omega,Ez,<-l2,Ez]
  ·obtain⟨g1,g2,g3,g4⟩:=Cq hG hs (c:=i) i0 U;obtain⟨e1,e2⟩:=hf.ex D hD _ g1 g3;rw[g4] at e1 e2;have t1:=g1.1;have t2:=g1.2;rw[oh.l0,<-l1,wi (x:=(f.cN.length:Int)) U U,wi U U];refine Ok.pos i1 (Ok.eq (WC ..) (Ok.br ⟨t1,by omega⟩ (Ok.br (by rw[h1];simp;omega) (Ok.eq e2 (Ok.br (by rw[h2];simp;omega) (ih (_,_) ⟨?_,?_⟩))))))
   ·simp only;rw[h1,PW i0 i1,e1]
   ·simp only;rw[h2,PW i0 U]
 obtain⟨_,e,rfl⟩:=key;exact e
theorem aiT (h:uT S k most b) (hb:0<=b/\b<=5000000000) {c:fe} (hc:S.nav.core=some c) {goal s:Int} (hg:bS c.aK.m goal) (hs:bC c.aK.m.W c.aK.m.H s):
 ∃f S',vD.f S goal s=some (f,0,S')/\uT S' k most (b+60000000)/\(∃c',S'.nav.core=some c'/\c'.aK=c.aK)/\LJ c.aK goal s f:=by
 obtain⟨ord,hn⟩:=h.nav;obtain⟨f,n',e,hf⟩:=Vk hn ⟨hb.1,by omega⟩ hc hg hs
 obtain⟨⟨o2,f1⟩,⟨c2,f2,f3⟩,_⟩:=MW hf;refine⟨f,⟨S.most,n',S.fE⟩,?_,⟨h.m_,h.mb,⟨o2,f1.mono U⟩,?_⟩,⟨c2,f2,f3⟩,abt (hn.core c hc).1 hg hs hf⟩
 ·unfold vD.f;rw[e];rfl
 ·rcases h.cr with⟨n1,_⟩ |⟨c0,C,_,h2,h3⟩
  ·rw[hc] at n1;simp at n1
  ·exact .inr ⟨c2,C,f2,h2,by omega⟩
end
theorem aeP {a b:List Int} (hb:a.length<=4611686018427387904) (hl:b.length=a.length): ∀(n k:Nat) (i:Int),i+n=a.length->0<=i->n<k->
 ∃r,oo.l0 k a b i=some r/\(r=true↔a.drop i.toNat=b.drop i.toNat):=by
 intro n
 induction n with
 |zero=>
  intro k i hi h0 hk;obtain⟨k,rfl⟩:=bw hk;exact⟨true,by rw[oo.l0,ak U],by rw[DT U,DT U];simp⟩
 |succ n ih=>
  intro k i hi h0 hk;obtain⟨k,rfl⟩:=bw hk;rw[oo.l0,ah U,ah U,ah U,F8 h0 (by omega:i<(a.length:Int)),F8 h0 (by omega:i<(b.length:Int))]
  by_cases e:rd a i=rd b i
  ·rw[ak (by simpa using e),wi U U]
   obtain⟨r,h1,h2⟩:=ih k (i+1) U U U;exact⟨r,h1,by rw[h2,e];simp⟩
  ·rw[ah (by simpa using e)]
   exact⟨false,J,by simp[e]⟩
theorem aeO {a b:List Int} (hb:a.length<4611686018427387904): ∃r,oo.f a b=some r/\(r=true↔a=b):=by
 unfold oo.f
 by_cases h:a.length=b.length
 ·rw[ak (by simp[h])]
  obtain⟨r,h1,h2⟩:=aeP (a:=a) (b:=b) U h.symm a.length fuel 0 U U (by rw[de];omega)
  exact⟨r,h1,by simpa using h2⟩
 ·rw[ah bo];exact⟨false,J,⟨λq=>(by cases q),λq=>absurd (by rw[q]) h⟩⟩
theorem UF {a:List Int} (hb:a.length<4611686018427387904):oo.f a a=some true:=by
 obtain⟨r,h1,h2⟩:=aeO (a:=a) (b:=a) hb;rw[h1,h2.2 J]
theorem ai2 {S:cg} {k b:Int} {ord:List Int} (hn:jF S.nav k b ord) {c:fe} (hc:S.nav.core=some c): ∃K:List (Int×Int),yJ.f S=some K/\(K.length:Int)<=k/\ ∀p∈K,bS c.aK.m p.1/\bC c.aK.m.W c.aK.m.H p.2:=by
 have hl:=hn.sN;have hlen:=Vz hl.nd hl.mem;refine⟨ord.map λc=>(rd S.nav.gF.keys.aw c).key,?_,by simp;have:=hl.lW;omega,λp hp=>?_⟩
 ·unfold yJ.f;rw[aga hn];rfl
 ·obtain⟨x,hx,rfl⟩:=List.mem_map.1 hp;obtain⟨x0,x1⟩:=(hl.mem x).1 hx;have vn:=(hn.core c hc).2.2.2;have:=vn.ok x x0 (by rw[vn.fl];exact x1)
  exact⟨this.1,this.2.1⟩
theorem Yl:pj.Pure:=by
 intro p0 w h p3 l goal bB _ _ _ hp3 _ _ _ _ _;unfold pj.f;obtain⟨k,ek,k1,k2⟩:=uM (n:=p0) (lo:=1) (hi:=5) U U U;obtain⟨r,er⟩:=abi l (n:=30) U;obtain⟨S,c,eS,hS,hc⟩:=ajb (k:=k) (most:=5) U U U U w h hp3 (aA l 0 r);obtain⟨ord,hn⟩:=hS.nav;have hG:=(hn.core c hc).1.gs;have J_:=(hn.core c hc).1.lW;have hl:=hG.ok.2.1;have hp:=pP hG.ok.1;have iR:=np c.aK.m.W c.aK.m.H;obtain⟨K,eK,hK,abQ⟩:=ai2 hn hc;obtain⟨t,et,t0,t1⟩:=uM (n:=goal) (lo:=0) (hi:=(c.aK.m.C.length:Int)-1) U U U;have hts:bC c.aK.m.W c.aK.m.H 0:=by
  have:=pe (fI hG.ok (c:=0) ⟨by omega,by omega⟩)
  have a:=this.1;have b:=this.2;exact⟨by omega,by omega⟩
 obtain⟨s,es,s0,s1⟩:=uM (n:=bB) (lo:=0) (hi:=dy c.aK.m.W c.aK.m.H-1) U (by have:=hts.2;omega) U
 rw[ek,aM,er,aM,eS,aM]
 show((tf.f S).bind _)=_
 rw[XE hS hc,aM,eK,aM,wi (x:=(c.aK.m.C.length:Int)-1) U U,et,aM,K5,aM,wi (x:=dy c.aK.m.W c.aK.m.H-1) U U,es,aM,ah U];have qx: ∀p∈K++[(t,s)],bS c.aK.m p.1/\bC c.aK.m.W c.aK.m.H p.2:=λp hp=>by
  rcases List.mem_append.1 hp with z |z
  ·exact abQ p z
  ·simp only[nh,ra,or_false] at z;subst z;exact⟨⟨t0,by simp only;omega⟩,⟨s0,by simp only;omega⟩⟩
 have hlen:(K++[(t,s)]).length=K.length+1:=by simp
 have key:Ok (pj.l0 fuel c.aK.m K t s S 0) λr=>r=true:=by
  refine Ok.qq (F:=λq S i=>pj.l0 q c.aK.m K t s S i) (K++[(t,s)]).length U (λS i=>uT S k 5 (3660000000+60000000*i)/\ ∃c',S.nav.core=some c'/\c'.aK=c.aK) (λq S _=>?_) (λq S i i0 i1 ⟨h1,c',h2,h3⟩ ih=>?_) S ⟨hS,c,hc,J⟩
  ·rw[pj.l0,ak U,ZP];exact Ok.pure J
  ·obtain⟨a1,a2⟩:=qx _ (fS i0 i1);have JN:=(h1.nav.choose_spec.core c' h2).1;obtain⟨f,S',e,g1,⟨c2,g2,g3⟩,g4⟩:=aiT h1 ⟨by omega,by omega⟩ h2 (by rw[h3];exact a1) (by rw[h3];exact a2)
   have TR:=g4.len_;have jr:=uD c'.aK.m.W c'.aK.m.H (rd (K++[(t,s)]) i).2;have er:=ahm JN.gs JN.lW (by rw[h3];exact a1) (by rw[h3];exact a2) g4
   rw[h3] at er jr TR;rw[pj.l0,wi (x:=i+1) U U];refine Ok.pos i1 (Ok.br ⟨i0,i1⟩ (Ok.eq (WH ..) (Ok.neg (by rw[decide_eq_true (fI hG.ok a1)];simp) (Ok.bind (P:=λz=>z=(S',f.cN,f.cx,(0:Int))) (Ok.eq e (Ok.pure J)) λz hz=>?_))))
   subst hz;refine Ok.bind (P:=λb=>b=false) (Ok.neg bp (Ok.br ⟨i0,i1⟩ (Ok.eq er (Ok.eq (v:=true) ?_ (Ok.pure J))))) λb hb=>?_
   ·unfold EN.f;simp only;rw[UF U,aM,ah J,UF U];rfl
   ·subst hb;exact Ok.neg bp (ih _ ⟨by rw[show 3660000000+60000000*(i+1)=3660000000+60000000*i+60000000 by omega];exact g1,c2,g2,by rw[g3,h3]⟩)
 obtain⟨_,e,rfl⟩:=key;exact e
end Go.Proofs.YthodkonhneebbaaGreatDoor
