/- What the functions of some packages compute, each as a function of plain Lean, with its contract. No condition. -/
import Derived.Test.YthodkonhneebbaaGreatDoorKDT
import Derived.Test.YthodkonhneebbaaGreatDoorKD5
import Derived.Test.YthodkonhneebbaaGreatDoorKD11
namespace Go.Proofs.YthodkonhneebbaaGreatDoor
open Go.Hx
open Int renaming tmod->fy,tdiv->cZ,toNat->ax
open List renaming length->aa
open Nat renaming le_refl->jM
set_option maxRecDepth 100000
set_option linter.unusedSimpArgs false
set_option linter.unusedVariables false
set_option maxHeartbeats 4000000
set_option autoImplicit true
set_option relaxedAutoImplicit true
noncomputable section
def wE.l0:Nat->(List fY)->(List fY)->Int->Option Bool
 |0,_,_,_=>none
 |k3+1,a,b,x2=>if x2<(aa a:Int) then(if(0<=x2/\x2<(aa a:Int)) then(if(0<=x2/\x2<(aa b:Int)) then(if(!(((rd a x2).Id==(rd b x2).Id)&&(((rd a x2).To==(rd b x2).To)&&true)))=true then(some false) else(wE.l0 k3 a b (af (x2+1)))) else none) else none) else(some true)
def wE.f (a:(List fY)) (b:(List fY)):Option Bool:=if((aa a:Int)!=(aa b:Int))=true then(some false) else(wE.l0 fuel a b 0)
theorem wE.c (H:wE.f a b=some r) (D7:aP jE a Fx F) (L2:aa a<=Hc) (ir:aP jE b ki F) (gF:aa b<=jV):
 QU 46 [(ll Fx a Hc),(ll ki b jV)] [] F (bb r):=by
 unfold wE.f at H;refine aG Tryz.func46 J J (λW=>rc T 15 (cb J H (λH=>?_) (λH=>?_)))
 ·refine rc T 7 ?_
  cases H;exact p0 T J [0] J
 refine rc T 9 (lq [0,1] [0] (λ(⟨k3,x2⟩:Nat×Int)=>(wE.l0 k3 a b x2=some r,[(5,(ii x2))],[])) J J (fuel,0) [0] H J J ?_);rintro k3 x2 Z2;replace Z2:wE.l0 (k3+1) a b x2=some r:=Z2;rw[wE.l0] at Z2;refine rc T 9 (cd J Z2 (λZ2=>?_) (λZ2=>?_))
 ·refine rc T 5 (dq mix aA (au T J (au T J ?_)));obtain⟨c4,Z2⟩:=az Z2;obtain⟨q1,o1,e1⟩:=D7.addr c4.1 c4.2;refine bg J J J (cB T J J J J J e1 c4.1 c4.2) (bg J J J (gd T (cs:=[(ii (rd a x2).Id),(ii (rd a x2).To)]) J J J J J J (iu (k:=jE) (rO D7 0) e1 c4 J)) (au T J (au T J ?_)));obtain⟨c5,Z2⟩:=az Z2;obtain⟨q2,o2,e2⟩:=ir.addr c5.1 c5.2;refine bg J J J (cB T J J J J J e2 c5.1 c5.2) (bg J J J (gd T (cs:=[(ii (rd b x2).Id),(ii (rd b x2).To)]) J J J J J J (iu (k:=jE) (rO ir 0) e2 c5 J)) (bg J J J (MB T (((rd a x2).Id==(rd b x2).Id)&&(((rd a x2).To==(rd b x2).To)&&true)) J J J J ahM aA J) (cM (rx T 1 (cb J Z2 (λZ2=>?_) (λZ2=>?_))))))
  ·refine rc T 11 ?_
   cases Z2;exact p0 T J [0] J
  refine rc T 9 (ar _ [0] Z2 J J)
 refine rc T 11 ?_
 cases Z2;exact p0 T J [0] J
end
noncomputable section
def yn.f (x:pD) (n:Int):Option dL:=((eT.f x.B 1 6).bind λv6=>(eT.f x.A 0 5).bind λv7=>(eT.f x.A 0 9).bind λv8=>some (v6,(af (n+v7)),v8,([]:List Int))).bind λ(x1,x2,x3,x4)=>if(x1==1)=true then(some (dL.mk x1 0 0 [2,0,1,0,1,(bN x.A),(bN x.B)])) else(if(x1==2)=true then((eT.f x.A 0 (af (n-1))).bind λdt=>(eT.f x.A 0 1).bind λdI=>some (dL.mk x1 dt (af (dI*255)) x4)) else(if(x1==5)=true then(some (dL.mk x1 x2 0 x4)) else(some (dL.mk x1 x2 x3 x4))))
def yn.R (r:dL):bk:=λu G=> ∃a0 n0 H0,ak (Fl.int .u8) 5 r.Map a0 n0 H0/\u=(.agg #[(ii r.Kind),(ii r.A),(ii r.B),(ll a0 r.Map n0)])/\G=[H0]
theorem yn.c (H:yn.f x n=some r):
 QR 50 [(.agg #[(ii x.Kind),(ii x.A),(ii x.B)]),(ii n)] [] [] F (yn.R r):=by
 unfold yn.f at H;refine aG Tryz.func50 J J (λW=>rc T 2 (nc T J (λb1=>nc T J (λb2=>ro T 2 (mq H [1,2,4] [0,0,0] (λz5 (⟨x1,x2,x3,x4,b3,a4,n4,H4⟩:Int×Int×Int×List Int×Nat×Option Addr×Nat×Hp)=>((x1,x2,x3,x4)=z5/\ak (Fl.int .u8) 5 x4 a4 n4 H4,[(5,(pp b3))],[(cl b3 55 [(ii x1),(ii x2),(ii x3),(ll a4 x4 n4)]),H4])) J J (λz5 Z1 _=>?_) ?_)))))
 ·refine ks [1,2,4] J (fz J (rz [] mix (bR bQ) (λhg pf=>ha T 13 [0] sz hg pf J (al T 1 1 sz hg pf J J J (ha T 10 [3,4] sz hg pf J (al T 5 1 sz hg pf J J J (ha T 8 [8] sz hg pf J (al T 9 1 sz hg pf J J J (gM 2 12 ?_ ?_)))))))))
  ·refine kh [] J kQ Z1 (eT.c ·) (λv6 Z1=>an sz (gM 6 12 ?_ ?_))
   ·refine kh [] J kQ Z1 (eT.c ·) (λv7 Z1=>an sz (ha T 4 [7] sz hg pf J (gM 10 12 ?_ ?_)))
    ·refine kh [] J kQ Z1 (eT.c ·) (λv8 Z1=>an sz (ha T 2 [11] sz hg pf J (ao 12 (nw T J (λb5=>an (so [0,0,0]) (ao 13 (sf T 3 J (an (so [0,0,0]) (ae (rx T 1 (bA (am (_,_,_,_,_,_,_,_) [0,0,0,0,0] ⟨oi Z1,ak.nil⟩ J J))))))))))))
    refine nw T J (λb6=>an (so [0,0,0]) (ao 10 (kh [] J kQ Z1 (eT.c ·) (λv9 Z1=>an (so [0,0,0]) (ha T 1 [11] (so [0,0,0]) hg pf J (ao 13 (sf T 3 J (an (so [0,0,0]) (ae (rx T 1 (bA (am (_,_,_,_,_,_,_,_) [0,0,0,0,0] ⟨oi Z1,ak.nil⟩ J J))))))))))))
   refine nw T J (λb7=>an (so [0,0,0]) (ao 6 (kh [] J kQ Z1 (eT.c ·) (λv10 Z1=>an (so [0,0,0]) (ha T 3 [7] (so [0,0,0]) hg pf J (ao 10 (kh [] J kQ Z1 (eT.c ·) (λv11 Z1=>an (so [0,0,0]) (ha T 1 [11] (so [0,0,0]) hg pf J (ao 13 (sf T 3 J (an (so [0,0,0]) (ae (rx T 1 (bA (am (_,_,_,_,_,_,_,_) [0,0,0,0,0] ⟨oi Z1,ak.nil⟩ J J))))))))))))))))
  refine nw T J (λb8=>an (so [0,0,0]) (ao 2 (kh [] J kQ Z1 (eT.c ·) (λv12 Z1=>an (so [0,0,0]) (ao 6 (kh [] J kQ Z1 (eT.c ·) (λjf Z1=>an (so [0,0,0]) (ha T 3 [7] (so [0,0,0]) hg pf J (ao 10 (kh [] J kQ Z1 (eT.c ·) (λei Z1=>an (so [0,0,0]) (ha T 1 [11] (so [0,0,0]) hg pf J (ao 13 (sf T 3 J (an (so [0,0,0]) (ae (rx T 1 (bA (am (_,_,_,_,_,_,_,_) [0,0,0,0,0] ⟨oi Z1,ak.nil⟩ J J)))))))))))))))))))
 rintro _ ⟨x1,x2,x3,x4,b3,a4,n4,H4⟩ ⟨rfl,s4⟩ H;refine rc T 4 (lf T 3 J (ro T 9 (cb J H (λH=>?_) (λH=>?_))))
 ·refine fz J (rg [12] [0,0,0,1] mix (bR bQ) (λhg pf=>ha T 12 [0] (so [0,0,0,1]) hg pf J (al T 1 1 (so [0,0,0,1]) hg pf J J J (ha T 9 [2,3] (so [0,0,0,1]) hg pf J (al T 4 1 (so [0,0,0,1]) hg pf J J J (ha T 6 [5,7] (so [0,0,0,1]) hg pf J (gM 6 8 ?_ ?_)))))))
  ·refine c_ (k:=(Fl.int .u8)) T [2,0,1,0,1,(bN x.A),(bN x.B)] J J J J J J J J J (λa9 H9 s9=>an (so [0,0,0,1]) (ao 8 (sf T 3 J (an (so [0,0,0,1]) (ha T 3 [9] (so [0,0,0,1]) hg pf J (ao 10 (sf T 3 J (an (so [0,0,0,1]) (ha T 1 [11] (so [0,0,0,1]) hg pf J (ao 12 (sf T 3 J (an sl (ae (rx T 4 (lm T 3 J (sg T 2 J (ro T 3 ?_)))))))))))))))))
   cases H;exact pb T J (.cT (j:=2) [(ii x1),(ii 0),(ii 0),(ll a9 [2,0,1,0,1,(bN x.A),(bN x.B)] (aa [2,0,1,0,1,(bN x.A),(bN x.B)]))] J J J J J J J .nil) [5,0] ⟨(_,_),a9,(aa [2,0,1,0,1,(bN x.A),(bN x.B)]),H9,s9,J,J⟩ J J
  refine sf T 3 J (an (so [0,0,0,1]) (ha T 4 [9] (so [0,0,0,1]) hg pf J (gM 6 10 ?_ ?_)))
  ·refine c_ (k:=(Fl.int .u8)) T [2,0,1,0,1,(bN x.A),(bN x.B)] J J J J J J J J J (λcz bZ bT=>an (so [0,0,0,1]) (ao 10 (sf T 3 J (an (so [0,0,0,1]) (ha T 1 [11] (so [0,0,0,1]) hg pf J (ao 12 (sf T 3 J (an sl (ae (rx T 4 (lm T 3 J (sg T 2 J (ro T 3 ?_)))))))))))))
   cases H;exact pb T J (.cT (j:=2) [(ii x1),(ii 0),(ii 0),(ll cz [2,0,1,0,1,(bN x.A),(bN x.B)] (aa [2,0,1,0,1,(bN x.A),(bN x.B)]))] J J J J J J J .nil) [5,0] ⟨(_,_),cz,(aa [2,0,1,0,1,(bN x.A),(bN x.B)]),bZ,bT,J,J⟩ J J
  refine sf T 3 J (an (so [0,0,0,1]) (ao 6 (c_ (k:=(Fl.int .u8)) T [2,0,1,0,1,(bN x.A),(bN x.B)] J J J J J J J J J (λde cE cW=>an (so [0,0,0,1]) (ha T 1 [11] (so [0,0,0,1]) hg pf J (ao 12 (sf T 3 J (an sl (ae (rx T 4 (lm T 3 J (sg T 2 J (ro T 3 ?_)))))))))))))
  cases H;exact pb T J (.cT (j:=2) [(ii x1),(ii 0),(ii 0),(ll de [2,0,1,0,1,(bN x.A),(bN x.B)] (aa [2,0,1,0,1,(bN x.A),(bN x.B)]))] J J J J J J J .nil) [5,0] ⟨(_,_),de,(aa [2,0,1,0,1,(bN x.A),(bN x.B)]),cE,cW,J,J⟩ J J
 refine rc T 6 (cb J H (λH=>?_) (λH=>?_))
 ·refine rc T 3 (lf T 1 J (ro T 2 (k [] J kQ H (eT.c ·) (λdt H=>ro T 1 (sg T 3 J (ro T 4 (lf T 1 J (k [] J kQ H (eT.c ·) (λdI H=>ro T 2 (sg T 3 J (ro T 5 (lm T 3 J (sg T 2 J (ro T 1 (ke [4] [0,1,2] J J (rx T 1 (rc T 1 ?_)))))))))))))))))
  cases H;exact pb T J (.cT (j:=1) [(ii x1),(ii dt),(ii (af (dI*255))),(ll a4 x4 n4)] J J J J J J J .nil) [2,0] ⟨(_,_),a4,n4,H4,s4,J,J⟩ J J
 refine rc T 6 (cb J H (λH=>?_) (λH=>?_))
 ·refine rc T 2 (sg T 3 J (ro T 5 (lm T 3 J (sg T 2 J (ro T 3 ?_)))))
  cases H;exact pb T J (.cT (j:=2) [(ii x1),(ii x2),(ii 0),(ll a4 x4 n4)] J J J J J J J .nil) [4,0] ⟨(_,_),a4,n4,H4,s4,J,J⟩ J J
 refine rc T 5 (lm T 3 J (sg T 2 J (ro T 3 ?_)))
 cases H;exact pb T J (.cT (j:=2) [(ii x1),(ii x2),(ii x3),(ll a4 x4 n4)] J J J J J J J .nil) [4,0] ⟨(_,_),a4,n4,H4,s4,J,J⟩ J J
def kX.l0:Nat->Int->Int->(List Int)->(List pD)->Int->Int->List Int->List dL->Int->Int->Option (List dL)
 |0,_,_,_,_,_,_,_,_,_,_=>none
 |lS+1,w,h,p2,l,x9,aK,bf,bt,aO,a_=>if((decide (a_<(aa l:Int)))&&(decide (a_<60)))=true then(if(0<=a_/\a_<(aa l:Int)) then(((eT.f ((rd l a_).A) 0 (af (aO-1))).bind λv21=>(eT.f ((rd l a_).B) 0 (af (aO-1))).bind λv22=>some ((0:Int),v21,v22,([]:List Int))).bind λ(dS,dh,dm,du)=>((eT.f ((rd l a_).Kind) 0 15).bind λv35=>(if(v35==0)=true then(some (v35==0)) else(if(v35==1)=true then(some (v35==1)) else(some (v35==2)))).bind λwY=>if wY=true then(some (x9,aK,bf,aO,(3:Int),dh,dm,du)) else(if(v35==3)=true then((eT.f ((rd l a_).A) 0 9).bind λpc=>some (x9,aK,bf,aO,(4:Int),pc,dm,du)) else(if(v35==4)=true then((eT.f ((rd l a_).A) 0 9).bind λv39=>some (x9,aK,bf,aO,(5:Int),v39,(0:Int),du)) else((if(v35==5)=true then(some (v35==5)) else(some (v35==6))).bind λgC=>if gC=true then((wB.f (bN ((rd l a_).B))).bind λLf=>some (x9,aK,bf,aO,(2:Int),dh,(af Lf),du)) else((if(v35==7)=true then(some (v35==7)) else(some (v35==8))).bind λfJ=>if fJ=true then(some (x9,aK,bf,aO,(6:Int),dh,dm,du)) else(if(v35==9)=true then(some (x9,aK,bf,aO,(8:Int),(0:Int),(0:Int),([]:List Int))) else(if(v35==10)=true then(if((fy (rd l a_).A 4)==0)=true then((lE.f (af (w+(af (cZ (rd l a_).A 4)))) (af (h+(rd l a_).B)) p2).bind λv45=>(lF.f v45).bind λv46=>some (v45.W,v45.H,v45.C,(aa v45.C:Int),(1:Int),(0:Int),(0:Int),v46)) else((eT.f ((rd l a_).B) 0 200).bind λqH=>some (x9,aK,bf,aO,(0:Int),(af (9+qH)),(0:Int),([]:List Int)))) else(if(v35==11)=true then((yn.f (rd l a_) aO).bind λHX=>some (x9,aK,bf,aO,HX.Kind,HX.A,HX.B,HX.Map)) else(some (x9,aK,bf,aO,(7:Int),(0:Int),(0:Int),([]:List Int))))))))))).bind λ(j8,mm,nt,jg,iD,rH,nu,oz)=>if(aa bt+1<=1099511627776) then(kX.l0 lS w h p2 l j8 mm nt (bt++[(dL.mk iD rH nu oz)]) jg (af (a_+1))) else none) else none) else(some bt)
def kX.f (w:Int) (h:Int) (p2:(List Int)) (l:(List pD)):Option (List dL):=(lE.f w h p2).bind λv1=>(lF.f v1).bind λv2=>kX.l0 fuel w h p2 l v1.W v1.H v1.C [(dL.mk 1 0 0 v2)] (aa v1.C:Int) 0
def kX.R (r:(List dL)):bk:=λu G=> ∃a0 n0 H0,gK Ht 55 r a0 n0 H0/\u=(ll a0 r n0)/\G=[H0]
theorem kX.c (H:kX.f w h p2 l=some r) (Gf:aP (Fl.int .u8) p2 LC F) (L4:aa p2<=Oq) (df:aP Ep l gV F) (f_:aa l<=gQ):
 QR 20 [(ii w),(ii h),(ll LC p2 Oq),(ll gV l gQ)] [] [] F (kX.R r):=by
 unfold kX.f at H;refine aG Tryz.func20 J J (λW=>rc T 10 (kr lE.R [] [] J Tc H (lE.c · (rO Gf 0) L4) (λv1 H=>?_)));rintro _ _ ⟨a1,n1,H1,s1,rfl,rfl⟩;refine fz J (nc T J (λb2=>sg T 2 J (ro T 4 (lm T 2 J (kr lF.R [] [] J Nc H (lF.c · (oO s1 1) s1.b_) (λv2 H=>?_))))));rintro _ _ ⟨a3,n3,H3,s3,rfl,rfl⟩;refine fz J (ro T 1 (gD [3] J (aV (FH (kd:=Ht) (E:=55) (q:=3) (c:=[(ii 1),(ii 0),(ii 0),(ll a3 v2 n3)]) T (dL.mk 1 0 0 v2) J J J J J J J J J J ⟨a3,n3,H3,s3,J,J⟩ (λa5 H5 s5=>ro T 6 (lf T 2 J (ro T 11 (lq [0,1,2,3,9] [0] (λ(⟨lS,x9,aK,bf,bt,aO,a_,a8,n8,H8,a9,n9,H9⟩:Nat×Int×Int×List Int×List dL×Int×Int×Option Addr×Nat×Hp×Option Addr×Nat×Hp)=>(kX.l0 lS w h p2 l x9 aK bf bt aO a_=some r/\ak (Fl.int .u8) 5 bf a8 n8 H8/\gK Ht 55 bt a9 n9 H9,[(10,(ll a9 bt n9)),(11,(ii aO)),(12,(ii a_))],[(cl b2 30 [(ii x9),(ii aK),(ll a8 bf n8)]),H8,H9])) J J (fuel,v1.W,v1.H,v1.C,[(dL.mk 1 0 0 v2)],(aa v1.C:Int),0,a1,n1,H1,a5,(aa [(dL.mk 1 0 0 v2)]),H5) [0,1,0,1] ⟨H,s1,s5⟩ J J ?_))))))));rintro lS ⟨x9,aK,bf,bt,aO,a_,a8,n8,H8,a9,n9,H9⟩ ⟨Z3,s8,s9⟩;rw[kX.l0] at Z3;refine rc T 8 (ga T [5,6,7] 30 [0,1,2,3,9,10,11,12] 33 J J J J J J J (ro T 2 (cb J Z3 (λZ3=>?_) (λZ3=>?_))))
 ·refine rc T 8 ?_;obtain⟨c5,Z3⟩:=az Z3;obtain⟨KM,KE,qf⟩:=df.addr c5.1 c5.2;refine ix T J qf c5 (bx J (gd T (cs:=[(ii (rd l a_).Kind),(ii (rd l a_).A),(ii (rd l a_).B)]) J J J J J J (iu (k:=Ep) (rO df 0) qf c5 J)) (nc T J (λjO=>sg T 4 J (ro T 2 (mq Z3 [0,1,2,3,9,10,11,12,13] [0,0,0,0,0] (λz20 (⟨dS,dh,dm,du,ln,dy,n13,dT⟩:Int×Int×Int×List Int×Nat×Option Addr×Nat×Hp)=>((dS,dh,dm,du)=z20/\ak (Fl.int .u8) 5 du dy n13 dT,[(14,(pp ln))],[(cl ln 55 [(ii dS),(ii dh),(ii dm),(ll dy du n13)]),dT])) J J (λz20 Z6 _=>?_) ?_)))))
  ·refine ks [0,1,2,3,9,10,11,12,13] J (fz J (rz [] mix (bR bQ) (λhg pf=>ha T 12 [0] sz hg pf J (al T 1 4 sz hg pf J J J (ha T 8 [2,3,5] sz hg pf J (al T 6 4 sz hg pf J J J (ha T 5 [7,8] sz hg pf J (gM 4 11 ?_ ?_))))))))
   ·refine kh [] J kQ Z6 (eT.c ·) (λv21 Z6=>an sz (gM 9 11 ?_ ?_))
    ·refine kh [] J kQ Z6 (eT.c ·) (λv22 Z6=>an sz (ha T 2 [10] sz hg pf J (ao 11 (nw T J (λI3=>an (so [0,0,0,0,0]) (ao 12 (sf T 5 J (an (so [0,0,0,0,0]) (ae (rx T 1 (bA (am (_,_,_,_,_,_,_,_) [0,0,0,0,0,0,0] ⟨oi Z6,ak.nil⟩ J J))))))))))))
    refine nw T J (λoG=>an (so [0,0,0,0,0]) (ao 9 (kh [] J kQ Z6 (eT.c ·) (λv23 Z6=>an (so [0,0,0,0,0]) (ha T 1 [10] (so [0,0,0,0,0]) hg pf J (ao 12 (sf T 5 J (an (so [0,0,0,0,0]) (ae (rx T 1 (bA (am (_,_,_,_,_,_,_,_) [0,0,0,0,0,0,0] ⟨oi Z6,ak.nil⟩ J J))))))))))))
   refine nw T J (λqQ=>an (so [0,0,0,0,0]) (ao 4 (kh [] J kQ Z6 (eT.c ·) (λv24 Z6=>an (so [0,0,0,0,0]) (ao 9 (kh [] J kQ Z6 (eT.c ·) (λv25 Z6=>an (so [0,0,0,0,0]) (ha T 1 [10] (so [0,0,0,0,0]) hg pf J (ao 12 (sf T 5 J (an (so [0,0,0,0,0]) (ae (rx T 1 (bA (am (_,_,_,_,_,_,_,_) [0,0,0,0,0,0,0] ⟨oi Z6,ak.nil⟩ J J)))))))))))))))
  rintro _ ⟨dS,dh,dm,du,ln,dy,n13,dT⟩ ⟨rfl,dg⟩ Z3;refine mq Z3 [0,1,2,3,9,10,12,14] [0,2] (λXw (⟨j8,mm,nt,jg,iD,rH,nu,oz,a17,n17,eP,jj,n18,fo⟩:Int×Int×List Int×Int×Int×Int×Int×List Int×Option Addr×Nat×Hp×Option Addr×Nat×Hp)=>((j8,mm,nt,jg,iD,rH,nu,oz)=Xw/\ak (Fl.int .u8) 5 nt a17 n17 eP/\ak (Fl.int .u8) 5 oz jj n18 fo,[(11,(ii jg))],[(cl b2 30 [(ii j8),(ii mm),(ll a17 nt n17)]),eP,(cl ln 55 [(ii iD),(ii rH),(ii nu),(ll jj oz n18)]),fo])) J J (λXw bp _=>?_) ?_
  ·refine rc T 3 (lf T 4 J (k [] J kQ bp (eT.c ·) (λv35 bp=>ro T 3 (mq bp [0,1,2,3,9,10,11,12,13,14,53] [0,0,0,0,0,0,0] (λz37 (wY:Bool)=>(wY=z37,[(55,(bb wY))],[])) J J (λz37 bD _=>?_) ?_))))
   ·refine rc T 6 (cb J bD (λbD=>?_) (λbD=>?_))
    ·refine rc T 2 (am _ [0,0,0,0,0,0,0] (oi bD) J J)
    refine rc T 6 (cb J bD (λbD=>?_) (λbD=>?_))
    ·refine rc T 2 (am _ [0,0,0,0,0,0,0] (oi bD) J J)
    refine rc T 5 (am _ [0,0,0,0,0,0,0] (oi bD) J J)
   rintro _ wY rfl bp;refine cb J bp (λbp=>?_) (λbp=>?_)
   ·refine rc T 2 (sg T 5 J (ro T 3 (am (_,_,_,_,_,_,_,_,_,_,_,_,_,_) [0,2,0,0,1,1] ⟨oi bp,s8,dg⟩ J J)))
   refine rc T 6 (cb J bp (λbp=>?_) (λbp=>?_))
   ·refine rc T 2 (lf T 4 J (k [] J kQ bp (eT.c ·) (λpc bp=>ro T 1 (sg T 5 J (ro T 1 (sg T 5 J (ro T 3 (am (_,_,_,_,_,_,_,_,_,_,_,_,_,_) [0,2,0,0,1,1] ⟨oi bp,s8,dg⟩ J J))))))))
   refine rc T 6 (cb J bp (λbp=>?_) (λbp=>?_))
   ·refine rc T 2 (lf T 4 J (k [] J kQ bp (eT.c ·) (λv39 bp=>ro T 1 (sg T 5 J (ro T 1 (sg T 5 J (ro T 1 (sg T 5 J (ro T 3 (am (_,_,_,_,_,_,_,_,_,_,_,_,_,_) [0,2,0,0,1,1] ⟨oi bp,s8,dg⟩ J J))))))))))
   refine mq bp [0,1,2,3,9,10,11,12,13,14,53] [0,0,0,0,0,0,0] (λz41 (gC:Bool)=>(gC=z41,[(75,(bb gC))],[])) J J (λz41 kH _=>?_) ?_
   ·refine rc T 6 (cb J kH (λkH=>?_) (λkH=>?_))
    ·refine rc T 2 (am _ [0,0,0,0,0,0,0] (oi kH) J J)
    refine rc T 5 (am _ [0,0,0,0,0,0,0] (oi kH) J J)
   rintro _ gC rfl bp;refine cb J bp (λbp=>?_) (λbp=>?_)
   ·refine rc T 2 (lf T 4 J (ro T 1 (k [] J Nd bp (wB.c ·) (λLf bp=>ro T 2 (sg T 5 J (ro T 1 (sg T 5 J (ro T 3 (am (_,_,_,_,_,_,_,_,_,_,_,_,_,_) [0,2,0,0,1,1] ⟨oi bp,s8,dg⟩ J J)))))))))
   refine mq bp [0,1,2,3,9,10,11,12,13,14,53] [0,0,0,0,0,0,0] (λz44 (fJ:Bool)=>(fJ=z44,[(85,(bb fJ))],[])) J J (λz44 Fp _=>?_) ?_
   ·refine rc T 6 (cb J Fp (λFp=>?_) (λFp=>?_))
    ·refine rc T 2 (am _ [0,0,0,0,0,0,0] (oi Fp) J J)
    refine rc T 5 (am _ [0,0,0,0,0,0,0] (oi Fp) J J)
   rintro _ fJ rfl bp;refine cb J bp (λbp=>?_) (λbp=>?_)
   ·refine rc T 2 (sg T 5 J (ro T 3 (am (_,_,_,_,_,_,_,_,_,_,_,_,_,_) [0,2,0,0,1,1] ⟨oi bp,s8,dg⟩ J J)))
   refine rc T 6 (cb J bp (λbp=>?_) (λbp=>?_))
   ·refine rc T 2 (sg T 5 J (ro T 3 (bA (am (_,_,_,_,_,_,_,_,_,_,_,_,_,_) [0,2,0,0,1,2] ⟨oi bp,s8,ak.nil⟩ J J))))
   refine rc T 6 (cb J bp (λbp=>?_) (λbp=>?_))
   ·refine rc T 3 (lf T 4 J (ro T 4 (cb J bp (λbp=>?_) (λbp=>?_))))
    ·refine rc T 4 (lf T 4 J (ro T 4 (lf T 4 J (ro T 2 (kr lE.R [] [] J Tc bp (lE.c · (rO Gf 0) L4) (λv45 bp=>?_))))));rintro _ _ ⟨my,n19,lh,hJ,rfl,rfl⟩;refine fz J (sg T 1 J (ro T 5 (lf T 1 J (ro T 5 (lm T 1 J (kr lF.R [] [] J Nc bp (lF.c · (oO hJ 7) hJ.b_) (λv46 bp=>?_)))))));rintro _ _ ⟨a20,n20,oA,mi,rfl,rfl⟩;refine fz J (ro T 1 (sg T 5 J (ro T 3 (am (_,_,_,_,_,_,_,_,_,_,_,_,_,_) [0,2,0,4,2,3] ⟨oi bp,hJ,mi⟩ J J))))
    refine rc T 2 (lf T 4 J (k [] J kQ bp (eT.c ·) (λqH bp=>ro T 2 (sg T 5 J (ro T 3 (bA (am (_,_,_,_,_,_,_,_,_,_,_,_,_,_) [0,2,0,0,1,2] ⟨oi bp,s8,ak.nil⟩ J J)))))))
   refine rc T 6 (cb J bp (λbp=>?_) (λbp=>?_))
   ·refine rc T 1 (lm T 4 J (ro T 1 (kr yn.R [] [] J adr bp (yn.c ·) (λHX bp=>?_))));rintro _ _ ⟨a21,n21,lJ,j4,rfl,rfl⟩;refine fz J (sg T 5 J (ro T 3 (am (_,_,_,_,_,_,_,_,_,_,_,_,_,_) [0,2,0,0,1,2] ⟨oi bp,s8,j4⟩ J J)))
   refine rc T 2 (sg T 5 J (ro T 3 (bA (am (_,_,_,_,_,_,_,_,_,_,_,_,_,_) [0,2,0,0,1,2] ⟨oi bp,s8,ak.nil⟩ J J))))
  rintro _ ⟨j8,mm,nt,jg,iD,rH,nu,oz,a17,n17,eP,jj,n18,fo⟩ ⟨rfl,fF,fG⟩ Z3;refine rc T 2 (lm T 4 J (gD [5] J (aV (FH (kd:=Ht) (E:=55) (q:=5) (c:=[(ii iD),(ii rH),(ii nu),(ll jj oz n18)]) T (dL.mk iD rH nu oz) J J J J J J J J J J ⟨jj,n18,fo,fG,J,J⟩ (λa23 jL hU=>?_)))));obtain⟨ZU,Z3⟩:=az Z3;refine aV (FG (kd:=Ht) (xs:=bt) (ys:=[(dL.mk iD rH nu oz)]) T (g:=1) (q:=6) J J J J J J J J J J s9 J J hU ZU J (λa24 n24 rK mj=>ro T 10 (ar (_,_,_,_,_,_,_,_,_,_,_,_) [0,1,1,0] ⟨Z3,fF,mj⟩ J J)))
 refine rc T 12 ?_
 cases Z3;exact p1 T J [3,0] ⟨a9,n9,H9,s9,J,J⟩ J
end
noncomputable section
def wT.f (l:(List pD)) (n:Int):Option Int:=if(0<=(0:Int)/\(0:Int)<=(if n<(aa l:Int) then n else(aa l:Int))/\(if n<(aa l:Int) then n else(aa l:Int))<=(aa l:Int)) then(some (if n<(aa l:Int) then n else(aa l:Int))) else none
theorem wT.c (H:wT.f l n=some r) (df:aP Ep l gV F) (f_:aa l<=gQ):
 QU 13 [(ll gV l gQ),(ii n)] [] F (ll (gk gV gQ (ax 0) 3) (aB l 0 r) (gQ-ax 0)):=by
 unfold wT.f at H;refine aG Tryz.func13 J J (λW=>rc T 12 ?_);obtain⟨c1,H⟩:=az H;refine bx J (kP T J J J J J J c1 f_) (ro T 4 ?_);obtain rfl:=Option.some.inj H;exact FJ (T:=T) J (.tmp J .nil) (λw o=>⟨(),J,CZ [0] J o⟩)
theorem wT.b {l:(List pD)} {n:Int} {r:Int} (H:wT.f l n=some r):(0<=(0:Int)/\(0:Int)<=r/\r<=(aa l:Int)):=by
 unfold wT.f at H;obtain⟨c,H⟩:=az H;obtain rfl:=Option.some.inj H;exact c
def ov.l0:Nat->(List dL)->cm->Int->Option (Option cm)
 |0,_,_,_=>none
 |k7+1,v2,x5,x6=>if x6<(aa v2:Int) then(if(0<=x6/\x6<(aa v2:Int)) then((kC.f x5 (rd v2 x6)).bind λv8=>ov.l0 k7 v2 v8.2 (af (x6+1))) else none) else((sM.f x5).bind λv9=>(C9.f v9).bind λv10=>if(!v10)=true then(some none) else(some (some x5)))
def ov.f (ag:Int) (most:Int) (w:Int) (h:Int) (p4:(List Int)) (l:(List pD)):Option (Option cm):=(vk.f ag most).bind λv1=>dF v1 (some none) (λeO=>(kX.f w h p4 l).bind λv2=>ov.l0 fuel v2 eO 0)
def ov.R (el:Nat->Addr) (r:(Option cm)):bk:=λu G=> ∃(u0:Value) (G0:List Hp),P3 r u0 G0/\u=u0/\G=G0
theorem ov.c (H:ov.f ag most w h p4 l=some r) (hG:fK 414 fa gP el F) (abB:aP (Fl.int .u8) p4 Yd F) (Z':aa p4<=afv) (df:aP Ep l gV F) (f_:aa l<=gQ):
 QR 11 [(ii ag),(ii most),(ii w),(ii h),(ll Yd p4 afv),(ll gV l gQ)] [] [] F (ov.R el r):=by
 unfold ov.f at H;refine aG Tryz.func11 J J (λW=>rc T 9 (kr vk.R [] [] J SR H (vk.c ·) (λv1 H=>?_)));rintro _ _ ⟨_,_,O2,rfl,rfl⟩;rcases v1 with _ |eO
 ·replace H:=ff J H;obtain⟨rfl,rfl⟩:=O2;refine ro T 10 (nL J (rc T 7 ?_))
  cases H;exact p1 T J [0] ⟨_,_,⟨J,J⟩,J,J⟩ J
 replace H:=fg J H;obtain⟨b1,H1,s1,rfl,rfl⟩:=O2;refine ro T 10 (e_ J (rc T 8 (kr kX.R [] [] J aco H (kX.c · (rO abB 0) Z' (rO df 0) f_) (λv2 H=>?_))));rintro _ _ ⟨a2,n2,H2,s2,rfl,rfl⟩;refine fz J (ro T 10 (lq [13,14] [0,1] (λ(⟨k7,x5,x6,H4⟩:Nat×cm×Int×Hp)=>(ov.l0 k7 v2 x5 x6=some r/\fR x5 b1 H4,[(15,(ii x6))],[H4])) J J (fuel,eO,0,H1) [0,1,0] ⟨H,s1⟩ J J ?_));rintro k7 ⟨x5,x6,H4⟩ ⟨Z4,s4⟩;rw[ov.l0] at Z4;refine rc T 9 (cd J Z4 (λZ4=>?_) (λZ4=>?_))
 ·refine rc T 8 ?_;obtain⟨c6,Z4⟩:=az Z4;obtain⟨q5,o5,e5⟩:=s2.r.addr c6.1 c6.2;refine ix T J e5 c6 ?_;obtain⟨_,w7,⟨a6,n6,⟨r6,m6⟩,rfl⟩⟩:=nJ.view s2.r c6;refine bx J (gd T (cs:=[(ii (rd v2 x6).Kind),(ii (rd v2 x6).A),(ii (rd v2 x6).B),(ll a6 (rd v2 x6).Map n6)]) J J J J J J (N8 (j:=1) J w7 e5 0 J)) (kr (kC.R el b1) [] [2] J D_ Z4 (kC.c · (dE hG (j:=0) J) s4 (rO r6 1) m6) (λv8 Z4=>?_));rintro _ _ ⟨a8,n8,H8,a9,n9,H9,bZ,s8,s9,bT,rfl,rfl⟩;refine fz J (ro T 9 (ar (_,_,_) [0,0,2] ⟨Z4,bT⟩ J J))
 refine rc T 9 (kr sM.R [2] [2] J Ss Z4 (sM.c · s4) (λv9 Z4=>?_));rintro _ _ ⟨de,n11,cE,cW,rfl,rfl⟩;refine fz J (k [] J adn Z4 (C9.c · (oO cW 2) cW.b_) (λv10 Z4=>ro T 3 (cb J Z4 (λZ4=>?_) (λZ4=>?_))))
 ·refine rc T 7 ?_
  cases Z4;exact p1 T J [0] ⟨_,_,⟨J,J⟩,J,J⟩ J
 refine rc T 9 ?_
 cases Z4;exact p1 T J [3,0] ⟨_,_,⟨b1,H4,s4,J,J⟩,J,J⟩ J
def yB.f (s:cm) (goal:Int) (cell:Int):Option (Int×Int×Bool×cm):=(kC.f s (dL.mk 6 goal cell [])).bind λv1=>some (v1.1.D,v1.1.cK,(v1.1.Code==0),v1.2)
def yB.R (el:Nat->Addr) (mD:Nat) (r:(Int×Int×Bool×cm)):bk:=λu G=> ∃(H0:Hp),fR r.2.2.2 mD H0/\u=(.tuple #[(ii r.1),(ii r.2.1),(bb r.2.2.1)])/\G=[H0]
theorem yB.c (H:yB.f s goal cell=some r) (hG:fK 414 fa gP el F) (cX:fR s bh dZ):
 QR 16 [(pp bh),(ii goal),(ii cell)] [dZ] [] F (yB.R el bh r):=by
 unfold yB.f at H;refine aG Tryz.func16 J J (λW=>rc T 13 (kr (kC.R el bh) [] [0] J D_ H (kC.c (o:=(dL.mk 6 goal cell [])) · (dE hG (j:=0) J) cX (.inl J) (jM _)) (λv1 H=>?_)));rintro _ _ ⟨a2,n2,H2,a3,n3,H3,H4,s2,s3,s4,rfl,rfl⟩;refine fz J (nc T J (λb5=>sg T 4 J (ro T 3 (dq mix aA (au T J (cw T 4 J J J (au T J (cw T 4 J J J (au T J (cw T 4 J J J ?_))))))))))
 iterate 4 refine au T J ?_
 refine cM (rx T 2 ?_)
 cases H;exact p1 T J [3,0] ⟨H4,s4,J,J⟩ J
def E0.f:Option Bool:=(vk.f 1 2).bind λv1=>dF v1 (some false) (λeO=>(lF.f (aF.mk 3 1 [5,2,9])).bind λv2=>(kC.f eO (dL.mk 1 0 0 v2)).bind λv3=>(kC.f v3.2 (dL.mk 3 0 2 [])).bind λv4=>(kC.f v4.2 (dL.mk 6 2 0 [])).bind λv5=>(kC.f v5.2 (dL.mk 7 0 0 [])).bind λv6=>(if(v3.1.Code==0)=true then(if(v4.1.Id==0)=true then(if(v5.1.D==11)=true then(if(v5.1.cK==1)=true then((wE.f v6.1.iG [(fY.mk 0 1)]).bind λv9=>if v9=true then((Bq.f v6.2).bind λv10=>some ((aa v10:Int)==1)) else(some false)) else(some false)) else(some false)) else(some false)) else(some false)).bind λx7=>some x7)
theorem E0.c (H:E0.f=some r) (hG:fK 414 fa gP el F):
 QU 18 [] [] F (bb r):=by
 unfold E0.f at H;refine aG Tryz.func18 J J (λW=>rc T 7 (kr vk.R [] [] J SR H (vk.c ·) (λv1 H=>?_)));rintro _ _ ⟨_,_,O2,rfl,rfl⟩;rcases v1 with _ |eO
 ·replace H:=ff J H;obtain⟨rfl,rfl⟩:=O2;refine ro T 10 (nL J (rc T 7 ?_))
  cases H;exact p0 T J [0] J
 replace H:=fg J H;obtain⟨b1,H1,s1,rfl,rfl⟩:=O2;refine ro T 10 (e_ J (rc T 4 (aV (c_ (k:=(Fl.int .u8)) T [5,2,9] J J J J J J J J J (λa2 H2 s2=>ro T 1 (nc T J (λb3=>sg T 3 J (ro T 5 (lm T 3 J (kr lF.R [] [] J Nc H (lF.c (m:=(aF.mk 3 1 [5,2,9])) · (oO s2 2) s2.b_) (λv2 H=>?_)))))))))));rintro _ _ ⟨a4,n4,H4,s4,rfl,rfl⟩;refine fz J (ro T 1 (kr (kC.R el b1) [] [1] J D_ H (kC.c (o:=(dL.mk 1 0 0 v2)) · (dE hG (j:=0) J) s1 (oO s4 3) s4.b_) (λv3 H=>?_)));rintro _ _ ⟨a5,n5,H5,a6,n6,H6,H7,s5,s6,s7,rfl,rfl⟩;refine fz J (nc T J (λb8=>sg T 7 J (ro T 1 (ke [1,3] [0,3,3,3,3] J J (rx T 5 (kr (kC.R el b1) [] [3] J D_ H (kC.c (o:=(dL.mk 3 0 2 [])) · (dE hG (j:=0) J) s7 (.inl J) (jM _)) (λv4 H=>?_)))))));rintro _ _ ⟨a9,n9,H9,cz,n10,bZ,cE,s9,bT,cW,rfl,rfl⟩;refine fz J (nc T J (λln=>sg T 7 J (ro T 6 (kr (kC.R el b1) [] [6] J D_ H (kC.c (o:=(dL.mk 6 2 0 [])) · (dE hG (j:=0) J) cW (.inl J) (jM _)) (λv5 H=>?_)))));rintro _ _ ⟨dy,n13,dT,gU,n14,fm,dO,dg,gi,dW,rfl,rfl⟩;refine fz J (nc T J (λqQ=>sg T 10 J (ro T 6 (kr (kC.R el b1) [] [9] J D_ H (kC.c (o:=(dL.mk 7 0 0 [])) · (dE hG (j:=0) J) dW (.inl J) (jM _)) (λv6 H=>?_)))));rintro _ _ ⟨a17,n17,eP,jj,n18,fo,lh,fF,fG,hJ,rfl,rfl⟩;refine fz J (nc T J (λI4=>sg T 13 J (ro T 1 (ks [1,3,4,5,6] J (rx T 1 (mq H [] [0] (λz8 (x7:Bool)=>(x7=z8,[(0,(bb x7))],[])) J J (λz8 Z8 _=>?_) ?_))))))
 ·refine rc T 2 (lf T 3 J (ro T 2 (ab 29 J Z8 (λZ8=>?_) (λZ8=>?_))))
  ·refine ro T 1 (lf T 6 J (ro T 3 (ab 34 J Z8 (λZ8=>?_) (λZ8=>?_))))
   ·refine ro T 1 (lf T 9 J (ro T 3 (ab 39 J Z8 (λZ8=>?_) (λZ8=>?_))))
    ·refine ro T 1 (lf T 9 J (ro T 3 (ab 44 J Z8 (λZ8=>?_) (λZ8=>?_))))
     ·refine ro T 1 (lf T 13 J (ro T 1 (aV (c_ (k:=jE) T [(fY.mk 0 1)] J J J J J J J J J (λa21 lJ j4=>k [] J adq Z8 (wE.c (b:=[(fY.mk 0 1)]) · (oO fF 10) fF.b_ (oO j4 14) j4.b_) (λv9 Z8=>ro T 2 (ab 51 J Z8 (λZ8=>?_) (λZ8=>?_))))))))
      ·refine ro T 1 (kr Bq.R [12] [12] J acF Z8 (Bq.c · hJ) (λv10 Z8=>?_));rintro _ _ ⟨a22,n22,mr,iv,rfl,rfl⟩;refine fz J (ro T 6 (am _ [0] (oi Z8) J J))
      refine ro T 8 (am _ [0] (oi Z8) J J)
     refine ro T 15 (am _ [0] (oi Z8) J J)
    refine ro T 20 (am _ [0] (oi Z8) J J)
   refine ro T 25 (am _ [0] (oi Z8) J J)
  refine ro T 30 (am _ [0] (oi Z8) J J)
 rintro _ x7 rfl H;refine rc T 1 ?_
 cases H;exact p0 T J [0] J
end
noncomputable section
def o_.l0:Nat->(List Int)->aF->Int->(List Int)->cm->Int->Option Bool
 |0,_,_,_,_,_,_=>none
 |nV+1,cells,v4,v5,v6,x9,aK=>if((decide (aK<(aa cells:Int)))&&(decide (aK<6)))=true then(if(0<=aK/\aK<(aa cells:Int)) then((eT.f (rd cells aK) 0 (af ((aa v4.C:Int)-1))).bind λv12=>(yB.f x9 v5 v12).bind λjf=>(if(!jf.2.2.1)=true then(some true) else(if(0<=v12/\v12<(aa v6:Int)) then(if(jf.1 !=(rd v6 v12))=true then(some true) else((rm.f v4 v5 v6 v12).bind λdI=>some (jf.2.1 !=dI))) else none)).bind λa_=>if a_=true then(some false) else(o_.l0 nV cells v4 v5 v6 jf.2.2.2 (af (aK+1)))) else none) else((E0.f).bind λv17=>some v17)
def o_.f (ag:Int) (w:Int) (h:Int) (p3:(List Int)) (l:(List pD)) (goal:Int) (cells:(List Int)):Option Bool:=(eT.f ag 1 6).bind λv1=>(wT.f l 30).bind λv2=>(ov.f v1 5 w h p3 (aB l 0 v2)).bind λv3=>dF v3 (some false) (λsQ=>(sM.f sQ).bind λv4=>(eT.f goal 0 (af ((aa v4.C:Int)-1))).bind λv5=>(eQ.f v4 v5).bind λv6=>o_.l0 fuel cells v4 v5 v6 sQ 0)
theorem o_.c (H:o_.f ag w h p3 l goal cells=some r) (hG:fK 414 fa gP el F) (abA:aP (Fl.int .u8) p3 Yc F) (Z_:aa p3<=afu) (df:aP Ep l gV F) (f_:aa l<=gQ) (Sg:aP (Fl.int .i64) cells X8 F) (aiU:aa cells<=afq):
 QU 3 [(ii ag),(ii w),(ii h),(ll Yc p3 afu),(ll gV l gQ),(ii goal),(ll X8 cells afq)] [] F (bb r):=by
 unfold o_.f at H;refine aG Tryz.func3 J J (λW=>rc T 8 (k [] J kQ H (eT.c ·) (λv1 H=>ro T 4 ?_)));obtain⟨v2,V2,H⟩:=gu H;have c3:=wT.b V2;refine aV (vJ (B:=λ_=>[]) [] J J J J abR J J (wT.c V2 (rO df 0) f_) (λ_=>kr (ov.R el) [] [] J abF H (ov.c · (dE hG (j:=0) J) (rO abA 0) Z_ (nq (rO df 0) c3 f_) (mS c3 f_)) (λv3 H=>?_)));rintro _ _ ⟨_,_,O5,rfl,rfl⟩;rcases v3 with _ |sQ
 ·replace H:=ff J H;obtain⟨rfl,rfl⟩:=O5;refine ro T 10 (nL J (rc T 7 ?_))
  cases H;exact p0 T J [0] J
 replace H:=fg J H;obtain⟨b1,H1,s1,rfl,rfl⟩:=O5;refine ro T 10 (e_ J (rc T 5 (kr sM.R [1] [1] J Ss H (sM.c · s1) (λv4 H=>?_))));rintro _ _ ⟨a2,n2,H2,s2,rfl,rfl⟩;refine fz J (nc T J (λb3=>sg T 3 J (ro T 6 (lf T 3 J (ro T 2 (k [] J kQ H (eT.c ·) (λv5 H=>ro T 5 (lm T 3 J (ro T 1 (kr eQ.R [] [] J abV H (eQ.c · (oO s2 1) s2.b_) (λv6 H=>?_)))))))))));rintro _ _ ⟨a4,n4,H4,s4,rfl,rfl⟩;refine fz J (ro T 2 (ks [6,15,16,17,18] J (rx T 8 (lq [6,15,16,17,18] [0,2,0,1] (λ(⟨nV,x9,aK,H6⟩:Nat×cm×Int×Hp)=>(o_.l0 nV cells v4 v5 v6 x9 aK=some r/\fR x9 b1 H6,[(19,(ii aK))],[H6])) J J (fuel,sQ,0,H1) [0,2,0,1,0] ⟨H,s1⟩ J J ?_))));rintro nV ⟨x9,aK,H6⟩ ⟨Z9,s6⟩;rw[o_.l0] at Z9;refine rc T 8 (ga T [5,6,7] 49 [6,15,16,17,18,19] 52 J J J J J J J (ro T 2 (cb J Z9 (λZ9=>?_) (λZ9=>?_))))
 ·refine rc T 5 (dq mix aA (au T J (au T J ?_)));obtain⟨di,Z9⟩:=az Z9;obtain⟨q7,o7,e7⟩:=Sg.addr di.1 di.2;refine bg J J J (cB T J J J J J e7 di.1 di.2) (bg J J J (cC T J J J J (fv (k:=(Fl.int .i64)) (rO Sg 0) e7 di 0 J)) (au T J (cw T 1 J J J (au T J (au T J ?_)))));obtain⟨v12,Fm,Z9⟩:=gu Z9;refine uD J J J J J J kQ J (eT.c Fm) (au T J (cM (rx T 6 (kr (yB.R el b1) [] [4] J ab0 Z9 (yB.c · (dE hG (j:=0) J) s6) (λjf Z9=>?_)))));rintro _ _ ⟨H8,s8,rfl,rfl⟩;refine fz J (ro T 9 (mq Z9 [6,15,16,17,18,19] [0,3,0,0,0] (λBD (a_:Bool)=>(a_=BD,[(90,(bb a_))],[])) J J (λBD bD _=>?_) ?_))
  ·refine rc T 4 (ab 74 J bD (λbD=>?_) (λbD=>?_))
   ·refine ro T 18 (am _ [0,3,0,0,0] (oi bD) J J)
   refine ro T 3 ?_;obtain⟨mC,bD⟩:=az bD;obtain⟨q9,o9,e9⟩:=s4.r.addr mC.1 mC.2;refine ix T J e9 mC (le T 0 (oO s4 3) e9 mC J J (ro T 3 (ab 82 J bD (λbD=>?_) (λbD=>?_))))
   ·refine ro T 10 (am _ [0,3,0,0,0] (oi bD) J J)
   refine ro T 1 (lm T 1 J (ro T 3 (k [] J ab6 bD (rm.c · (oO s2 2) s2.b_ (oO s4 3) s4.b_) (λdI bD=>ro T 4 (am _ [0,3,0,0,0] (oi bD) J J)))))
  rintro _ a_ rfl Z9;refine cb J Z9 (λZ9=>?_) (λZ9=>?_)
  ·refine rc T 11 ?_
   cases Z9;exact p0 T J [0] J
  refine rc T 9 (ar (_,_,_) [0,1,1,1,0] ⟨Z9,s8⟩ J J)
 refine rc T 7 (k [] J aca Z9 (E0.c · (dE hG (j:=0) J)) (λv17 Z9=>ro T 4 ?_))
 cases Z9;exact p0 T J [0] J
def o_.Pure:Prop:= ∀(ag:Int) (w:Int) (h:Int) (p3:(List Int)) (l:(List pD)) (goal:Int) (cells:(List Int)),ss ag->ss w->ss h->(∀y∈p3,dQ y)->(∀y∈l,(ss y.Kind/\ss y.A/\ss y.B))->ss goal->(∀y∈cells,ss y)->aa p3<=9223372036854775807->aa l<=9223372036854775807->aa cells<=9223372036854775807->o_.f ag w h p3 l goal cells=some true
end
end Go.Proofs.YthodkonhneebbaaGreatDoor
