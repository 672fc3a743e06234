/- What the functions of some packages compute, each as a function of plain Lean, with its contract. No condition. -/
import Derived.Test.YthodkonhneebbaaGreatDoorKST
import Derived.Test.YthodkonhneebbaaGreatDoorKS6
import Derived.Test.YthodkonhneebbaaGreatDoorKS7
import Derived.Test.YthodkonhneebbaaGreatDoorKS11
import Derived.Test.YthodkonhneebbaaGreatDoorKS5
namespace Go.Proofs.YthodkonhneebbaaGreatDoor
open Go.Hx
open Int renaming tmod->fC,tdiv->di,toNat->ax
open List renaming length->aa
open Nat renaming le_refl->jW
set_option maxRecDepth 100000
set_option linter.unusedSimpArgs false
set_option linter.unusedVariables false
set_option maxHeartbeats 4000000
set_option autoImplicit true
set_option relaxedAutoImplicit true
noncomputable section
def vC.f (ag:Int) (most:Int):Option (Option cg):=if(((decide (ag<1))||(decide (most<1)))||(decide (most>65536)))=true then(some none) else((yv.f ag).bind λv1=>dM v1 (none) (λeT=>some (some (cg.mk most eT none))))
def vC.R (r:(Option cg)):bj:=λu G=> ∃(u0:Value) (G0:List Hp),Qm r u0 G0/\u=u0/\G=G0
theorem vC.c (H:vC.f ag most=some r):
 QR 21 [(ii ag),(ii most)] [] [] F (vC.R r):=by
 unfold vC.f at H;refine aF Tryz.func21 J J (λW=>rc T 11 (go T [3,4,5] 7 [0,1] 10 J J J J J J J (ro T 1 (go T [7,8,9] 11 [0,1] 14 J J J J J J J (ro T 2 (cb J H (λH=>?_) (λH=>?_)))))))
 ·refine rc T 7 ?_
  cases H;exact p1 T J [0] ⟨_,_,⟨J,J⟩,J,J⟩ J
 refine rc T 6 (kr yv.R [] [] J adU H (yv.c ·) (λv1 H=>?_));rintro _ _ ⟨_,_,O3,rfl,rfl⟩;rcases v1 with _ |eT
 ·replace H:=fj J H
  cases H
 replace H:=fk J H;obtain⟨b1,H1,s1,rfl,rfl⟩:=O3;refine ro T 1 (nc T J (λb2=>fz J (ro T 4 ?_)))
 cases H;refine aq J (gq [2,1,1] J (p1 T J [1,0] ⟨_,_,⟨b2,(List.flatten [(cl b2 103 [(ii most),(pp b1),(.pointer none)]),H1,[]]),(show fw (cg.mk most eT none) b2 (List.flatten [(cl b2 103 [(ii most),(pp b1),(.pointer none)]),H1,[]]) from⟨b1,H1,(.pointer none),[],s1,(show BW none (.pointer none) [] from⟨J,J⟩),J⟩),J,J⟩,J,J⟩ J))
def yK.f (s:cg) (o:eG):Option Er:=if(o.Kind==3)=true then((ug.f s.nav o.B).bind λv1=>if(v1==0)=true then(some (Er.num 148 7)) else((ug.f s.nav o.A).bind λv2=>if(v2==0)=true then(some (Er.num 148 7)) else(some Er.nil))) else(if(o.Kind==2)=true then((ug.f s.nav o.A).bind λv3=>if(v3==0)=true then(some (Er.num 148 7)) else(some Er.nil)) else(some Er.nil))
def yK.R (el:Nat->Addr) (r:Er):bj:=λu G=> ∃(v0:Value) (H0:Hp),gr 414 el r v0 H0/\u=v0/\G=[H0]
theorem yK.c (H:yK.f s o=some r) (hG:fP 414 fc gW el F) (cR:fw s bg dJ) (A8:aO (Fl.int .u8) o.Map B7 F) (AX:aa o.Map<=C1):
 QR 83 [(pp bg),(.agg #[(ii o.Kind),(ii o.A),(ii o.B),(ll B7 o.Map C1)])] [dJ] [dJ] F (yK.R el r):=by
 unfold yK.f at H;refine aF Tryz.func83 J J (λW=>rc T 2 (nc T J (λb2=>fz J (ro T 7 (lf T 2 J (ro T 15 (cb J H (λH=>?_) (λH=>?_))))))))
 ·refine rc T 6 ?_;obtain⟨b4,H4,tk,H5,s4,s5,dx⟩:=(λx=>x) cR;refine bU 0 (congrArg some dx) (fz J (dw mix aB (au T J (au T J (au T J (cD T 2 J J J (au T J (cD T 1 J J J ?_))))))));obtain⟨v1,V2,H⟩:=gx H;refine xz [3] J J J J J J JR J (ug.c V2 s4) (au T J (cO (rx T 1 (cb J H (λH=>?_) (λH=>?_)))))
  ·refine rc T 2 (bA J (iw T J J J J) (ro T 8 ?_))
   cases H;refine cq [2,2,2] J dx (aq J (p1 T J [3,2,0] ⟨(.iface 148 (ii 7)),[],sx,J,J⟩ J))
  refine rc T 5 (dw mix aB (au T J (au T J (au T J (cD T 2 J J J (au T J (cD T 1 J J J ?_)))))));obtain⟨v2,V4,H⟩:=gx H;refine xz [3] J J J J J J JR J (ug.c V4 s4) (au T J (cO (rx T 1 (cb J H (λH=>?_) (λH=>?_)))))
  ·refine rc T 2 (bA J (iw T J J J J) (ro T 7 ?_))
   cases H;refine cq [2,2,2] J dx (aq J (p1 T J [3,2,0] ⟨(.iface 148 (ii 7)),[],sx,J,J⟩ J))
  refine rc T 11 ?_
  cases H;refine cq [2,2,2] J dx (aq J (p1 T J [3,2,0] ⟨.nilIface,[],u9,J,J⟩ J))
 refine rc T 8 (cb J H (λH=>?_) (λH=>?_))
 ·refine rc T 8 ?_;obtain⟨gh,bT,LB,cH,bL,cX,Gp⟩:=(λx=>x) cR;refine bU 0 (congrArg some Gp) (fz J (dw mix aB (au T J (au T J (au T J (cD T 2 J J J (au T J (cD T 1 J J J ?_))))))));obtain⟨v3,V7,H⟩:=gx H;refine xz [3] J J J J J J JR J (ug.c V7 bL) (au T J (cO (rx T 1 (cb J H (λH=>?_) (λH=>?_)))))
  ·refine rc T 2 (bA J (iw T J J J J) (ro T 7 ?_))
   cases H;refine cq [2,2,2] J Gp (aq J (p1 T J [3,2,0] ⟨(.iface 148 (ii 7)),[],sx,J,J⟩ J))
  refine rc T 11 ?_
  cases H;refine cq [2,2,2] J Gp (aq J (p1 T J [3,2,0] ⟨.nilIface,[],u9,J,J⟩ J))
 refine rc T 15 ?_
 cases H;refine aq J (p1 T J [3,0,0] ⟨.nilIface,[],u9,J,J⟩ J)
def fV.f (code:Int):Option Er:=if(code==0)=true then(some Er.nil) else(some (Er.num 148 code))
def fV.R (el:Nat->Addr) (r:Er):bj:=λu G=> ∃(v0:Value) (H0:Hp),gr 414 el r v0 H0/\u=v0/\G=[H0]
theorem fV.c (H:fV.f code=some r) (hG:fP 414 fc gW el F):
 QR 88 [(ii code)] [] [] F (fV.R el r):=by
 unfold fV.f at H;refine aF Tryz.func88 J J (λW=>rc T 12 (cb J H (λH=>?_) (λH=>?_)))
 ·refine rc T 7 ?_
  cases H;refine aq J (p1 T J [1,0] ⟨.nilIface,[],u9,J,J⟩ J)
 refine rc T 5 (bA J (iw T J J J J) (ro T 4 ?_))
 cases H;refine aq J (p1 T J [1,0] ⟨(.iface 148 (ii code)),[],sx,J,J⟩ J)
def yN.f (s:cg) (b:(List Int)):Option (Er×cg):=(tJ.f b).bind λv1=>if(v1.2 !=0)=true then(some ((Er.num 148 6),s)) else((yq.f s.nav v1.1).bind λv2=>if(v2.1==0)=true then((xG.f v1.1.W v1.1.H s.most).bind λv3=>dM v3 (none) (λrW=>(fV.f v2.1).bind λv4=>some (v4,(cg.mk s.most v2.2 (some rW))))) else((fV.f v2.1).bind λv5=>some (v5,(cg.mk s.most v2.2 s.fE))))
def yN.R (el:Nat->Addr) (mM:Nat) (r:(Er×cg)):bj:=λu G=> ∃(v0:Value) (H0:Hp) (H1:Hp),gr 414 el r.1 v0 H0/\fw r.2 mM H1/\u=v0/\G=[H0,H1]
theorem yN.c (H:yN.f s b=some r) (hG:fP 414 fc gW el F) (cR:fw s bg dJ) (gM:aO (Fl.int .u8) b jG F) (gz:aa b<=jy):
 QR 84 [(pp bg),(ll jG b jy)] [dJ] [] F (yN.R el bg r):=by
 unfold yN.f at H;refine aF Tryz.func84 J J (λW=>rc T 8 (kr (tJ.R el) [] [] J ab7 H (tJ.c · (dF hG (j:=1) J) (rO gM 1) gz) (λv1 H=>?_)));rintro _ _ ⟨a2,n2,H2,s2,rfl,rfl⟩;refine fz J (ro T 3 (nc T J (λb3=>fz J (jS T 3 J (ro T 10 (cb J H (λH=>?_) (λH=>?_)))))))
 ·refine rc T 2 (bA J (iw T J J J J) (ro T 5 ?_))
  cases H;refine aq J (p1 T J [4,0,0] ⟨(.iface 148 (ii 6)),[],dJ,sx,cR,J,J⟩ J)
 refine rc T 4 ?_;obtain⟨b6,H6,xf,H7,s6,s7,sD⟩:=(λx=>x) cR;refine bU 0 (congrArg some sD) (fz J (ks [0,5] J (fz J (rz [5] mix (bH bG) (λhg pf=>ha T 4 [0,1,2] sz hg pf J (al T 3 3 sz hg pf J J J (av 4 sz hg pf J (gA T 2 J J J J J J J) (ao 5 (kR (yq.R b6) [] [4] J ab8 H (yq.c · s6 (oO s2 1) s2.bZ) (λv2 H=>?_))))))))));rintro _ _ ⟨H8,s8,rfl,rfl⟩;refine fz J (an sl (hb T 6 sl hg pf J (ae (rx T 7 (cb J H (λH=>?_) (λH=>?_))))))
 ·refine ks [0,5,6] J (fz J (rq [12] [0,0,0,0,0,0] J mix (bH bG) (λhg pf=>ha T 11 [0,1] sz hg pf J (al T 2 2 sz hg pf J J J (ha T 9 [3] sz hg pf J (al T 4 2 sz hg pf J J J (ha T 5 [5,6,7] sz hg pf J (al T 8 3 sz hg pf J J J (ao 9 (kR xG.R [] [] J ab9 H (xG.c ·) (λv3 H=>?_)))))))))));rintro _ _ ⟨_,_,O6,rfl,rfl⟩;rcases v3 with _ |rW
  ·replace H:=fj J H
   cases H
  replace H:=fk J H;obtain⟨b9,H9,s9,rfl,rfl⟩:=O6;refine an (so [0,0,0,0,0,0]) (ha T 1 [10,11] (so [0,0,0,0,0,0]) hg pf J (ao 12 (jh T 3 J (an sl (ae (rx T 4 (kr (fV.R el) [] [] J wo H (fV.c · (dF hG (j:=0) J)) (λv4 H=>?_))))))));rintro v10 _ ⟨v10,bT,bL,rfl,rfl⟩;refine fz J (ro T 4 ?_)
  cases H;refine gq [6] J (gq [3,4,5] J (p1 T J [4,4,0] ⟨v10,bT,(List.flatten [(cl bg 103 [(ii s.most),(pp b6),(pp b9)]),H8,(List.flatten [H9])]),bL,(show fw (cg.mk s.most v2.2 (some rW)) bg (List.flatten [(cl bg 103 [(ii s.most),(pp b6),(pp b9)]),H8,(List.flatten [H9])]) from⟨b6,H8,(pp b9),(List.flatten [H9]),s8,(show BW (some rW) (pp b9) (List.flatten [H9]) from⟨b9,H9,s9,J,J⟩),J⟩),J,J⟩ J))
 refine rc T 5 (kr (fV.R el) [] [] J wo H (fV.c · (dF hG (j:=0) J)) (λv5 H=>?_));rintro v12 _ ⟨v12,dq,dE,rfl,rfl⟩;refine fz J (ro T 4 ?_)
 cases H;refine gq [3,4,3] J (p1 T J [3,3,0] ⟨v12,dq,(List.flatten [(cl bg 103 [(ii s.most),(pp b6),xf]),H8,H7]),dE,(show fw (cg.mk s.most v2.2 s.fE) bg (List.flatten [(cl bg 103 [(ii s.most),(pp b6),xf]),H8,H7]) from⟨b6,H8,xf,H7,s8,s7,J⟩),J,J⟩ J)
def yM.f (s:cg) (cell:Int) (cost:Int):Option (Er×cg):=if((decide (cost<1))||(decide (cost>255)))=true then(some ((Er.num 148 8),s)) else((dM s.fE (none) (λx3=>if(cost==255)=true then((D9.f x3 cell).bind λv4=>some (decide (v4≥0))) else(some false))).bind λx1=>if x1=true then(some ((Er.num 148 10),s)) else((yn.f s.nav cell cost).bind λv5=>(fV.f v5.1).bind λv6=>some (v6,(cg.mk s.most v5.2 s.fE))))
def yM.R (el:Nat->Addr) (mM:Nat) (r:(Er×cg)):bj:=λu G=> ∃(v0:Value) (H0:Hp) (H1:Hp),gr 414 el r.1 v0 H0/\fw r.2 mM H1/\u=v0/\G=[H0,H1]
theorem yM.c (H:yM.f s cell cost=some r) (hG:fP 414 fc gW el F) (cR:fw s bg dJ):
 QR 86 [(pp bg),(ii cell),(ii cost)] [dJ] [] F (yM.R el bg r):=by
 unfold yM.f at H;refine aF Tryz.func86 J J (λW=>rc T 12 (go T [3,4,5] 10 [0,1,2] 13 J J J J J J J (ro T 3 (cb J H (λH=>?_) (λH=>?_)))))
 ·refine rc T 2 (bA J (iw T J J J J) (ro T 6 ?_))
  cases H;refine aq J (p1 T J [2,0,0] ⟨(.iface 148 (ii 8)),[],dJ,sx,cR,J,J⟩ J)
 refine mq H [0,1,2] [1,0] (λz2 (x1:Bool)=>(x1=z2,[(15,(bb x1))],[])) J J (λz2 Z2 _=>?_) ?_
 ·obtain⟨b4,H4,tk,H5,s4,s5,dx⟩:=(λx=>x) cR;refine bU 0 (congrArg some dx) (fz J ?_);rcases q3:s.fE with _ |x3
  ·replace Z2:=fj q3 Z2
   cases Z2
  replace Z2:=fk q3 Z2;rw[q3] at s5;obtain⟨b7,H7,s7,rfl,oV⟩:=s5;refine bU 3 (congrArg some oV) (fz J (rc T 4 (ab 18 J Z2 (λZ2=>?_) (λZ2=>?_))))
  ·refine ro T 3 (lf T 1 J (ro T 1 (k [3] J ab_ Z2 (D9.c · s7) (λv4 Z2=>ro T 5 (cq [3] J oV (cq [1,1,1] J dx (am _ [0,0] (oi Z2) J J)))))))
  refine ro T 11 (cq [3] J oV (cq [1,1,1] J dx (am _ [0,0] (oi Z2) J J)))
 rintro _ x1 rfl H;refine cb J H (λH=>?_) (λH=>?_)
 ·refine rc T 2 (bA J (iw T J J J J) (ro T 6 ?_))
  cases H;refine aq J (p1 T J [2,1,0] ⟨(.iface 148 (ii 10)),[],dJ,sx,cR,J,J⟩ J)
 refine rc T 4 ?_;obtain⟨gh,bT,LB,cH,bL,cX,Gp⟩:=(λx=>x) cR;refine bU 1 (congrArg some Gp) (fz J (rc T 4 (lf T 1 J (ro T 2 (kr (yn.R gh) [] [2] J ab' H (yn.c · bL) (λv5 H=>?_))))));rintro _ _ ⟨dq,dE,rfl,rfl⟩;refine fz J (kr (fV.R el) [] [] J wo H (fV.c · (dF hG (j:=0) J)) (λv6 H=>?_));rintro lP _ ⟨lP,dI,cY,rfl,rfl⟩;refine fz J (ro T 4 ?_)
 cases H;refine gq [1,2,1] J (p1 T J [1,1,0] ⟨lP,dI,(List.flatten [(cl bg 103 [(ii s.most),(pp gh),LB]),dq,cH]),cY,(show fw (cg.mk s.most v5.2 s.fE) bg (List.flatten [(cl bg 103 [(ii s.most),(pp gh),LB]),dq,cH]) from⟨gh,dq,LB,cH,dE,cX,J⟩),J,J⟩ J)
def Ao.f (s:cg) (cell:Int) (goal:Int):Option (Int×Er×cg):=(ug.f s.nav cell).bind λv1=>if(v1==255)=true then(some ((-1),(Er.num 148 9),s)) else(dM s.fE (none) (λx2=>(xF.f x2 cell goal).bind λv3=>(fV.f v3.2.1).bind λv4=>some (v3.1,v4,(cg.mk s.most s.nav (some v3.2.2)))))
def Ao.R (el:Nat->Addr) (mM:Nat) (r:(Int×Er×cg)):bj:=λu G=> ∃(v0:Value) (H0:Hp) (H1:Hp),gr 414 el r.2.1 v0 H0/\fw r.2.2 mM H1/\u=(.tuple #[(ii r.1),v0])/\G=[H0,H1]
theorem Ao.c (H:Ao.f s cell goal=some r) (hG:fP 414 fc gW el F) (cR:fw s bg dJ):
 QR 87 [(pp bg),(ii cell),(ii goal)] [dJ] [] F (Ao.R el bg r):=by
 unfold Ao.f at H;refine aF Tryz.func87 J J (λW=>rc T 8 ?_);obtain⟨b3,H3,tj,H4,s3,s4,cz⟩:=(λx=>x) cR;refine bU 0 (congrArg some cz) (fz J (rc T 4 (lf T 1 J (ro T 1 (k [2] J JR H (ug.c · s3) (λv1 H=>ro T 3 (cb J H (λH=>?_) (λH=>?_))))))))
 ·refine rc T 2 (bA J (iw T J J J J) (ro T 6 ?_))
  cases H;refine cq [1,1,1] J cz (aq J (p1 T J [2,1,0] ⟨(.iface 148 (ii 9)),[],dJ,sx,cR,J,J⟩ J))
 refine rc T 3 ?_;rcases q3:s.fE with _ |x2
 ·replace H:=fj q3 H
  cases H
 replace H:=fk q3 H;rw[q3] at s4;obtain⟨b7,H7,s7,rfl,oV⟩:=s4;refine bU 3 (congrArg some oV) (fz J (rc T 4 (lf T 1 J (ro T 2 (kr (xF.R b7) [] [3] J aca H (xF.c · s7) (λv3 H=>?_))))));rintro _ _ ⟨H8,s8,rfl,rfl⟩;refine fz J (ro T 11 (kr (fV.R el) [] [] J wo H (fV.c · (dF hG (j:=0) J)) (λv4 H=>?_)));rintro v9 _ ⟨v9,H9,s9,rfl,rfl⟩;refine fz J (ro T 5 ?_)
 cases H;refine gq [3] J (gq [1,1,2] J (p1 T J [1,1,0] ⟨v9,H9,(List.flatten [(cl bg 103 [(ii s.most),(pp b3),(pp b7)]),H3,(List.flatten [H8])]),s9,(show fw (cg.mk s.most s.nav (some v3.2.2)) bg (List.flatten [(cl bg 103 [(ii s.most),(pp b3),(pp b7)]),H3,(List.flatten [H8])]) from⟨b3,H3,(pp b7),(List.flatten [H8]),s3,(show BW (some v3.2.2) (pp b7) (List.flatten [H8]) from⟨b7,H8,s8,J,J⟩),J⟩),J,J⟩ J))
def yO.f (s:cg) (a:mJ) (goal:Int) (cell:Int):Option (Er×cg×mJ):=(yr.f s.nav goal cell).bind λv1=>if(v1.2.2.1==0)=true then((fV.f v1.2.2.1).bind λv2=>some (v2,(cg.mk s.most v1.2.2.2 s.fE),(mJ.mk a.Code v1.1 v1.2.1 a.Id a.iK a.iZ a.Stats))) else((fV.f v1.2.2.1).bind λv3=>some (v3,(cg.mk s.most v1.2.2.2 s.fE),a))
def yO.R (el:Nat->Addr) (mM:Nat) (pz:Nat) (r:(Er×cg×mJ)):bj:=λu G=> ∃(v0:Value) (H0:Hp) (H1:Hp) (a2 n2 H2:_) (a3 n3 H3:_),gr 414 el r.1 v0 H0/\fw r.2.1 mM H1/\aj jM 94 r.2.2.iK a2 n2 H2/\aj (Fl.int .i64) 3 r.2.2.iZ a3 n3 H3/\u=v0/\G=[H0,H1,(cl pz 52 [(ii r.2.2.Code),(ii r.2.2.D),(ii r.2.2.cx),(ii r.2.2.Id),(ll a2 r.2.2.iK n2),(ll a3 r.2.2.iZ n3),(uu r.2.2.Stats.bM),(uu r.2.2.Stats.bN),(uu r.2.2.Stats.bJ),(uu r.2.2.Stats.bF),(uu r.2.2.Stats.bW),(uu r.2.2.Stats.bR)]),H2,H3]
theorem yO.c (H:yO.f s a goal cell=some r) (hG:fP 414 fc gW el F) (cR:fw s bg dJ) (ox:aj jM 94 a.iK vU wH vK) (ov:aj (Fl.int .i64) 3 a.iZ vT wG vJ):
 QR 91 [(pp bg),(pp pz),(ii goal),(ii cell)] [dJ,(cl pz 52 [(ii a.Code),(ii a.D),(ii a.cx),(ii a.Id),(ll vU a.iK wH),(ll vT a.iZ wG),(uu a.Stats.bM),(uu a.Stats.bN),(uu a.Stats.bJ),(uu a.Stats.bF),(uu a.Stats.bW),(uu a.Stats.bR)]),vK,vJ] [] F (yO.R el bg pz r):=by
 unfold yO.f at H;refine aF Tryz.func91 J J (λW=>rc T 6 ?_);obtain⟨b6,H6,xf,H7,s6,s7,sD⟩:=(λx=>x) cR;refine bU 0 (congrArg some sD) (fz J (rc T 4 (lf T 4 J (ro T 2 (kr (yr.R el b6) [] [5] J acd H (yr.c · (dF hG (j:=3) J) s6) (λv1 H=>?_))))));rintro _ _ ⟨H8,s8,rfl,rfl⟩;refine fz J (ro T 16 (cb J H (λH=>?_) (λH=>?_)))
 ·refine rc T 7 (jS T 0 J (ro T 2 (jS T 0 J (ro T 5 (kr (fV.R el) [] [] J wo H (fV.c · (dF hG (j:=3) J)) (λv2 H=>?_))))));rintro v9 _ ⟨v9,H9,s9,rfl,rfl⟩;refine fz J (ro T 2 (ks [8] J (rx T 2 ?_)))
  cases H;refine gq [4,5,4] J (p1 T J [4,4,0,0,0,0] ⟨v9,H9,(List.flatten [(cl bg 103 [(ii s.most),(pp b6),xf]),H8,H7]),vU,wH,vK,vT,wG,vJ,s9,(show fw (cg.mk s.most v1.2.2.2 s.fE) bg (List.flatten [(cl bg 103 [(ii s.most),(pp b6),xf]),H8,H7]) from⟨b6,H8,xf,H7,s8,s7,J⟩),ox,ov,J,J⟩ J)
 refine rc T 5 (kr (fV.R el) [] [] J wo H (fV.c · (dF hG (j:=3) J)) (λv3 H=>?_));rintro v10 _ ⟨v10,bT,bL,rfl,rfl⟩;refine fz J (ro T 4 ?_)
 cases H;refine gq [4,5,4] J (p1 T J [4,4,0,0,0,0] ⟨v10,bT,(List.flatten [(cl bg 103 [(ii s.most),(pp b6),xf]),H8,H7]),vU,wH,vK,vT,wG,vJ,bL,(show fw (cg.mk s.most v1.2.2.2 s.fE) bg (List.flatten [(cl bg 103 [(ii s.most),(pp b6),xf]),H8,H7]) from⟨b6,H8,xf,H7,s8,s7,J⟩),ox,ov,J,J⟩ J)
def fB.l3:Nat->cg->(List bD)->cI->(List (Int×Int))->List Int->Int->Option ((List Int)×Er×cg)
 |0,_,_,_,_,_,_=>none
 |KL+1,s,l,bl,aP,oG,nG=>if nG<(aa l:Int) then(if(0<=nG/\nG<(aa l:Int)) then(if(aa oG+1<=1099511627776) then(fB.l3 KL s l bl aP (oG++[(aT aP ((rd l nG).Id))]) (af (nG+1))) else none) else none) else(some (oG,Er.nil,(cg.mk s.most bl s.fE)))
def fB.l2:Nat->(List (Int×Int))->Int->(List gw)->cI->List Int->(List (Int×Int))->Int->Option (Sum ((List Int)×Er×cg) (cI×(List (Int×Int))))
 |0,_,_,_,_,_,_,_=>none
 |KJ+1,x4,bh,v8,dA,eQ,nD,jj=>if jj<(aa ((rd v8 bh).kn):Int) then(if(0<=jj/\jj<(aa ((rd v8 bh).kn):Int)) then(if(0<=(aT x4 (rd ((rd v8 bh).kn) jj))/\(aT x4 (rd ((rd v8 bh).kn) jj))<(aa eQ:Int)) then(fB.l2 KJ x4 bh v8 dA eQ (cQ nD (rd ((rd v8 bh).kn) jj) (rd eQ (aT x4 (rd ((rd v8 bh).kn) jj)))) (af (jj+1))) else none) else none) else(some (Sum.inr (dA,nD)))
def fB.l1:Nat->cg->(List bD)->(List (Int×Int))->(List gw)->cI->(List (Int×Int))->Int->Option ((List Int)×Er×cg)
 |0,_,_,_,_,_,_,_=>none
 |lZ+1,s,l,x4,v8,bl,aP,bh=>if bh<(aa v8:Int) then((if(0<=bh/\bh<(aa v8:Int)) then(((rE.f bl ((rd v8 bh).Goal) ((rd v8 bh).tA)).bind λv24=>some (v24.2.2,v24.1.cN,v24.1.cx,v24.2.1)).bind λ(dA,il,eQ,bI)=>if(bI !=0)=true then(some (Sum.inl ([],(Er.num 148 bI),(cg.mk s.most dA s.fE)))) else(fB.l2 fuel x4 bh v8 dA eQ aP 0)) else none).bind λzz=>match zz with |Sum.inl q=>some q |Sum.inr (dt,cM)=>fB.l1 lZ s l x4 v8 dt cM (af (bh+1))) else(fB.l3 fuel s l bl aP [] 0)
def fB.l0:Nat->cg->(List bD)->(Int×Int)->(List (Int×Int))->Int->Option ((List Int)×Er×cg)
 |0,_,_,_,_,_=>none
 |k6+1,s,l,v1,x4,x5=>if x5<(aa l:Int) then(if(0<=x5/\x5<(aa l:Int)) then((rR.f v1.1 v1.2 ((rd l x5).Cell)).bind λv7=>fB.l0 k6 s l v1 (cQ x4 ((rd l x5).Id) v7) (af (x5+1))) else none) else((kA.f v1.1 v1.2 l).bind λv8=>fB.l1 fuel s l x4 v8 s.nav ([]:(List (Int×Int))) 0)
def fB.f (s:cg) (l:(List bD)):Option ((List Int)×Er×cg):=(zV.f s.nav).bind λv1=>fB.l0 fuel s l v1 ([]:(List (Int×Int))) 0
def fB.R (el:Nat->Addr) (mM:Nat) (r:((List Int)×Er×cg)):bj:=λu G=> ∃(a0 n0 H0:_) (v1:Value) (H1:Hp) (H2:Hp),aj (Fl.int .i64) 3 r.1 a0 n0 H0/\gr 414 el r.2.1 v1 H1/\fw r.2.2 mM H2/\u=(.tuple #[(ll a0 r.1 n0),v1])/\G=[H0,H1,H2]
theorem fB.c (H:fB.f s l=some r) (hG:fP 414 fc gW el F) (cR:fw s bg dJ) (dm:aO l6 l gZ F) (gj:aa l<=gX):
 QR 128 [(pp bg),(ll gZ l gX)] [dJ] [] F (fB.R el bg r):=by
 unfold fB.f at H;refine aF Tryz.func128 J J (λW=>rc T 7 ?_);obtain⟨b3,H3,tj,H4,s3,s4,cz⟩:=(λx=>x) cR;refine bU 0 (congrArg some cz) (fz J (rc T 4 (lf T 1 J (k [2] J S0 H (zV.c · s3) (λv1 H=>ro T 9 (aV (vW T (Ky.int .i64 u3) (λx:Int=>Value.int .i64 x) J J J trivial (λa5 H5 s5=>ro T 12 (lq [0,1,6,7,30,31] [0,0,1,0] (λ(⟨k6,x4,x5,a7,H7⟩:Nat×(List (Int×Int))×Int×Nat×Hp)=>(fB.l0 k6 s l v1 x4 x5=some r/\db (Ky.int .i64 u3) (λx:Int=>Value.int .i64 x) x4 a7 H7,[(8,(.map (some a7))),(32,(ii x5))],[H7])) J J (fuel,([]:(List (Int×Int))),0,a5,H5) [0,0,1,0,0] ⟨H,s5⟩ J J ?_)))))))));rintro k6 ⟨x4,x5,a7,H7⟩ ⟨Z2,s7⟩;rw[fB.l0] at Z2;refine rc T 6 (cd J Z2 (λZ2=>?_) (λZ2=>?_))
 ·refine rc T 6 ?_;obtain⟨c4,Z2⟩:=az Z2;obtain⟨q8,o8,e8⟩:=dm.addr c4.1 c4.2;refine ix T J e8 c4 (bA J (fY T (cs:=[(ii (rd l x5).Id),(ii (rd l x5).Cell),(ii (rd l x5).Goal)]) J J J J J J (iy (k:=l6) (rO dm 0) e8 c4 J)) (nc T J (λb9=>fz J (jS T 5 J (ro T 2 (ks [0,1,6,7,8,10,30,31,32] J (fz J (rz [8] mix (bH bG) (λhg pf=>ha T 7 [0,1] sz hg pf J (al T 2 5 sz hg pf J J J (ha T 3 [3,4,5] sz hg pf J (al T 6 5 sz hg pf J J J (ao 7 (kh [] J Gv Z2 (rR.c ·) (λv7 Z2=>an sz (ao 8 (qh (g:=4) (m:=x4) (k:=(rd l x5).Id) (v:=v7) T (Ky.int .i64 u3) (λx:Int=>Value.int .i64 x) J J J J J J J s7 (λbT bL=>an sl (ae (rx T 7 (ar (_,_,_,_) [0,0,0,0,0] ⟨Z2,bL⟩ J J)))))))))))))))))))))
 refine rc T 7 (aV (vW T (Ky.int .i64 u3) (λx:Int=>Value.int .i64 x) J J J trivial (λdj cH cX=>ro T 9 (kr kA.R [] [] J adx Z2 (kA.c · (rO dm 0) gj) (λv8 Z2=>?_)))));rintro _ _ ⟨a12,n12,dq,dE,rfl,rfl⟩;refine fz J (ro T 5 (lq [0,1,8,49,50] [0,0,0,1,2] (λ(⟨lZ,bl,aP,bh,dP,iu,ft⟩:Nat×cI×(List (Int×Int))×Int×Hp×Nat×Hp)=>(fB.l1 lZ s l x4 v8 bl aP bh=some r/\gS bl b3 dP/\db (Ky.int .i64 u3) (λx:Int=>Value.int .i64 x) aP iu ft,[(11,(.map (some iu))),(51,(ii bh))],[dP,ft])) J J (fuel,s.nav,([]:(List (Int×Int))),0,H3,dj,cH) [0,0,0,1,2,0,0] ⟨Z2,s3,cX⟩ J J ?_));rintro lZ ⟨bl,aP,bh,dP,iu,ft⟩ ⟨Z7,dS,eB⟩;rw[fB.l1] at Z7;refine rc T 6 (cd J Z7 (λZ7=>?_) (λZ7=>?_))
 ·refine rc T 2 (mq Z7 [0,1,8,49,50,51] [0,0,0,0,0] (λQc (⟨dt,cM,eU,jl,fv⟩:cI×(List (Int×Int))×Hp×Nat×Hp)=>((Sum.inr (dt,cM))=Qc/\gS dt b3 eU/\db (Ky.int .i64 u3) (λx:Int=>Value.int .i64 x) cM jl fv,[(11,(.map (some jl)))],[eU,fv])) J J (λQc Z9 Z7=>?_) ?_)
  ·refine rc T 3 ?_;obtain⟨iP,Z9⟩:=az Z9;obtain⟨Wb,Vt,u7⟩:=dE.r.addr iP.1 iP.2;refine ix T J u7 iP ?_;obtain⟨_,w21,⟨a20,n20,⟨Wt,m20⟩,rfl⟩⟩:=nQ.view dE.r iP;refine bA J (fY T (cs:=[(ii (rd v8 bh).Goal),(ii (rd v8 bh).tA),(ll a20 (rd v8 bh).kn n20)]) J J J J J J (Oy (j:=4) J w21 u7 0 J)) (nc T J (λly=>fz J (jS T 7 J (ro T 2 (mq Z9 [0,1,8,11,13,49,50,51] [0,0,0,0,2,2,0] (λz23 (⟨dA,il,eQ,bI,jC,FW,a25,n25,ir,a26,n26,po⟩:cI×List Int×List Int×Int×Hp×Nat×Option Addr×Nat×Hp×Option Addr×Nat×Hp)=>((dA,il,eQ,bI)=z23/\gS dA b3 jC/\aj (Fl.int .i64) 3 il a25 n25 ir/\aj (Fl.int .i64) 3 eQ a26 n26 po,[(14,(pp FW)),(15,(ii bI))],[jC,(cl FW 79 [(ll a25 il n25),(ll a26 eQ n26)]),ir,po])) J J (λz23 aY _=>?_) ?_)))))
   ·refine ks [0,1,8,11,13,49,50,51] J (fz J (rz [8] mix (bH bG) (λhg pf=>ha T 12 [0,1,2] sz hg pf J (al T 3 1 sz hg pf J J J (ha T 10 [4] sz hg pf J (al T 5 7 sz hg pf J J J (ha T 8 [6] sz hg pf J (al T 7 7 sz hg pf J J J (gK 8 12 ?_ ?_)))))))))
    ·refine kR (rE.R el b3) [] [5] J NJ aY (rE.c · (dF hG (j:=0) J) dS) (λv24 aY=>?_);rintro _ _ ⟨I2,n27,Fq,a28,n28,vH,rY,wV,kB,rJ,rfl,rfl⟩;refine fz J (an sl (hb T 9 sl hg pf J (hb T 10 sl hg pf J (hb T 11 sl hg pf J (ao 12 (nw T J (λb30=>fz J (an sl (ao 13 (jh T 10 J (an sl (hb T 14 sl hg pf J (ae (rx T 1 (am (_,_,_,_,_,_,_,_,_,_,_,_) [0,0,0,0,1,1,0,2,2,0,0] ⟨oi aY,rJ,wV,kB⟩ J J)))))))))))))))
    refine nw T J (λZX=>fz J (an (so [0,0,0,0,0,0,0,0]) (ao 8 (kR (rE.R el b3) [] [5] J NJ aY (rE.c · (dF hG (j:=0) J) dS) (λv25 aY=>?_)))));rintro _ _ ⟨a32,n32,II,a33,n33,IJ,vI,Af,wW,yH,rfl,rfl⟩;refine fz J (an sl (hb T 9 sl hg pf J (hb T 10 sl hg pf J (hb T 11 sl hg pf J (ao 13 (jh T 7 J (an sl (hb T 14 sl hg pf J (ae (rx T 1 (am (_,_,_,_,_,_,_,_,_,_,_,_) [0,0,0,0,1,1,0,3,0,0,0] ⟨oi aY,yH,Af,wW⟩ J J)))))))))))
   rintro _ ⟨dA,il,eQ,bI,jC,FW,a25,n25,ir,a26,n26,po⟩ ⟨rfl,gD,jQ,ot⟩ Z9;refine rc T 7 (cb J Z9 (λZ9=>?_) (λZ9=>?_))
   ·refine rc T 3 (bA J (iw T J J J J) (ro T 11 ?_));obtain rfl:=Option.some.inj Z9;obtain rfl:=Option.some.inj (show some ([],(Er.num 148 bI),(cg.mk s.most dA s.fE))=some r from Z7)
    refine gq [1,6,1] J (aq J (aq J (p1 T J [9,9,8,0] ⟨none,0,[],(.iface 148 (ii bI)),[],(List.flatten [(cl bg 103 [(ii s.most),(pp b3),tj]),jC,H4]),aj.nil,sx,(show fw (cg.mk s.most dA s.fE) bg (List.flatten [(cl bg 103 [(ii s.most),(pp b3),tj]),jC,H4]) from⟨b3,jC,tj,H4,gD,s4,J⟩),J,J⟩ J)))
   refine rc T 5 (lf T 5 J (ro T 5 (lq [0,1,8,14,49,50,51,72,73] [0,0,0,4,0,3,3,3,2] (λ(⟨KJ,nD,jj,I3,AH⟩:Nat×(List (Int×Int))×Int×Nat×Hp)=>(fB.l2 KJ x4 bh v8 dA eQ nD jj=some Qc/\db (Ky.int .i64 u3) (λx:Int=>Value.int .i64 x) nD I3 AH,[(11,(.map (some I3))),(74,(ii jj))],[AH])) J J (fuel,aP,0,iu,ft) [0,0,0,4,0,3,3,3,2,0] ⟨Z9,eB⟩ J J ?_)));rintro KJ ⟨nD,jj,I3,AH⟩ ⟨dC,Bq⟩;rw[fB.l2] at dC;refine rc T 6 (cd J dC (λdC=>?_) (λdC=>?_))
   ·refine rc T 6 ?_;obtain⟨lU,dC⟩:=az dC;obtain⟨q39,o39,RL⟩:=Wt.addr lU.1 lU.2;refine ix T J RL lU (le T 0 (rO Wt 8) RL lU J J (ro T 7 (lf T 5 J (ro T 2 (bA J (qu (k:=(rd ((rd v8 bh).kn) jj)) T (Ky.int .i64 u3) (λx:Int=>Value.int .i64 x) J J J J J (o_ s7 (j:=4) J)) ?_)))));obtain⟨lV,dC⟩:=az dC;obtain⟨q40,o40,RM⟩:=ot.r.addr lV.1 lV.2;refine ix T J RM lV (le T 0 (oO ot 7) RM lV J J (aV (qh (g:=9) (m:=nD) (k:=(rd ((rd v8 bh).kn) jj)) (v:=(rd eQ (aT x4 (rd ((rd v8 bh).kn) jj)))) T (Ky.int .i64 u3) (λx:Int=>Value.int .i64 x) J J J J J J J Bq (λFt Ag=>ro T 8 (ar (_,_,_,_) [0,0,0,0,0,0,0,0,0,0] ⟨dC,Ag⟩ J J)))))
   refine rc T 6 (am (_,_,_,_,_) [0,0,0,1,4,0,3] ⟨oi dC,gD,Bq⟩ J J)
  rintro _ ⟨dt,cM,eU,jl,fv⟩ ⟨rfl,fL,fM⟩ Z7;refine rc T 5 (ar (_,_,_,_,_,_) [0,0,0,0,0,0,0] ⟨Z7,fL,fM⟩ J J)
 refine rc T 19 (aq J (lq [11,89,90] [0,5,0,0,2] (λ(⟨KL,oG,nG,I4,n43,gR⟩:Nat×List Int×Int×Option Addr×Nat×Hp)=>(fB.l3 KL s l bl aP oG nG=some r/\aj (Fl.int .i64) 3 oG I4 n43 gR,[(18,(ll I4 oG n43)),(91,(ii nG))],[gR])) J J (fuel,[],0,none,0,[]) [0,5,0,0,2,2] ⟨Z7,aj.nil⟩ J J ?_));rintro KL ⟨oG,nG,I4,n43,gR⟩ ⟨fh,uo⟩;rw[fB.l3] at fh;refine rc T 6 (cd J fh (λfh=>?_) (λfh=>?_))
 ·refine rc T 6 ?_;obtain⟨pB,fh⟩:=az fh;obtain⟨q44,o44,RN⟩:=dm.addr pB.1 pB.2;refine ix T J RN pB (bA J (fY T (cs:=[(ii (rd l nG).Id),(ii (rd l nG).Cell),(ii (rd l nG).Goal)]) J J J J J J (iy (k:=l6) (rO dm 0) RN pB J)) (nc T J (λb45=>fz J (jS T 6 J (ro T 6 (lf T 6 J (bA J (qu (k:=(rd l nG).Id) T (Ky.int .i64 u3) (λx:Int=>Value.int .i64 x) J J J J J (o_ eB (j:=1) J)) (aV (cW (k:=(Fl.int .i64)) T [(aT aP ((rd l nG).Id))] J J J J J J J J J (λa46 XS Pu=>?_))))))))));obtain⟨pC,fh⟩:=az fh;refine aV (dQ (k:=(Fl.int .i64)) (xs:=oG) T (g:=5) J J J J J J J J J J uo (oO Pu 7) pC J (λI5 n47 Fu HU=>ro T 9 (ar (_,_,_,_,_) [0,0,0,0,0,0] ⟨fh,HU⟩ J J)))
 refine rc T 13 ?_
 cases fh;refine gq [2,3,2] J (aq J (p1 T J [2,3,2,0] ⟨I4,n43,gR,.nilIface,[],(List.flatten [(cl bg 103 [(ii s.most),(pp b3),tj]),dP,H4]),uo,u9,(show fw (cg.mk s.most bl s.fE) bg (List.flatten [(cl bg 103 [(ii s.most),(pp b3),tj]),dP,H4]) from⟨b3,dP,tj,H4,dS,s4,J⟩),J,J⟩ J))
def yP.f (s:cg) (a:mJ):Option (Er×cg×mJ):=dM s.fE (none) (λx1=>(qk.f x1).bind λv2=>(fB.f s v2).bind λv3=>if(!(Er.isNil v3.2.1))=true then(some (v3.2.1,v3.2.2,a)) else(dM v3.2.2.fE (none) (λx4=>(nV.f x4 v3.1).bind λv5=>(fV.f v5.2.2.1).bind λv6=>some (v6,(cg.mk v3.2.2.most v3.2.2.nav (some v5.2.2.2)),(mJ.mk a.Code a.D a.cx a.Id v5.1 v5.2.1 a.Stats)))))
def yP.R (el:Nat->Addr) (mM:Nat) (pz:Nat) (r:(Er×cg×mJ)):bj:=λu G=> ∃(v0:Value) (H0:Hp) (H1:Hp) (a2 n2 H2:_) (a3 n3 H3:_),gr 414 el r.1 v0 H0/\fw r.2.1 mM H1/\aj jM 94 r.2.2.iK a2 n2 H2/\aj (Fl.int .i64) 3 r.2.2.iZ a3 n3 H3/\u=v0/\G=[H0,H1,(cl pz 52 [(ii r.2.2.Code),(ii r.2.2.D),(ii r.2.2.cx),(ii r.2.2.Id),(ll a2 r.2.2.iK n2),(ll a3 r.2.2.iZ n3),(uu r.2.2.Stats.bM),(uu r.2.2.Stats.bN),(uu r.2.2.Stats.bJ),(uu r.2.2.Stats.bF),(uu r.2.2.Stats.bW),(uu r.2.2.Stats.bR)]),H2,H3]
theorem yP.c (H:yP.f s a=some r) (hG:fP 414 fc gW el F) (cR:fw s bg dJ) (ox:aj jM 94 a.iK vU wH vK) (ov:aj (Fl.int .i64) 3 a.iZ vT wG vJ):
 QR 92 [(pp bg),(pp pz)] [dJ,(cl pz 52 [(ii a.Code),(ii a.D),(ii a.cx),(ii a.Id),(ll vU a.iK wH),(ll vT a.iZ wG),(uu a.Stats.bM),(uu a.Stats.bN),(uu a.Stats.bJ),(uu a.Stats.bF),(uu a.Stats.bW),(uu a.Stats.bR)]),vK,vJ] [] F (yP.R el bg pz r):=by
 unfold yP.f at H;refine aF Tryz.func92 J J (λW=>rc T 6 ?_);obtain⟨b6,H6,xf,H7,s6,s7,sD⟩:=(λx=>x) cR;refine bU 0 (congrArg some sD) (fz J ?_);rcases q1:s.fE with _ |x1
 ·replace H:=fj q1 H
  cases H
 replace H:=fk q1 H;rw[q1] at s7;obtain⟨b9,H9,s9,rfl,Sw⟩:=s7;refine bU 6 (congrArg some Sw) (fz J (rc T 5 (lf T 4 J (kr qk.R [6] [6] J J0 H (qk.c · s9) (λv2 H=>?_)))));rintro _ _ ⟨cC,n10,bT,bL,rfl,rfl⟩;refine fz J (cq [7] J Sw (cq [4,4,5] J sD (kr (fB.R el bg) [] [5] J ace H (fB.c · (dF hG (j:=3) J) cR (oO bL 4) bL.bZ) (λv3 H=>?_))));rintro _ _ ⟨dj,n11,cH,v12,dq,dI,cX,dE,cY,rfl,rfl⟩;refine fz J (ro T 11 (bA J (Eb T J J J (sB dE (j:=6) J)) (ro T 2 (cb J H (λH=>?_) (λH=>?_)))))
 ·refine rc T 8 ?_
  cases H;exact p1 T J [6,6,0,0,0,0] ⟨v12,dq,dI,vU,wH,vK,vT,wG,vJ,dE,cY,ox,ov,J,J⟩ J
 refine rc T 3 ?_;obtain⟨oP,dP,ajN,ft,dS,eB,Eg⟩:=(λx=>x) cY;refine bU 7 (congrArg some Eg) (fz J ?_);rcases q5:v3.2.2.fE with _ |x4
 ·replace H:=fj q5 H
  cases H
 replace H:=fk q5 H;rw[q5] at eB;obtain⟨qi,fv,fM,rfl,abR⟩:=eB;refine bU 9 (congrArg some abR) (fz J (rc T 4 (lf T 7 J (ro T 1 (kr (nV.R qi) [] [9] J acf H (nV.c · fM (oO cX 5) cX.bZ) (λv5 H=>?_))))));rintro _ _ ⟨ma,n19,kH,a20,n20,nI,ln,gP,lL,jA,rfl,rfl⟩;refine fz J (ro T 17 (jS T 0 J (ro T 2 (jS T 0 J (ro T 1 (ke [9] [0,2,5,5,5,5,5] J J (rx T 1 (rc T 3 (kr (fV.R el) [] [] J wo H (fV.c · (dF hG (j:=1) J)) (λv6 H=>?_))))))))));rintro v22 _ ⟨v22,mz,iz,rfl,rfl⟩;refine fz J (ro T 4 ?_)
 cases H;refine gq [6] J (gq [2,2,5] J (p1 T J [4,4,0,1,1,0] ⟨v22,mz,(List.flatten [(cl bg 103 [(ii v3.2.2.most),(pp oP),(pp qi)]),dP,(List.flatten [ln])]),ma,n19,kH,a20,n20,nI,iz,(show fw (cg.mk v3.2.2.most v3.2.2.nav (some v5.2.2.2)) bg (List.flatten [(cl bg 103 [(ii v3.2.2.most),(pp oP),(pp qi)]),dP,(List.flatten [ln])]) from⟨oP,dP,(pp qi),(List.flatten [ln]),dS,(show BW (some v5.2.2.2) (pp qi) (List.flatten [ln]) from⟨qi,ln,jA,J,J⟩),J⟩),gP,lL,J,J⟩ J))
def yL.f (s:cg) (o:eG) (a:mJ):Option (Er×cg×mJ):=(if(o.Kind==0)=true then(some true) else((C8.f o).bind λv3=>some (!v3))).bind λx1=>if x1=true then(some ((Er.dR 0),s,a)) else((dM s.fE (if(o.Kind !=1)=true then(some (o.Kind !=8)) else(some false)) (λx6=>some false)).bind λx4=>if x4=true then(some ((Er.num 148 4),s,a)) else((yK.f s o).bind λv7=>if(!(Er.isNil v7))=true then(some (v7,s,a)) else((if(o.Kind==1)=true then((yN.f s o.Map).bind λv23=>some (v23.1,a.Code,a.D,a.cx,a.Id,a.iK,a.iZ,a.Stats.bM,a.Stats.bN,a.Stats.bJ,a.Stats.bF,a.Stats.bW,a.Stats.bR,v23.2)) else(if(o.Kind==8)=true then((yo.f s.nav).bind λv24=>some (v7,a.Code,a.D,a.cx,a.Id,a.iK,a.iZ,a.Stats.bM,a.Stats.bN,a.Stats.bJ,a.Stats.bF,a.Stats.bW,a.Stats.bR,(cg.mk s.most v24 s.fE))) else(if(o.Kind==2)=true then((yM.f s o.A o.B).bind λv25=>some (v25.1,a.Code,a.D,a.cx,a.Id,a.iK,a.iZ,a.Stats.bM,a.Stats.bN,a.Stats.bJ,a.Stats.bF,a.Stats.bW,a.Stats.bR,v25.2)) else(if(o.Kind==3)=true then((Ao.f s o.A o.B).bind λv26=>some (v26.2.1,a.Code,a.D,a.cx,v26.1,a.iK,a.iZ,a.Stats.bM,a.Stats.bN,a.Stats.bJ,a.Stats.bF,a.Stats.bW,a.Stats.bR,v26.2.2)) else(if(o.Kind==4)=true then(dM s.fE ((F7.f o.A o.B).bind λv28=>(fV.f v28).bind λqR=>some (qR,a.Code,a.D,a.cx,a.Id,a.iK,a.iZ,a.Stats.bM,a.Stats.bN,a.Stats.bJ,a.Stats.bF,a.Stats.bW,a.Stats.bR,s)) (λmw=>(xE.f mw o.A o.B).bind λv30=>(fV.f v30.1).bind λv31=>some (v31,a.Code,a.D,a.cx,a.Id,a.iK,a.iZ,a.Stats.bM,a.Stats.bN,a.Stats.bJ,a.Stats.bF,a.Stats.bW,a.Stats.bR,(cg.mk s.most s.nav (some v30.2))))) else(if(o.Kind==5)=true then(dM s.fE ((F6.f o.A).bind λv33=>(fV.f v33).bind λP2=>some (P2,a.Code,a.D,a.cx,a.Id,a.iK,a.iZ,a.Stats.bM,a.Stats.bN,a.Stats.bJ,a.Stats.bF,a.Stats.bW,a.Stats.bR,s)) (λnF=>(xD.f nF o.A).bind λv35=>(fV.f v35.1).bind λkj=>some (kj,a.Code,a.D,a.cx,a.Id,a.iK,a.iZ,a.Stats.bM,a.Stats.bN,a.Stats.bJ,a.Stats.bF,a.Stats.bW,a.Stats.bR,(cg.mk s.most s.nav (some v35.2))))) else(if(o.Kind==6)=true then((yO.f s a o.A o.B).bind λv37=>some (v37.1,v37.2.2.Code,v37.2.2.D,v37.2.2.cx,v37.2.2.Id,v37.2.2.iK,v37.2.2.iZ,v37.2.2.Stats.bM,v37.2.2.Stats.bN,v37.2.2.Stats.bJ,v37.2.2.Stats.bF,v37.2.2.Stats.bW,v37.2.2.Stats.bR,v37.2.1)) else(if(o.Kind==7)=true then((yP.f s a).bind λpn=>some (pn.1,pn.2.2.Code,pn.2.2.D,pn.2.2.cx,pn.2.2.Id,pn.2.2.iK,pn.2.2.iZ,pn.2.2.Stats.bM,pn.2.2.Stats.bN,pn.2.2.Stats.bJ,pn.2.2.Stats.bF,pn.2.2.Stats.bW,pn.2.2.Stats.bR,pn.2.1)) else(some (v7,a.Code,a.D,a.cx,a.Id,a.iK,a.iZ,a.Stats.bM,a.Stats.bN,a.Stats.bJ,a.Stats.bF,a.Stats.bW,a.Stats.bR,s)))))))))).bind λ(x8,x9,aL,a_,bl,aP,bh,cn,dt,cM,c_,dA,il,eQ)=>some (x8,eQ,(mJ.mk x9 aL a_ bl aP bh (g_.mk cn dt cM c_ dA il))))))
def yL.R (el:Nat->Addr) (mM:Nat) (pz:Nat) (r:(Er×cg×mJ)):bj:=λu G=> ∃(v0:Value) (H0:Hp) (H1:Hp) (a2 n2 H2:_) (a3 n3 H3:_),gr 414 el r.1 v0 H0/\fw r.2.1 mM H1/\aj jM 94 r.2.2.iK a2 n2 H2/\aj (Fl.int .i64) 3 r.2.2.iZ a3 n3 H3/\u=v0/\G=[H0,H1,(cl pz 52 [(ii r.2.2.Code),(ii r.2.2.D),(ii r.2.2.cx),(ii r.2.2.Id),(ll a2 r.2.2.iK n2),(ll a3 r.2.2.iZ n3),(uu r.2.2.Stats.bM),(uu r.2.2.Stats.bN),(uu r.2.2.Stats.bJ),(uu r.2.2.Stats.bF),(uu r.2.2.Stats.bW),(uu r.2.2.Stats.bR)]),H2,H3]
theorem yL.c (H:yL.f s o a=some r) (hG:fP 414 fc gW el F) (cR:fw s bg dJ) (A8:aO (Fl.int .u8) o.Map B7 F) (AX:aa o.Map<=C1) (ox:aj jM 94 a.iK vU wH vK) (ov:aj (Fl.int .i64) 3 a.iZ vT wG vJ):
 QR 55 [(pp bg),(.agg #[(ii o.Kind),(ii o.A),(ii o.B),(ll B7 o.Map C1)]),(pp pz)] [dJ,(cl pz 52 [(ii a.Code),(ii a.D),(ii a.cx),(ii a.Id),(ll vU a.iK wH),(ll vT a.iZ wG),(uu a.Stats.bM),(uu a.Stats.bN),(uu a.Stats.bJ),(uu a.Stats.bF),(uu a.Stats.bW),(uu a.Stats.bR)]),vK,vJ] [] F (yL.R el bg pz r):=by
 unfold yL.f at H;refine aF Tryz.func55 J J (λW=>rc T 2 (nc T J (λb5=>fz J (ro T 5 (mq H [0,2,4] [4,0,0,0,0,0] (λz2 (x1:Bool)=>(x1=z2,[(7,(bb x1))],[])) J J (λz2 Z1 _=>?_) ?_)))))
 ·refine rc T 2 (lf T 5 J (ro T 2 (ab 11 J Z1 (λZ1=>?_) (λZ1=>?_))))
  ·refine ro T 7 (am _ [4,0,0,0,0,0] (oi Z1) J J)
  refine lm T 5 J (k [] J ad5 Z1 (C8.c · (rO A8 4) AX) (λv3 Z1=>ro T 5 (am _ [4,0,0,0,0,0] (oi Z1) J J)))
 rintro _ x1 rfl H;refine cb J H (λH=>?_) (λH=>?_)
 ·refine rc T 2 (lg T J (sK (j:=0) J hG (g:=0) (by decide)) (ro T 6 ?_))
  cases H;refine aq J (p1 T J [6,1,1,1,1,0] ⟨(.iface 414 (.pointer (some (el 0)))),[],dJ,vU,wH,vK,vT,wG,vJ,oR,cR,ox,ov,J,J⟩ J)
 refine mq H [0,2,4] [0,0,0,0,0,0] (λz5 (x4:Bool)=>(x4=z5,[(17,(bb x4))],[])) J J (λz5 Z5 _=>?_) ?_
 ·obtain⟨b8,H8,ajT,H9,s8,s9,sE⟩:=(λx=>x) cR;refine bU 1 (congrArg some sE) (fz J ?_);rcases q6:s.fE with _ |x6
  ·replace Z5:=fj q6 Z5;rw[q6] at s9;obtain⟨rfl,rfl⟩:=s9;refine rc T 4 (lf T 5 J (ro T 3 (lf T 4 J (ro T 3 (ab 28 J Z5 (λZ5=>?_) (λZ5=>?_))))))
   ·refine ro T 1 (lf T 4 J (ro T 5 (cq [5,5,5] J sE (am _ [0,4,0,0,0,0] (oi Z5) J J))))
   refine ro T 7 (cq [5,5,5] J sE (am _ [0,4,0,0,0,0] (oi Z5) J J))
  replace Z5:=fk q6 Z5;rw[q6] at s9;obtain⟨iN,cH,cX,rfl,Su⟩:=s9;refine bU 7 (congrArg some Su) (fz J (rc T 4 (lf T 5 J (ro T 14 (cq [7] J Su (cq [5,5,5] J sE (am _ [0,4,0,0,0,0] (oi Z5) J J)))))))
 rintro _ x4 rfl H;refine cb J H (λH=>?_) (λH=>?_)
 ·refine rc T 2 (bA J (iw T J J J J) (ro T 6 ?_))
  cases H;refine aq J (p1 T J [6,1,1,1,1,0] ⟨(.iface 148 (ii 4)),[],dJ,vU,wH,vK,vT,wG,vJ,sx,cR,ox,ov,J,J⟩ J)
 refine rc T 7 (lm T 5 J (kr (yK.R el) [1] [1] J ad6 H (yK.c · (dF hG (j:=0) J) cR (rO A8 0) AX) (λv7 H=>?_)));rintro lP _ ⟨lP,dI,cY,rfl,rfl⟩;refine fz J (ro T 6 (bA J (Eb T J J J (sB cY (j:=5) J)) (ro T 2 (cb J H (λH=>?_) (λH=>?_)))))
 ·refine rc T 8 ?_
  cases H;exact p1 T J [5,5,1,1,1,0] ⟨lP,dI,dJ,vU,wH,vK,vT,wG,vJ,cY,cR,ox,ov,J,J⟩ J
 refine rc T 2 (mq H [] [0] (λz22 (⟨x8,x9,aL,a_,bl,aP,bh,cn,dt,cM,c_,dA,il,eQ,Lv,fp,jX,n15,dP,iu,n16,ft,eU⟩:Er×Int×Int×Int×Int×List gv×List Int×Int×Int×Int×Int×Int×Int×cg×Value×Hp×Option Addr×Nat×Hp×Option Addr×Nat×Hp×Hp)=>((x8,x9,aL,a_,bl,aP,bh,cn,dt,cM,c_,dA,il,eQ)=z22/\gr 414 el x8 Lv fp/\aj jM 94 aP jX n15 dP/\aj (Fl.int .i64) 3 bh iu n16 ft/\fw eQ bg eU,[(6,Lv)],[fp,(cl pz 52 [(ii x9),(ii aL),(ii a_),(ii bl),(ll jX aP n15),(ll iu bh n16),(uu cn),(uu dt),(uu cM),(uu c_),(uu dA),(uu il)]),dP,ft,eU])) J J (λz22 aY _=>?_) ?_)
 ·refine rc T 3 (lf T 4 J (ro T 9 (cb J aY (λaY=>?_) (λaY=>?_))))
  ·refine rc T 3 (lf T 4 J (kr (yN.R el bg) [] [6] J ad7 aY (yN.c · (dF hG (j:=0) J) cR (rO A8 0) AX) (λv23 aY=>?_)));rintro fW _ ⟨fW,fv,kH,fM,gP,rfl,rfl⟩;refine fz J (ro T 4 (am (_,_,_,_,_,_,_,_,_,_,_,_,_,_,_,_,_,_,_,_,_,_,_) [0,5,0,0,0,2] ⟨oi aY,fM,ox,ov,gP⟩ J J))
  refine rc T 6 (cb J aY (λaY=>?_) (λaY=>?_))
  ·obtain⟨Cc,ln,Xt,mz,jA,iz,abO⟩:=(λx=>x) cR;refine bU 6 (congrArg some abO) (fz J (rc T 4 (lf T 6 J (kr (yo.R Cc) [] [7] J ad8 aY (yo.c · jA) (λv24 aY=>?_)))));rintro _ _ ⟨jC,gD,rfl,rfl⟩;refine fz J (ro T 3 (gq [6,7,6] J (am (_,_,_,_,_,_,_,_,_,_,_,_,_,_,_,_,_,_,_,_,_,_,_) [0,4,0,0,0,1] ⟨oi aY,cY,ox,ov,(show fw (cg.mk s.most v24 s.fE) bg (List.flatten [(cl bg 103 [(ii s.most),(pp Cc),Xt]),jC,mz]) from⟨Cc,jC,Xt,mz,gD,iz,J⟩)⟩ J J)))
  refine rc T 6 (cb J aY (λaY=>?_) (λaY=>?_))
  ·refine rc T 3 (lf T 4 J (ro T 1 (lf T 4 J (kr (yM.R el bg) [] [6] J ad9 aY (yM.c · (dF hG (j:=0) J) cR) (λv25 aY=>?_)))));rintro v24 _ ⟨v24,qZ,ir,kZ,jQ,rfl,rfl⟩;refine fz J (ro T 4 (am (_,_,_,_,_,_,_,_,_,_,_,_,_,_,_,_,_,_,_,_,_,_,_) [0,5,0,0,0,2] ⟨oi aY,kZ,ox,ov,jQ⟩ J J))
  refine rc T 6 (cb J aY (λaY=>?_) (λaY=>?_))
  ·refine rc T 4 (lf T 4 J (ro T 1 (lf T 4 J (kr (Ao.R el bg) [] [6] J ad_ aY (Ao.c · (dF hG (j:=0) J) cR) (λv26 aY=>?_)))));rintro _ _ ⟨v26,po,Fq,ot,wV,rfl,rfl⟩;refine fz J (ro T 5 (jS T 1 J (ro T 4 (am (_,_,_,_,_,_,_,_,_,_,_,_,_,_,_,_,_,_,_,_,_,_,_) [0,5,0,0,0,2] ⟨oi aY,ot,ox,ov,wV⟩ J J))))
  refine rc T 6 (cb J aY (λaY=>?_) (λaY=>?_))
  ·obtain⟨AU,rY,ajR,rZ,rJ,pW,JO⟩:=(λx=>x) cR;refine bU 6 (congrArg some JO) (fz J ?_);rcases Dg:s.fE with _ |mw
   ·replace aY:=fj Dg aY;rw[Dg] at pW;obtain⟨rfl,rfl⟩:=pW;refine ke [0,4] [0,0,0,0,0,1,1,1] J J (fz J (rq [] [0,0,0,0,0,0,0,0] J mix (bH bG) (λhg pf=>ha T 8 [0,1,2] sz hg pf J (al T 3 5 sz hg pf J J J (ha T 6 [4] sz hg pf J (al T 5 4 sz hg pf J J J (ha T 4 [6] sz hg pf J (al T 7 4 sz hg pf J J J (ao 8 (kh [] J TE aY (F7.c ·) (λv28 aY=>an sz (ao 9 (kR (fV.R el) [] [] J wo aY (fV.c · (dF hG (j:=0) J)) (λqR aY=>?_))))))))))))));rintro v33 _ ⟨v33,IJ,wW,rfl,rfl⟩;refine fz J (an (so [0,0,0,0,0,0,0,0]) (ha T 0 [10] (so [0,0,0,0,0,0,0,0]) hg pf J (ae (rx T 2 (cq [5,5,5] J JO (am (_,_,_,_,_,_,_,_,_,_,_,_,_,_,_,_,_,_,_,_,_,_,_) [0,4,0,0,0,1] ⟨oi aY,wW,ox,ov,cR⟩ J J))))))
   replace aY:=fk Dg aY;rw[Dg] at pW;obtain⟨xA,II,Af,rfl,abS⟩:=pW;refine bU 8 (congrArg some abS) (fz J (ke [0,4] [0,0,0,0,0,1,1,1] J J (fz J (rq [8] [0,0,0,0,0,0,0,0] J mix (bH bG) (λhg pf=>ha T 8 [0,1,2] sz hg pf J (al T 3 5 sz hg pf J J J (ha T 6 [4] sz hg pf J (al T 5 4 sz hg pf J J J (ha T 4 [6] sz hg pf J (al T 7 4 sz hg pf J J J (ao 8 (kR (xE.R xA) [] [7] J TE aY (xE.c · Af) (λv30 aY=>?_)))))))))))));rintro _ _ ⟨vI,yH,rfl,rfl⟩;refine fz J (an sl (ao 9 (kR (fV.R el) [] [] J wo aY (fV.c · (dF hG (j:=0) J)) (λv31 aY=>?_))));rintro v35 _ ⟨v35,IK,K9,rfl,rfl⟩;refine fz J (an sl (hb T 10 sl hg pf J (ae (rx T 2 (gq [7] J (gq [5,5,6] J (am (_,_,_,_,_,_,_,_,_,_,_,_,_,_,_,_,_,_,_,_,_,_,_) [0,4,0,0,0,1] ⟨oi aY,K9,ox,ov,(show fw (cg.mk s.most s.nav (some v30.2)) bg (List.flatten [(cl bg 103 [(ii s.most),(pp AU),(pp xA)]),rY,(List.flatten [vI])]) from⟨AU,rY,(pp xA),(List.flatten [vI]),rJ,(show BW (some v30.2) (pp xA) (List.flatten [vI]) from⟨xA,vI,yH,J,J⟩),J⟩)⟩ J J)))))))
  refine rc T 6 (cb J aY (λaY=>?_) (λaY=>?_))
  ·obtain⟨Q2,AH,ajS,LL,Bq,Br,Sq⟩:=(λx=>x) cR;refine bU 6 (congrArg some Sq) (fz J ?_);rcases HG:s.fE with _ |nF
   ·replace aY:=fj HG aY;rw[HG] at Br;obtain⟨rfl,rfl⟩:=Br;refine ke [0,4] [0,0,0,0,0,1,1,1] J J (fz J (rq [] [0,0,0,0,0,0,0,0] J mix (bH bG) (λhg pf=>ha T 6 [0,1,2] sz hg pf J (al T 3 5 sz hg pf J J J (ha T 4 [4] sz hg pf J (al T 5 4 sz hg pf J J J (ao 6 (kh [] J TF aY (F6.c ·) (λv33 aY=>an sz (ao 7 (kR (fV.R el) [] [] J wo aY (fV.c · (dF hG (j:=0) J)) (λP2 aY=>?_))))))))))));rintro Lz _ ⟨Lz,lQ,Pt,rfl,rfl⟩;refine fz J (an (so [0,0,0,0,0,0,0,0]) (ha T 0 [8] (so [0,0,0,0,0,0,0,0]) hg pf J (ae (rx T 2 (cq [5,5,5] J Sq (am (_,_,_,_,_,_,_,_,_,_,_,_,_,_,_,_,_,_,_,_,_,_,_) [0,4,0,0,0,1] ⟨oi aY,Pt,ox,ov,cR⟩ J J))))))
   replace aY:=fk HG aY;rw[HG] at Br;obtain⟨FX,Ft,Ag,rfl,abT⟩:=Br;refine bU 8 (congrArg some abT) (fz J (ke [0,4] [0,0,0,0,0,1,1,1] J J (fz J (rq [6] [0,0,0,0,0,0,0,0] J mix (bH bG) (λhg pf=>ha T 6 [0,1,2] sz hg pf J (al T 3 5 sz hg pf J J J (ha T 4 [4] sz hg pf J (al T 5 4 sz hg pf J J J (ao 6 (kR (xD.R FX) [] [7] J TF aY (xD.c · Ag) (λv35 aY=>?_)))))))))));rintro _ _ ⟨gR,uo,rfl,rfl⟩;refine fz J (an sl (ao 7 (kR (fV.R el) [] [] J wo aY (fV.c · (dF hG (j:=0) J)) (λkj aY=>?_))));rintro v44 _ ⟨v44,XR,Dq,rfl,rfl⟩;refine fz J (an sl (hb T 8 sl hg pf J (ae (rx T 2 (gq [7] J (gq [5,5,6] J (am (_,_,_,_,_,_,_,_,_,_,_,_,_,_,_,_,_,_,_,_,_,_,_) [0,4,0,0,0,1] ⟨oi aY,Dq,ox,ov,(show fw (cg.mk s.most s.nav (some v35.2)) bg (List.flatten [(cl bg 103 [(ii s.most),(pp Q2),(pp FX)]),AH,(List.flatten [gR])]) from⟨Q2,AH,(pp FX),(List.flatten [gR]),Bq,(show BW (some v35.2) (pp FX) (List.flatten [gR]) from⟨FX,gR,uo,J,J⟩),J⟩)⟩ J J)))))))
  refine rc T 6 (cb J aY (λaY=>?_) (λaY=>?_))
  ·refine rc T 4 (lf T 4 J (ro T 1 (lf T 4 J (kr (yO.R el bg pz) [] [6,1,1,1] J ad' aY (yO.c · (dF hG (j:=0) J) cR ox ov) (λv37 aY=>?_)))));rintro v46 _ ⟨v46,XS,Fu,FE,n48,Fv,a49,n49,XT,Pu,HU,K_,s49,rfl,rfl⟩;refine fz J (ro T 4 (am (_,_,_,_,_,_,_,_,_,_,_,_,_,_,_,_,_,_,_,_,_,_,_) [0,2,3,3,3,2] ⟨oi aY,Pu,K_,s49,HU⟩ J J))
  refine rc T 6 (cb J aY (λaY=>?_) (λaY=>?_))
  ·refine rc T 3 (kr (yP.R el bg pz) [] [6,1,1,1] J aea aY (yP.c · (dF hG (j:=0) J) cR ox ov) (λpn aY=>?_));rintro v50 _ ⟨v50,XU,XV,LW,n52,LN,a53,n53,XW,Pw,La,ET,Px,rfl,rfl⟩;refine fz J (ro T 4 (am (_,_,_,_,_,_,_,_,_,_,_,_,_,_,_,_,_,_,_,_,_,_,_) [0,2,3,3,3,2] ⟨oi aY,Pw,ET,Px,La⟩ J J))
  refine rc T 3 (am (_,_,_,_,_,_,_,_,_,_,_,_,_,_,_,_,_,_,_,_,_,_,_) [0,4,0,0,0,1] ⟨oi aY,cY,ox,ov,cR⟩ J J)
 rintro _ ⟨x8,x9,aL,a_,bl,aP,bh,cn,dt,cM,c_,dA,il,eQ,Lv,fp,jX,n15,dP,iu,n16,ft,eU⟩ ⟨rfl,fT,dS,eB,fL⟩ H;refine rc T 7 ?_
 cases H;exact p1 T J [1,4,1,1,1,0] ⟨Lv,fp,eU,jX,n15,dP,iu,n16,ft,fT,fL,dS,eB,J,J⟩ J
def Ij.f (err:Er):Option Int:=(v_.f err (Er.dR 0)).bind λv1=>if v1=true then(some 5) else((Ga.f err).bind λv2=>if(Option.isSome v2)=true then(some (Option.getD v2 0)) else(some 0))
theorem Ij.c (H:Ij.f err=some r) (hG:fP 414 fc gW el F) (Ea:l9 414 el err P3 F):
 QU 56 [P3] [] F (ii r):=by
 unfold Ij.f at H;refine aF Tryz.func56 J J (λW=>rc T 7 (nc T J (λb1=>fz J (ro T 7 (lg T J (sK (j:=0) J hG (g:=0) (by decide)) (k [] J J1 H (v_.c err (Er.dR 0) _ _ · (dF hG (j:=0) J) (Gb Ea (j:=0) J) Js) (λv1 H=>ro T 3 (cb J H (λH=>?_) (λH=>?_)))))))))
 ·refine rc T 8 ?_
  cases H;exact p0 T J [0] J
 refine rc T 3 (bA J (iw T J J J J) ?_);obtain⟨v2,V3,H⟩:=gx H;refine aV (tI (As:=[(cl b1 148 [(ii 0)])]) (R:=[F]) (B:=λ_=>[(cl b1 148 [(ii (Option.getD v2 0))])]) [1] J J J J J2 J J (Ga.c err v2 _ V3 (dF hG (j:=0) J) (Gb Ea (j:=0) J)) (λ_=>ro T 3 (cb J H (λH=>?_) (λH=>?_))))
 ·refine rc T 2 (lf T 1 J (ro T 6 ?_))
  cases H;exact p0 T J [0] J
 refine rc T 9 ?_
 cases H;exact p0 T J [0] J
theorem Ll.c {b:Nat} {c0 c1 c2:Value} (F:Hp) (m:(b,Obj.cells #[c0,c1,c2] 103 (0,0))∈F):
 QU 42 [(pp b)] [] F c1:=by
 refine aF Tryz.func42 J J (λW=>rc T 12 (eN J (rc T 7 (lg T J (oa (j:=0) m J J) (ro T 4 (FU (T:=T) J (.tmp J .nil) (λw o=>⟨(),J,Db [0] J o⟩)))))))
def An.f (s:cg):Option g_:=(C3.f s.nav).bind λv1=>some v1
theorem An.c (H:An.f s=some r) (cR:fw s bg dJ):
 QU 22 [(pp bg)] [dJ] F (.agg #[(uu r.bM),(uu r.bN),(uu r.bJ),(uu r.bF),(uu r.bW),(uu r.bR)]):=by
 unfold An.f at H;refine aF Tryz.func22 J J (λW=>rc T 2 (nc T J (λb2=>fz J (ro T 3 ?_))));obtain⟨b4,H4,tk,H5,s4,s5,dx⟩:=(λx=>x) cR;refine bU 0 (congrArg some dx) (fz J (rc T 2 (aV (tI (B:=λ_=>[]) [] J J J J JZ J J (Ll.c _ (zU (j:=2) J)) (λ_=>k [3] J adV H (C3.c · s4) (λv1 H=>jS T 1 J (ro T 3 ?_)))))))
 cases H;refine cq [2,2,2] J dx (pb T J (.cS (j:=1) [(uu r.bM),(uu r.bN),(uu r.bJ),(uu r.bF),(uu r.bW),(uu r.bR)] J J J J J J J .nil) [2,0] () J J)
def mu.f (s:cg) (o:eG):Option (mJ×cg):=(yL.f s o (mJ.mk 0 0 5 (-1) ([]:List gv) ([]:List Int) (g_.mk 0 0 0 0 0 0))).bind λv1=>if(!(Er.isNil v1.1))=true then((Ij.f (Er.wrap 110 [o.Kind] v1.1)).bind λv2=>(An.f v1.2.1).bind λv3=>some ((mJ.mk v2 v1.2.2.D v1.2.2.cx v1.2.2.Id v1.2.2.iK v1.2.2.iZ v3),v1.2.1)) else((An.f v1.2.1).bind λv4=>some ((mJ.mk v1.2.2.Code v1.2.2.D v1.2.2.cx v1.2.2.Id v1.2.2.iK v1.2.2.iZ v4),v1.2.1))
def mu.R (el:Nat->Addr) (mM:Nat) (r:(mJ×cg)):bj:=λu G=> ∃(a0 n0 H0:_) (a1 n1 H1:_) (H2:Hp),aj jM 94 r.1.iK a0 n0 H0/\aj (Fl.int .i64) 3 r.1.iZ a1 n1 H1/\fw r.2 mM H2/\u=(.agg #[(ii r.1.Code),(ii r.1.D),(ii r.1.cx),(ii r.1.Id),(ll a0 r.1.iK n0),(ll a1 r.1.iZ n1),(uu r.1.Stats.bM),(uu r.1.Stats.bN),(uu r.1.Stats.bJ),(uu r.1.Stats.bF),(uu r.1.Stats.bW),(uu r.1.Stats.bR)])/\G=[H0,H1,H2]
theorem mu.c (H:mu.f s o=some r) (hG:fP 414 fc gW el F) (cR:fw s bg dJ) (A8:aO (Fl.int .u8) o.Map B7 F) (AX:aa o.Map<=C1):
 QR 24 [(pp bg),(.agg #[(ii o.Kind),(ii o.A),(ii o.B),(ll B7 o.Map C1)])] [dJ] [] F (mu.R el bg r):=by
 unfold mu.f at H;refine aF Tryz.func24 J J (λW=>rc T 2 (nc T J (λb2=>fz J (nc T J (λb3=>fz J (ro T 5 (nc T J (λb4=>fz J (jS T 4 J (ro T 9 (eN J (rc T 5 (jS T 4 J (ro T 1 (ks [0,3,4,5] J (rx T 1 (rc T 4 (lm T 2 J (aq J (aq J (kr (yL.R el bg b4) [] [0,3,3,3] J adW H (yL.c (a:=(mJ.mk 0 0 5 (-1) ([]:List gv) ([]:List Int) (g_.mk 0 0 0 0 0 0))) · (dF hG (j:=0) J) cR (rO A8 0) AX (aj.nil (k:=jM) (E:=94)) (aj.nil (k:=(Fl.int .i64)) (E:=3))) (λv1 H=>?_))))))))))))))))))))));rintro v7 _ ⟨v7,H7,H8,a9,n9,H9,cC,n10,bT,s7,s8,s9,bL,rfl,rfl⟩;refine fz J (ro T 6 (bA J (Eb T J J J (sB s7 (j:=3) J)) (ro T 2 (cb J H (λH=>?_) (λH=>?_)))))
 ·refine rc T 2 (lf T 1 J (ro T 1 (bA J (Sb (vs:=[(0,(ii o.Kind)),(1,v7)]) T [(0,[(ii o.Kind)]),(1,[v7])] J J J J J (by simp only[List.map,RW s7];rfl) J) ?_)))
  refine nc T J (λiN=>fz J (gq [8,3] J (bA J (iw T J J J J) (k [] J adX H (Ij.c · (dF hG (j:=0) J) (sB (qo s7) (j:=7) J)) (λv2 H=>ro T 1 (jS T 4 J (ro T 5 (k [3] J Tf H (An.c · s8) (λv3 H=>ro T 1 (jS T 4 J (ro T 1 (ke [4,5] [0,1,1,1,1,1] J J (rx T 3 (lm T 3 J (jS T 1 J (ro T 1 (rx T 2 ?_)))))))))))))))))
  cases H;exact pb T J (.cS (j:=1) [(ii v2),(ii v1.2.2.D),(ii v1.2.2.cx),(ii v1.2.2.Id),(ll a9 v1.2.2.iK n9),(ll cC v1.2.2.iZ n10),(uu v3.bM),(uu v3.bN),(uu v3.bJ),(uu v3.bF),(uu v3.bW),(uu v3.bR)] J J J J J J J .nil) [4,4,2,0] ⟨(_,_),a9,n9,H9,cC,n10,bT,H8,s9,bL,s8,J,J⟩ J J
 refine rc T 5 (k [4] J Tf H (An.c · s8) (λv4 H=>ro T 1 (jS T 5 J (ro T 4 (lm T 5 J (jS T 2 J (ro T 1 (ke [4] [0,1,2,3,3] J J (rx T 1 (rc T 1 ?_))))))))))
 cases H;exact pb T J (.cS (j:=1) [(ii v1.2.2.Code),(ii v1.2.2.D),(ii v1.2.2.cx),(ii v1.2.2.Id),(ll a9 v1.2.2.iK n9),(ll cC v1.2.2.iZ n10),(uu v4.bM),(uu v4.bN),(uu v4.bJ),(uu v4.bF),(uu v4.bW),(uu v4.bR)] J J J J J J J .nil) [3,3,2,0] ⟨(_,_),a9,n9,H9,cC,n10,bT,H8,s9,bL,s8,J,J⟩ J J
def tf.f (s:cg):Option aG:=(yu.f s.nav).bind λv1=>some v1
def tf.R (r:aG):bj:=λu G=> ∃a0 n0 H0,aj (Fl.int .u8) 5 r.C a0 n0 H0/\u=(.agg #[(ii r.W),(ii r.H),(ll a0 r.C n0)])/\G=[H0]
theorem tf.c (H:tf.f s=some r) (cR:fw s bg dJ):
 QR 14 [(pp bg)] [dJ] [dJ] F (tf.R r):=by
 unfold tf.f at H;refine aF Tryz.func14 J J (λW=>rc T 2 (nc T J (λb2=>fz J (ro T 3 ?_))));obtain⟨b4,H4,tk,H5,s4,s5,dx⟩:=(λx=>x) cR;refine bU 0 (congrArg some dx) (fz J (rc T 2 (aV (tI (B:=λ_=>[]) [] J J J J JZ J J (Ll.c _ (zU (j:=2) J)) (λ_=>kr yu.R [3] [3] J adQ H (yu.c · s4) (λv1 H=>?_))))));rintro _ _ ⟨a6,n6,H6,s6,rfl,rfl⟩;refine fz J (jS T 1 J (ro T 3 ?_))
 cases H;refine cq [2,4,2] J dx (pb T J (.cS (j:=1) [(ii r.W),(ii r.H),(ll a6 r.C n6)] J J J J J J J .nil) [2,2,0] ⟨(_,_),a6,n6,H6,s6,J,J⟩ J J)
def yJ.f (s:cg):Option (List (Int×Int)):=(yp.f s.nav).bind λv1=>some v1
def yJ.R (r:(List (Int×Int))):bj:=λu G=> ∃a0 n0 H0,aj (Fl.pair .i64) 76 r a0 n0 H0/\u=(ll a0 r n0)/\G=[H0]
theorem yJ.c (H:yJ.f s=some r) (cR:fw s bg dJ):
 QR 35 [(pp bg)] [dJ] [dJ] F (yJ.R r):=by
 unfold yJ.f at H;refine aF Tryz.func35 J J (λW=>rc T 6 ?_);obtain⟨b3,H3,tj,H4,s3,s4,cz⟩:=(λx=>x) cR;refine bU 0 (congrArg some cz) (fz J (rc T 2 (aV (tI (B:=λ_=>[]) [] J J J J JZ J J (Ll.c _ (zU (j:=1) J)) (λ_=>kr yp.R [2] [2] J adY H (yp.c · s3) (λv1 H=>?_))))));rintro _ _ ⟨a5,n5,H5,s5,rfl,rfl⟩;refine fz J (ro T 4 ?_)
 cases H;refine cq [1,3,1] J cz (p1 T J [1,1,0] ⟨a5,n5,H5,s5,J,J⟩ J)
def vD.f (s:cg) (goal:Int) (bB:Int):Option (eJ×Int×cg):=(rE.f s.nav goal bB).bind λv1=>some (v1.1,v1.2.1,(cg.mk s.most v1.2.2 s.fE))
def vD.R (el:Nat->Addr) (mM:Nat) (r:(eJ×Int×cg)):bj:=λu G=> ∃(a0 n0 H0:_) (a1 n1 H1:_) (H2:Hp),aj (Fl.int .i64) 3 r.1.cN a0 n0 H0/\aj (Fl.int .i64) 3 r.1.cx a1 n1 H1/\fw r.2.2 mM H2/\u=(.tuple #[(.agg #[(ll a0 r.1.cN n0),(ll a1 r.1.cx n1)]),(ii r.2.1)])/\G=[H0,H1,H2]
theorem vD.c (H:vD.f s goal bB=some r) (hG:fP 414 fc gW el F) (cR:fw s bg dJ):
 QR 37 [(pp bg),(ii goal),(ii bB)] [dJ] [] F (vD.R el bg r):=by
 unfold vD.f at H;refine aF Tryz.func37 J J (λW=>rc T 2 (nc T J (λb2=>fz J (ro T 4 ?_))));obtain⟨b4,H4,tk,H5,s4,s5,dx⟩:=(λx=>x) cR;refine bU 0 (congrArg some dx) (fz J (rc T 2 (aV (tI (B:=λ_=>[]) [] J J J J JZ J J (Ll.c _ (zU (j:=2) J)) (λ_=>ro T 2 (kr (rE.R el b4) [] [3] J NJ H (rE.c · (dF hG (j:=0) J) s4) (λv1 H=>?_)))))));rintro _ _ ⟨a6,n6,H6,a7,n7,H7,H8,s6,s7,s8,rfl,rfl⟩;refine fz J (ro T 2 (jS T 1 J (ro T 4 ?_)))
 cases H;refine gq [2,5,2] J (pb T J (.cS (j:=1) [(ll a6 v1.1.cN n6),(ll a7 v1.1.cx n7)] J J J J J J J (.tmp J .nil)) [2,2,2,0] ⟨(_,_),a6,n6,H6,a7,n7,H7,(List.flatten [(cl bg 103 [(ii s.most),(pp b4),tk]),H8,H5]),s6,s7,(show fw (cg.mk s.most v1.2.2 s.fE) bg (List.flatten [(cl bg 103 [(ii s.most),(pp b4),tk]),H8,H5]) from⟨b4,H8,tk,H5,s8,s5,J⟩),J,J⟩ J J)
theorem Xi.c {b:Nat} {c0 c1 c2:Value} (F:Hp) (m:(b,Obj.cells #[c0,c1,c2] 103 (0,0))∈F):
 QU 53 [(pp b)] [] F c2:=by
 refine aF Tryz.func53 J J (λW=>rc T 12 (eN J (rc T 7 (lg T J (oa (j:=0) m J J) (ro T 4 (FU (T:=T) J (.tmp J .nil) (λw o=>⟨(),J,Db [0] J o⟩)))))))
def BF.f (s:cg):Option (List bD):=dM s.fE ((A3.f).bind λv2=>some v2) (λx1=>(qk.f x1).bind λv3=>some v3)
def BF.R (r:(List bD)):bj:=λu G=> ∃a0 n0 H0,aj l6 67 r a0 n0 H0/\u=(ll a0 r n0)/\G=[H0]
theorem BF.c (H:BF.f s=some r) (cR:fw s bg dJ):
 QR 23 [(pp bg)] [dJ] [dJ] F (BF.R r):=by
 unfold BF.f at H;refine aF Tryz.func23 J J (λW=>rc T 6 ?_);obtain⟨b3,H3,tj,H4,s3,s4,cz⟩:=(λx=>x) cR;refine bU 0 (congrArg some cz) (fz J ?_);rcases q1:s.fE with _ |x1
 ·replace H:=fj q1 H;rw[q1] at s4;obtain⟨rfl,rfl⟩:=s4;refine rc T 2 (aV (tI (B:=λ_=>[]) [] J J J J Tx J J (Xi.c _ (zU (j:=1) J)) (λ_=>kr A3.R [] [] J J0 H (A3.c ·) (λv2 H=>?_))));rintro _ _ ⟨a7,n7,H7,s7,rfl,rfl⟩;refine fz J (ro T 4 ?_)
  cases H;refine cq [1,1,1] J cz (p1 T J [1,1,0] ⟨a7,n7,H7,s7,J,J⟩ J)
 replace H:=fk q1 H;rw[q1] at s4;obtain⟨b6,H6,s6,rfl,xM⟩:=s4;refine bU 3 (congrArg some xM) (fz J (rc T 2 (aV (tI (B:=λ_=>[]) [] J J J J Tx J J (Xi.c _ (zU (j:=1) J)) (λ_=>kr qk.R [3] [3] J J0 H (qk.c · s6) (λv3 H=>?_))))));rintro _ _ ⟨a8,n8,H8,s8,rfl,rfl⟩;refine fz J (ro T 4 ?_)
 cases H;refine cq [4] J xM (cq [1,1,2] J cz (p1 T J [1,1,0] ⟨a8,n8,H8,s8,J,J⟩ J))
end
noncomputable section
def wS.l0:Nat->(List gv)->(List gv)->Int->Option Bool
 |0,_,_,_=>none
 |k3+1,a,b,x2=>if x2<(aa a:Int) then(if(0<=x2/\x2<(aa a:Int)) then(if(0<=x2/\x2<(aa b:Int)) then(if(!(((rd a x2).Id==(rd b x2).Id)&&(((rd a x2).To==(rd b x2).To)&&true)))=true then(some false) else(wS.l0 k3 a b (af (x2+1)))) else none) else none) else(some true)
def wS.f (a:(List gv)) (b:(List gv)):Option Bool:=if((aa a:Int)!=(aa b:Int))=true then(some false) else(wS.l0 fuel a b 0)
theorem wS.c (H:wS.f a b=some r) (zB:aO jM a B4 F) (Jk:aa a<=CY) (gM:aO jM b jG F) (gz:aa b<=jy):
 QU 46 [(ll B4 a CY),(ll jG b jy)] [] F (bb r):=by
 unfold wS.f at H;refine aF Tryz.func46 J J (λW=>rc T 15 (cb J H (λH=>?_) (λH=>?_)))
 ·refine rc T 7 ?_
  cases H;exact p0 T J [0] J
 refine rc T 9 (lq [0,1] [0] (λ(⟨k3,x2⟩:Nat×Int)=>(wS.l0 k3 a b x2=some r,[(5,(ii x2))],[])) J J (fuel,0) [0] H J J ?_);rintro k3 x2 Z2;replace Z2:wS.l0 (k3+1) a b x2=some r:=Z2;rw[wS.l0] at Z2;refine rc T 9 (cd J Z2 (λZ2=>?_) (λZ2=>?_))
 ·refine rc T 5 (dw mix aB (au T J (au T J ?_)));obtain⟨c4,Z2⟩:=az Z2;obtain⟨q1,o1,e1⟩:=zB.addr c4.1 c4.2;refine bf J J J (cu T J J J J J e1 c4.1 c4.2) (bf J J J (fY T (cs:=[(ii (rd a x2).Id),(ii (rd a x2).To)]) J J J J J J (iy (k:=jM) (rO zB 0) e1 c4 J)) (au T J (au T J ?_)));obtain⟨c5,Z2⟩:=az Z2;obtain⟨q2,o2,e2⟩:=gM.addr c5.1 c5.2;refine bf J J J (cu T J J J J J e2 c5.1 c5.2) (bf J J J (fY T (cs:=[(ii (rd b x2).Id),(ii (rd b x2).To)]) J J J J J J (iy (k:=jM) (rO gM 0) e2 c5 J)) (bf J J J (MX T (((rd a x2).Id==(rd b x2).Id)&&(((rd a x2).To==(rd b x2).To)&&true)) J J J J aik aB J) (cO (rx T 1 (cb J Z2 (λZ2=>?_) (λZ2=>?_))))))
  ·refine rc T 11 ?_
   cases Z2;exact p0 T J [0] J
  refine rc T 9 (ar _ [0] Z2 J J)
 refine rc T 11 ?_
 cases Z2;exact p0 T J [0] J
end
noncomputable section
def yD.f (x:pI) (n:Int):Option eG:=((eW.f x.B 1 6).bind λv6=>(eW.f x.A 0 5).bind λv7=>(eW.f x.A 0 9).bind λv8=>some (v6,(af (n+v7)),v8,([]:List Int))).bind λ(x1,x2,x3,x4)=>if(x1==1)=true then(some (eG.mk x1 0 0 [2,0,1,0,1,(bQ x.A),(bQ x.B)])) else(if(x1==2)=true then((eW.f x.A 0 (af (n-1))).bind λdz=>(eW.f x.A 0 1).bind λdZ=>some (eG.mk x1 dz (af (dZ*255)) x4)) else(if(x1==5)=true then(some (eG.mk x1 x2 0 x4)) else(some (eG.mk x1 x2 x3 x4))))
def yD.R (r:eG):bj:=λu G=> ∃a0 n0 H0,aj (Fl.int .u8) 5 r.Map a0 n0 H0/\u=(.agg #[(ii r.Kind),(ii r.A),(ii r.B),(ll a0 r.Map n0)])/\G=[H0]
theorem yD.c (H:yD.f x n=some r):
 QR 50 [(.agg #[(ii x.Kind),(ii x.A),(ii x.B)]),(ii n)] [] [] F (yD.R r):=by
 unfold yD.f at H;refine aF Tryz.func50 J J (λW=>rc T 2 (nc T J (λb1=>nc T J (λb2=>ro T 2 (mq H [1,2,4] [0,0,0] (λz5 (⟨x1,x2,x3,x4,b3,a4,n4,H4⟩:Int×Int×Int×List Int×Nat×Option Addr×Nat×Hp)=>((x1,x2,x3,x4)=z5/\aj (Fl.int .u8) 5 x4 a4 n4 H4,[(5,(pp b3))],[(cl b3 55 [(ii x1),(ii x2),(ii x3),(ll a4 x4 n4)]),H4])) J J (λz5 Z1 _=>?_) ?_)))))
 ·refine ks [1,2,4] J (fz J (rz [] mix (bH bG) (λhg pf=>ha T 13 [0] sz hg pf J (al T 1 1 sz hg pf J J J (ha T 10 [3,4] sz hg pf J (al T 5 1 sz hg pf J J J (ha T 8 [8] sz hg pf J (al T 9 1 sz hg pf J J J (gK 2 12 ?_ ?_)))))))))
  ·refine kh [] J kT Z1 (eW.c ·) (λv6 Z1=>an sz (gK 6 12 ?_ ?_))
   ·refine kh [] J kT Z1 (eW.c ·) (λv7 Z1=>an sz (ha T 4 [7] sz hg pf J (gK 10 12 ?_ ?_)))
    ·refine kh [] J kT Z1 (eW.c ·) (λv8 Z1=>an sz (ha T 2 [11] sz hg pf J (ao 12 (nw T J (λb5=>an (so [0,0,0]) (ao 13 (sf T 3 J (an (so [0,0,0]) (ae (rx T 1 (bz (am (_,_,_,_,_,_,_,_) [0,0,0,0,0] ⟨oi Z1,aj.nil⟩ J J))))))))))))
    refine nw T J (λb6=>an (so [0,0,0]) (ao 10 (kh [] J kT Z1 (eW.c ·) (λv9 Z1=>an (so [0,0,0]) (ha T 1 [11] (so [0,0,0]) hg pf J (ao 13 (sf T 3 J (an (so [0,0,0]) (ae (rx T 1 (bz (am (_,_,_,_,_,_,_,_) [0,0,0,0,0] ⟨oi Z1,aj.nil⟩ J J))))))))))))
   refine nw T J (λb7=>an (so [0,0,0]) (ao 6 (kh [] J kT Z1 (eW.c ·) (λv10 Z1=>an (so [0,0,0]) (ha T 3 [7] (so [0,0,0]) hg pf J (ao 10 (kh [] J kT Z1 (eW.c ·) (λv11 Z1=>an (so [0,0,0]) (ha T 1 [11] (so [0,0,0]) hg pf J (ao 13 (sf T 3 J (an (so [0,0,0]) (ae (rx T 1 (bz (am (_,_,_,_,_,_,_,_) [0,0,0,0,0] ⟨oi Z1,aj.nil⟩ J J))))))))))))))))
  refine nw T J (λb8=>an (so [0,0,0]) (ao 2 (kh [] J kT Z1 (eW.c ·) (λv12 Z1=>an (so [0,0,0]) (ao 6 (kh [] J kT Z1 (eW.c ·) (λlP Z1=>an (so [0,0,0]) (ha T 3 [7] (so [0,0,0]) hg pf J (ao 10 (kh [] J kT Z1 (eW.c ·) (λdT Z1=>an (so [0,0,0]) (ha T 1 [11] (so [0,0,0]) hg pf J (ao 13 (sf T 3 J (an (so [0,0,0]) (ae (rx T 1 (bz (am (_,_,_,_,_,_,_,_) [0,0,0,0,0] ⟨oi Z1,aj.nil⟩ J J)))))))))))))))))))
 rintro _ ⟨x1,x2,x3,x4,b3,a4,n4,H4⟩ ⟨rfl,s4⟩ H;refine rc T 4 (lf T 3 J (ro T 9 (cb J H (λH=>?_) (λH=>?_))))
 ·refine fz J (rg [12] [0,0,0,1] mix (bH bG) (λhg pf=>ha T 12 [0] (so [0,0,0,1]) hg pf J (al T 1 1 (so [0,0,0,1]) hg pf J J J (ha T 9 [2,3] (so [0,0,0,1]) hg pf J (al T 4 1 (so [0,0,0,1]) hg pf J J J (ha T 6 [5,7] (so [0,0,0,1]) hg pf J (gK 6 8 ?_ ?_)))))))
  ·refine cW (k:=(Fl.int .u8)) T [2,0,1,0,1,(bQ x.A),(bQ x.B)] J J J J J J J J J (λa9 H9 s9=>an (so [0,0,0,1]) (ao 8 (sf T 3 J (an (so [0,0,0,1]) (ha T 3 [9] (so [0,0,0,1]) hg pf J (ao 10 (sf T 3 J (an (so [0,0,0,1]) (ha T 1 [11] (so [0,0,0,1]) hg pf J (ao 12 (sf T 3 J (an sl (ae (rx T 4 (lm T 3 J (sg T 2 J (ro T 3 ?_)))))))))))))))))
   cases H;exact pb T J (.cS (j:=2) [(ii x1),(ii 0),(ii 0),(ll a9 [2,0,1,0,1,(bQ x.A),(bQ x.B)] (aa [2,0,1,0,1,(bQ x.A),(bQ x.B)]))] J J J J J J J .nil) [5,0] ⟨(_,_),a9,(aa [2,0,1,0,1,(bQ x.A),(bQ x.B)]),H9,s9,J,J⟩ J J
  refine sf T 3 J (an (so [0,0,0,1]) (ha T 4 [9] (so [0,0,0,1]) hg pf J (gK 6 10 ?_ ?_)))
  ·refine cW (k:=(Fl.int .u8)) T [2,0,1,0,1,(bQ x.A),(bQ x.B)] J J J J J J J J J (λcC bT bL=>an (so [0,0,0,1]) (ao 10 (sf T 3 J (an (so [0,0,0,1]) (ha T 1 [11] (so [0,0,0,1]) hg pf J (ao 12 (sf T 3 J (an sl (ae (rx T 4 (lm T 3 J (sg T 2 J (ro T 3 ?_)))))))))))))
   cases H;exact pb T J (.cS (j:=2) [(ii x1),(ii 0),(ii 0),(ll cC [2,0,1,0,1,(bQ x.A),(bQ x.B)] (aa [2,0,1,0,1,(bQ x.A),(bQ x.B)]))] J J J J J J J .nil) [5,0] ⟨(_,_),cC,(aa [2,0,1,0,1,(bQ x.A),(bQ x.B)]),bT,bL,J,J⟩ J J
  refine sf T 3 J (an (so [0,0,0,1]) (ao 6 (cW (k:=(Fl.int .u8)) T [2,0,1,0,1,(bQ x.A),(bQ x.B)] J J J J J J J J J (λdj cH cX=>an (so [0,0,0,1]) (ha T 1 [11] (so [0,0,0,1]) hg pf J (ao 12 (sf T 3 J (an sl (ae (rx T 4 (lm T 3 J (sg T 2 J (ro T 3 ?_)))))))))))))
  cases H;exact pb T J (.cS (j:=2) [(ii x1),(ii 0),(ii 0),(ll dj [2,0,1,0,1,(bQ x.A),(bQ x.B)] (aa [2,0,1,0,1,(bQ x.A),(bQ x.B)]))] J J J J J J J .nil) [5,0] ⟨(_,_),dj,(aa [2,0,1,0,1,(bQ x.A),(bQ x.B)]),cH,cX,J,J⟩ J J
 refine rc T 6 (cb J H (λH=>?_) (λH=>?_))
 ·refine rc T 3 (lf T 1 J (ro T 2 (k [] J kT H (eW.c ·) (λdz H=>ro T 1 (sg T 3 J (ro T 4 (lf T 1 J (k [] J kT H (eW.c ·) (λdZ H=>ro T 2 (sg T 3 J (ro T 5 (lm T 3 J (sg T 2 J (ro T 1 (ke [4] [0,1,2] J J (rx T 1 (rc T 1 ?_)))))))))))))))))
  cases H;exact pb T J (.cS (j:=1) [(ii x1),(ii dz),(ii (af (dZ*255))),(ll a4 x4 n4)] J J J J J J J .nil) [2,0] ⟨(_,_),a4,n4,H4,s4,J,J⟩ J J
 refine rc T 6 (cb J H (λH=>?_) (λH=>?_))
 ·refine rc T 2 (sg T 3 J (ro T 5 (lm T 3 J (sg T 2 J (ro T 3 ?_)))))
  cases H;exact pb T J (.cS (j:=2) [(ii x1),(ii x2),(ii 0),(ll a4 x4 n4)] J J J J J J J .nil) [4,0] ⟨(_,_),a4,n4,H4,s4,J,J⟩ J J
 refine rc T 5 (lm T 3 J (sg T 2 J (ro T 3 ?_)))
 cases H;exact pb T J (.cS (j:=2) [(ii x1),(ii x2),(ii x3),(ll a4 x4 n4)] J J J J J J J .nil) [4,0] ⟨(_,_),a4,n4,H4,s4,J,J⟩ J J
def kY.l0:Nat->Int->Int->(List Int)->(List pI)->Int->Int->List Int->List eG->Int->Int->Option (List eG)
 |0,_,_,_,_,_,_,_,_,_,_=>none
 |lZ+1,w,h,p2,l,x9,aL,a_,bl,aP,bh=>if((decide (bh<(aa l:Int)))&&(decide (bh<60)))=true then(if(0<=bh/\bh<(aa l:Int)) then(((eW.f ((rd l bh).A) 0 (af (aP-1))).bind λv21=>(eW.f ((rd l bh).B) 0 (af (aP-1))).bind λv22=>some ((0:Int),v21,v22,([]:List Int))).bind λ(dt,cM,c_,dA)=>((eW.f ((rd l bh).Kind) 0 15).bind λv35=>(if(v35==0)=true then(some (v35==0)) else(if(v35==1)=true then(some (v35==1)) else(some (v35==2)))).bind λxj=>if xj=true then(some (x9,aL,a_,aP,(3:Int),cM,c_,dA)) else(if(v35==3)=true then((eW.f ((rd l bh).A) 0 9).bind λpn=>some (x9,aL,a_,aP,(4:Int),pn,c_,dA)) else(if(v35==4)=true then((eW.f ((rd l bh).A) 0 9).bind λv39=>some (x9,aL,a_,aP,(5:Int),v39,(0:Int),dA)) else((if(v35==5)=true then(some (v35==5)) else(some (v35==6))).bind λgJ=>if gJ=true then((wN.f (bQ ((rd l bh).B))).bind λLz=>some (x9,aL,a_,aP,(2:Int),cM,(af Lz),dA)) else((if(v35==7)=true then(some (v35==7)) else(some (v35==8))).bind λfO=>if fO=true then(some (x9,aL,a_,aP,(6:Int),cM,c_,dA)) else(if(v35==9)=true then(some (x9,aL,a_,aP,(8:Int),(0:Int),(0:Int),([]:List Int))) else(if(v35==10)=true then(if((fC (rd l bh).A 4)==0)=true then((lI.f (af (w+(af (di (rd l bh).A 4)))) (af (h+(rd l bh).B)) p2).bind λv45=>(lJ.f v45).bind λv46=>some (v45.W,v45.H,v45.C,(aa v45.C:Int),(1:Int),(0:Int),(0:Int),v46)) else((eW.f ((rd l bh).B) 0 200).bind λqS=>some (x9,aL,a_,aP,(0:Int),(af (9+qS)),(0:Int),([]:List Int)))) else(if(v35==11)=true then((yD.f (rd l bh) aP).bind λIl=>some (x9,aL,a_,aP,Il.Kind,Il.A,Il.B,Il.Map)) else(some (x9,aL,a_,aP,(7:Int),(0:Int),(0:Int),([]:List Int))))))))))).bind λ(km,mw,nD,jj,iH,rU,nF,oG)=>if(aa bl+1<=1099511627776) then(kY.l0 lZ w h p2 l km mw nD (bl++[(eG.mk iH rU nF oG)]) jj (af (bh+1))) else none) else none) else(some bl)
def kY.f (w:Int) (h:Int) (p2:(List Int)) (l:(List pI)):Option (List eG):=(lI.f w h p2).bind λv1=>(lJ.f v1).bind λv2=>kY.l0 fuel w h p2 l v1.W v1.H v1.C [(eG.mk 1 0 0 v2)] (aa v1.C:Int) 0
def kY.R (r:(List eG)):bj:=λu G=> ∃a0 n0 H0,gT HH 55 r a0 n0 H0/\u=(ll a0 r n0)/\G=[H0]
theorem kY.c (H:kY.f w h p2 l=some r) (Gt:aO (Fl.int .u8) p2 L1 F) (Ms:aa p2<=OR) (dm:aO EB l gZ F) (gj:aa l<=gX):
 QR 20 [(ii w),(ii h),(ll L1 p2 OR),(ll gZ l gX)] [] [] F (kY.R r):=by
 unfold kY.f at H;refine aF Tryz.func20 J J (λW=>rc T 10 (kr lI.R [] [] J Tw H (lI.c · (rO Gt 0) Ms) (λv1 H=>?_)));rintro _ _ ⟨a1,n1,H1,s1,rfl,rfl⟩;refine fz J (nc T J (λb2=>sg T 2 J (ro T 4 (lm T 2 J (kr lJ.R [] [] J ND H (lJ.c · (oO s1 1) s1.bZ) (λv2 H=>?_))))));rintro _ _ ⟨a3,n3,H3,s3,rfl,rfl⟩;refine fz J (ro T 1 (gL [3] J (aV (FR (kd:=HH) (E:=55) (q:=3) (c:=[(ii 1),(ii 0),(ii 0),(ll a3 v2 n3)]) T (eG.mk 1 0 0 v2) J J J J J J J J J J ⟨a3,n3,H3,s3,J,J⟩ (λa5 H5 s5=>ro T 6 (lf T 2 J (ro T 11 (lq [0,1,2,3,9] [0] (λ(⟨lZ,x9,aL,a_,bl,aP,bh,a8,n8,H8,a9,n9,H9⟩:Nat×Int×Int×List Int×List eG×Int×Int×Option Addr×Nat×Hp×Option Addr×Nat×Hp)=>(kY.l0 lZ w h p2 l x9 aL a_ bl aP bh=some r/\aj (Fl.int .u8) 5 a_ a8 n8 H8/\gT HH 55 bl a9 n9 H9,[(10,(ll a9 bl n9)),(11,(ii aP)),(12,(ii bh))],[(cl b2 30 [(ii x9),(ii aL),(ll a8 a_ n8)]),H8,H9])) J J (fuel,v1.W,v1.H,v1.C,[(eG.mk 1 0 0 v2)],(aa v1.C:Int),0,a1,n1,H1,a5,(aa [(eG.mk 1 0 0 v2)]),H5) [0,1,0,1] ⟨H,s1,s5⟩ J J ?_))))))));rintro lZ ⟨x9,aL,a_,bl,aP,bh,a8,n8,H8,a9,n9,H9⟩ ⟨Z3,s8,s9⟩;rw[kY.l0] at Z3;refine rc T 8 (ga T [5,6,7] 30 [0,1,2,3,9,10,11,12] 33 J J J J J J J (ro T 2 (cb J Z3 (λZ3=>?_) (λZ3=>?_))))
 ·refine rc T 8 ?_;obtain⟨c5,Z3⟩:=az Z3;obtain⟨K4,KY,qn⟩:=dm.addr c5.1 c5.2;refine ix T J qn c5 (bA J (fY T (cs:=[(ii (rd l bh).Kind),(ii (rd l bh).A),(ii (rd l bh).B)]) J J J J J J (iy (k:=EB) (rO dm 0) qn c5 J)) (nc T J (λiN=>sg T 4 J (ro T 2 (mq Z3 [0,1,2,3,9,10,11,12,13] [0,0,0,0,0] (λz20 (⟨dt,cM,c_,dA,lv,dh,n13,dI⟩:Int×Int×Int×List Int×Nat×Option Addr×Nat×Hp)=>((dt,cM,c_,dA)=z20/\aj (Fl.int .u8) 5 dA dh n13 dI,[(14,(pp lv))],[(cl lv 55 [(ii dt),(ii cM),(ii c_),(ll dh dA n13)]),dI])) J J (λz20 Z6 _=>?_) ?_)))))
  ·refine ks [0,1,2,3,9,10,11,12,13] J (fz J (rz [] mix (bH bG) (λhg pf=>ha T 12 [0] sz hg pf J (al T 1 4 sz hg pf J J J (ha T 8 [2,3,5] sz hg pf J (al T 6 4 sz hg pf J J J (ha T 5 [7,8] sz hg pf J (gK 4 11 ?_ ?_))))))))
   ·refine kh [] J kT Z6 (eW.c ·) (λv21 Z6=>an sz (gK 9 11 ?_ ?_))
    ·refine kh [] J kT Z6 (eW.c ·) (λv22 Z6=>an sz (ha T 2 [10] sz hg pf J (ao 11 (nw T J (λJf=>an (so [0,0,0,0,0]) (ao 12 (sf T 5 J (an (so [0,0,0,0,0]) (ae (rx T 1 (bz (am (_,_,_,_,_,_,_,_) [0,0,0,0,0,0,0] ⟨oi Z6,aj.nil⟩ J J))))))))))))
    refine nw T J (λoP=>an (so [0,0,0,0,0]) (ao 9 (kh [] J kT Z6 (eW.c ·) (λv23 Z6=>an (so [0,0,0,0,0]) (ha T 1 [10] (so [0,0,0,0,0]) hg pf J (ao 12 (sf T 5 J (an (so [0,0,0,0,0]) (ae (rx T 1 (bz (am (_,_,_,_,_,_,_,_) [0,0,0,0,0,0,0] ⟨oi Z6,aj.nil⟩ J J))))))))))))
   refine nw T J (λri=>an (so [0,0,0,0,0]) (ao 4 (kh [] J kT Z6 (eW.c ·) (λv24 Z6=>an (so [0,0,0,0,0]) (ao 9 (kh [] J kT Z6 (eW.c ·) (λv25 Z6=>an (so [0,0,0,0,0]) (ha T 1 [10] (so [0,0,0,0,0]) hg pf J (ao 12 (sf T 5 J (an (so [0,0,0,0,0]) (ae (rx T 1 (bz (am (_,_,_,_,_,_,_,_) [0,0,0,0,0,0,0] ⟨oi Z6,aj.nil⟩ J J)))))))))))))))
  rintro _ ⟨dt,cM,c_,dA,lv,dh,n13,dI⟩ ⟨rfl,cY⟩ Z3;refine mq Z3 [0,1,2,3,9,10,12,14] [0,2] (λXP (⟨km,mw,nD,jj,iH,rU,nF,oG,a17,n17,eU,jl,n18,fv⟩:Int×Int×List Int×Int×Int×Int×Int×List Int×Option Addr×Nat×Hp×Option Addr×Nat×Hp)=>((km,mw,nD,jj,iH,rU,nF,oG)=XP/\aj (Fl.int .u8) 5 nD a17 n17 eU/\aj (Fl.int .u8) 5 oG jl n18 fv,[(11,(ii jj))],[(cl b2 30 [(ii km),(ii mw),(ll a17 nD n17)]),eU,(cl lv 55 [(ii iH),(ii rU),(ii nF),(ll jl oG n18)]),fv])) J J (λXP ba _=>?_) ?_
  ·refine rc T 3 (lf T 4 J (k [] J kT ba (eW.c ·) (λv35 ba=>ro T 3 (mq ba [0,1,2,3,9,10,11,12,13,14,53] [0,0,0,0,0,0,0] (λz37 (xj:Bool)=>(xj=z37,[(55,(bb xj))],[])) J J (λz37 bY _=>?_) ?_))))
   ·refine rc T 6 (cb J bY (λbY=>?_) (λbY=>?_))
    ·refine rc T 2 (am _ [0,0,0,0,0,0,0] (oi bY) J J)
    refine rc T 6 (cb J bY (λbY=>?_) (λbY=>?_))
    ·refine rc T 2 (am _ [0,0,0,0,0,0,0] (oi bY) J J)
    refine rc T 5 (am _ [0,0,0,0,0,0,0] (oi bY) J J)
   rintro _ xj rfl ba;refine cb J ba (λba=>?_) (λba=>?_)
   ·refine rc T 2 (sg T 5 J (ro T 3 (am (_,_,_,_,_,_,_,_,_,_,_,_,_,_) [0,2,0,0,1,1] ⟨oi ba,s8,cY⟩ J J)))
   refine rc T 6 (cb J ba (λba=>?_) (λba=>?_))
   ·refine rc T 2 (lf T 4 J (k [] J kT ba (eW.c ·) (λpn ba=>ro T 1 (sg T 5 J (ro T 1 (sg T 5 J (ro T 3 (am (_,_,_,_,_,_,_,_,_,_,_,_,_,_) [0,2,0,0,1,1] ⟨oi ba,s8,cY⟩ J J))))))))
   refine rc T 6 (cb J ba (λba=>?_) (λba=>?_))
   ·refine rc T 2 (lf T 4 J (k [] J kT ba (eW.c ·) (λv39 ba=>ro T 1 (sg T 5 J (ro T 1 (sg T 5 J (ro T 1 (sg T 5 J (ro T 3 (am (_,_,_,_,_,_,_,_,_,_,_,_,_,_) [0,2,0,0,1,1] ⟨oi ba,s8,cY⟩ J J))))))))))
   refine mq ba [0,1,2,3,9,10,11,12,13,14,53] [0,0,0,0,0,0,0] (λz41 (gJ:Bool)=>(gJ=z41,[(75,(bb gJ))],[])) J J (λz41 kK _=>?_) ?_
   ·refine rc T 6 (cb J kK (λkK=>?_) (λkK=>?_))
    ·refine rc T 2 (am _ [0,0,0,0,0,0,0] (oi kK) J J)
    refine rc T 5 (am _ [0,0,0,0,0,0,0] (oi kK) J J)
   rintro _ gJ rfl ba;refine cb J ba (λba=>?_) (λba=>?_)
   ·refine rc T 2 (lf T 4 J (ro T 1 (k [] J NF ba (wN.c ·) (λLz ba=>ro T 2 (sg T 5 J (ro T 1 (sg T 5 J (ro T 3 (am (_,_,_,_,_,_,_,_,_,_,_,_,_,_) [0,2,0,0,1,1] ⟨oi ba,s8,cY⟩ J J)))))))))
   refine mq ba [0,1,2,3,9,10,11,12,13,14,53] [0,0,0,0,0,0,0] (λz44 (fO:Bool)=>(fO=z44,[(85,(bb fO))],[])) J J (λz44 FB _=>?_) ?_
   ·refine rc T 6 (cb J FB (λFB=>?_) (λFB=>?_))
    ·refine rc T 2 (am _ [0,0,0,0,0,0,0] (oi FB) J J)
    refine rc T 5 (am _ [0,0,0,0,0,0,0] (oi FB) J J)
   rintro _ fO rfl ba;refine cb J ba (λba=>?_) (λba=>?_)
   ·refine rc T 2 (sg T 5 J (ro T 3 (am (_,_,_,_,_,_,_,_,_,_,_,_,_,_) [0,2,0,0,1,1] ⟨oi ba,s8,cY⟩ J J)))
   refine rc T 6 (cb J ba (λba=>?_) (λba=>?_))
   ·refine rc T 2 (sg T 5 J (ro T 3 (bz (am (_,_,_,_,_,_,_,_,_,_,_,_,_,_) [0,2,0,0,1,2] ⟨oi ba,s8,aj.nil⟩ J J))))
   refine rc T 6 (cb J ba (λba=>?_) (λba=>?_))
   ·refine rc T 3 (lf T 4 J (ro T 4 (cb J ba (λba=>?_) (λba=>?_))))
    ·refine rc T 4 (lf T 4 J (ro T 4 (lf T 4 J (ro T 2 (kr lI.R [] [] J Tw ba (lI.c · (rO Gt 0) Ms) (λv45 ba=>?_))))));rintro _ _ ⟨ma,n19,kH,gP,rfl,rfl⟩;refine fz J (sg T 1 J (ro T 5 (lf T 1 J (ro T 5 (lm T 1 J (kr lJ.R [] [] J ND ba (lJ.c · (oO gP 7) gP.bZ) (λv46 ba=>?_)))))));rintro _ _ ⟨a20,n20,nI,lL,rfl,rfl⟩;refine fz J (ro T 1 (sg T 5 J (ro T 3 (am (_,_,_,_,_,_,_,_,_,_,_,_,_,_) [0,2,0,4,2,3] ⟨oi ba,gP,lL⟩ J J))))
    refine rc T 2 (lf T 4 J (k [] J kT ba (eW.c ·) (λqS ba=>ro T 2 (sg T 5 J (ro T 3 (bz (am (_,_,_,_,_,_,_,_,_,_,_,_,_,_) [0,2,0,0,1,2] ⟨oi ba,s8,aj.nil⟩ J J)))))))
   refine rc T 6 (cb J ba (λba=>?_) (λba=>?_))
   ·refine rc T 1 (lm T 4 J (ro T 1 (kr yD.R [] [] J adT ba (yD.c ·) (λIl ba=>?_))));rintro _ _ ⟨a21,n21,ln,jA,rfl,rfl⟩;refine fz J (sg T 5 J (ro T 3 (am (_,_,_,_,_,_,_,_,_,_,_,_,_,_) [0,2,0,0,1,2] ⟨oi ba,s8,jA⟩ J J)))
   refine rc T 2 (sg T 5 J (ro T 3 (bz (am (_,_,_,_,_,_,_,_,_,_,_,_,_,_) [0,2,0,0,1,2] ⟨oi ba,s8,aj.nil⟩ J J))))
  rintro _ ⟨km,mw,nD,jj,iH,rU,nF,oG,a17,n17,eU,jl,n18,fv⟩ ⟨rfl,fL,fM⟩ Z3;refine rc T 2 (lm T 4 J (gL [5] J (aV (FR (kd:=HH) (E:=55) (q:=5) (c:=[(ii iH),(ii rU),(ii nF),(ll jl oG n18)]) T (eG.mk iH rU nF oG) J J J J J J J J J J ⟨jl,n18,fv,fM,J,J⟩ (λa23 jC gD=>?_)))));obtain⟨c37,Z3⟩:=az Z3;refine aV (FQ (kd:=HH) (xs:=bl) (ys:=[(eG.mk iH rU nF oG)]) T (g:=1) (q:=6) J J J J J J J J J J s9 J J gD c37 J (λa24 n24 qZ kZ=>ro T 10 (ar (_,_,_,_,_,_,_,_,_,_,_,_) [0,1,1,0] ⟨Z3,fL,kZ⟩ J J)))
 refine rc T 12 ?_
 cases Z3;exact p1 T J [3,0] ⟨a9,n9,H9,s9,J,J⟩ J
end
noncomputable section
def xe.f (l:(List pI)) (n:Int):Option Int:=if(0<=(0:Int)/\(0:Int)<=(if n<(aa l:Int) then n else(aa l:Int))/\(if n<(aa l:Int) then n else(aa l:Int))<=(aa l:Int)) then(some (if n<(aa l:Int) then n else(aa l:Int))) else none
theorem xe.c (H:xe.f l n=some r) (dm:aO EB l gZ F) (gj:aa l<=gX):
 QU 13 [(ll gZ l gX),(ii n)] [] F (ll (gp gZ gX (ax 0) 3) (aA l 0 r) (gX-ax 0)):=by
 unfold xe.f at H;refine aF Tryz.func13 J J (λW=>rc T 12 ?_);obtain⟨c1,H⟩:=az H;refine bA J (kS T J J J J J J c1 gj) (ro T 4 ?_);obtain rfl:=Option.some.inj H;exact FU (T:=T) J (.tmp J .nil) (λw o=>⟨(),J,Db [0] J o⟩)
theorem xe.b {l:(List pI)} {n:Int} {r:Int} (H:xe.f l n=some r):(0<=(0:Int)/\(0:Int)<=r/\r<=(aa l:Int)):=by
 unfold xe.f at H;obtain⟨c,H⟩:=az H;obtain rfl:=Option.some.inj H;exact c
def oC.l0:Nat->(List eG)->cg->Int->Option (Option cg)
 |0,_,_,_=>none
 |k7+1,v2,x5,x6=>if x6<(aa v2:Int) then(if(0<=x6/\x6<(aa v2:Int)) then((mu.f x5 (rd v2 x6)).bind λv8=>oC.l0 k7 v2 v8.2 (af (x6+1))) else none) else((tf.f x5).bind λv9=>(Dj.f v9).bind λv10=>if(!v10)=true then(some none) else(some (some x5)))
def oC.f (ag:Int) (most:Int) (w:Int) (h:Int) (p4:(List Int)) (l:(List pI)):Option (Option cg):=(vC.f ag most).bind λv1=>dM v1 (some none) (λeT=>(kY.f w h p4 l).bind λv2=>oC.l0 fuel v2 eT 0)
def oC.R (el:Nat->Addr) (r:(Option cg)):bj:=λu G=> ∃(u0:Value) (G0:List Hp),Qm r u0 G0/\u=u0/\G=G0
theorem oC.c (H:oC.f ag most w h p4 l=some r) (hG:fP 414 fc gW el F) (ab1:aO (Fl.int .u8) p4 Yz F) (aau:aa p4<=af4) (dm:aO EB l gZ F) (gj:aa l<=gX):
 QR 11 [(ii ag),(ii most),(ii w),(ii h),(ll Yz p4 af4),(ll gZ l gX)] [] [] F (oC.R el r):=by
 unfold oC.f at H;refine aF Tryz.func11 J J (λW=>rc T 9 (kr vC.R [] [] J Tc H (vC.c ·) (λv1 H=>?_)));rintro _ _ ⟨_,_,O2,rfl,rfl⟩;rcases v1 with _ |eT
 ·replace H:=fj J H;obtain⟨rfl,rfl⟩:=O2;refine ro T 10 (nS J (rc T 7 ?_))
  cases H;exact p1 T J [0] ⟨_,_,⟨J,J⟩,J,J⟩ J
 replace H:=fk J H;obtain⟨b1,H1,s1,rfl,rfl⟩:=O2;refine ro T 10 (eN J (rc T 8 (kr kY.R [] [] J acP H (kY.c · (rO ab1 0) aau (rO dm 0) gj) (λv2 H=>?_))));rintro _ _ ⟨a2,n2,H2,s2,rfl,rfl⟩;refine fz J (ro T 10 (lq [13,14] [0,1] (λ(⟨k7,x5,x6,H4⟩:Nat×cg×Int×Hp)=>(oC.l0 k7 v2 x5 x6=some r/\fw x5 b1 H4,[(15,(ii x6))],[H4])) J J (fuel,eT,0,H1) [0,1,0] ⟨H,s1⟩ J J ?_));rintro k7 ⟨x5,x6,H4⟩ ⟨Z4,s4⟩;rw[oC.l0] at Z4;refine rc T 9 (cd J Z4 (λZ4=>?_) (λZ4=>?_))
 ·refine rc T 8 ?_;obtain⟨c6,Z4⟩:=az Z4;obtain⟨q5,o5,e5⟩:=s2.r.addr c6.1 c6.2;refine ix T J e5 c6 ?_;obtain⟨_,w7,⟨a6,n6,⟨r6,m6⟩,rfl⟩⟩:=nQ.view s2.r c6;refine bA J (fY T (cs:=[(ii (rd v2 x6).Kind),(ii (rd v2 x6).A),(ii (rd v2 x6).B),(ll a6 (rd v2 x6).Map n6)]) J J J J J J (Oy (j:=1) J w7 e5 0 J)) (kr (mu.R el b1) [] [2] J Gy Z4 (mu.c · (dF hG (j:=0) J) s4 (rO r6 1) m6) (λv8 Z4=>?_));rintro _ _ ⟨a8,n8,H8,a9,n9,H9,bT,s8,s9,bL,rfl,rfl⟩;refine fz J (ro T 9 (ar (_,_,_) [0,0,2] ⟨Z4,bL⟩ J J))
 refine rc T 9 (kr tf.R [2] [2] J SL Z4 (tf.c · s4) (λv9 Z4=>?_));rintro _ _ ⟨dj,n11,cH,cX,rfl,rfl⟩;refine fz J (k [] J adP Z4 (Dj.c · (oO cX 2) cX.bZ) (λv10 Z4=>ro T 3 (cb J Z4 (λZ4=>?_) (λZ4=>?_))))
 ·refine rc T 7 ?_
  cases Z4;exact p1 T J [0] ⟨_,_,⟨J,J⟩,J,J⟩ J
 refine rc T 9 ?_
 cases Z4;exact p1 T J [3,0] ⟨_,_,⟨b1,H4,s4,J,J⟩,J,J⟩ J
def Fc.f:Option Bool:=(vC.f 1 2).bind λv1=>dM v1 (some false) (λeT=>(lJ.f (aG.mk 3 1 [5,2,9])).bind λv2=>(mu.f eT (eG.mk 1 0 0 v2)).bind λv3=>(mu.f v3.2 (eG.mk 3 0 2 [])).bind λv4=>(mu.f v4.2 (eG.mk 6 2 0 [])).bind λv5=>(mu.f v5.2 (eG.mk 7 0 0 [])).bind λv6=>(if(v3.1.Code==0)=true then(if(v4.1.Id==0)=true then(if(v5.1.D==11)=true then(if(v5.1.cx==1)=true then((wS.f v6.1.iK [(gv.mk 0 1)]).bind λv9=>if v9=true then((BF.f v6.2).bind λv10=>some ((aa v10:Int)==1)) else(some false)) else(some false)) else(some false)) else(some false)) else(some false)).bind λx7=>some x7)
theorem Fc.c (H:Fc.f=some r) (hG:fP 414 fc gW el F):
 QU 18 [] [] F (bb r):=by
 unfold Fc.f at H;refine aF Tryz.func18 J J (λW=>rc T 7 (kr vC.R [] [] J Tc H (vC.c ·) (λv1 H=>?_)));rintro _ _ ⟨_,_,O2,rfl,rfl⟩;rcases v1 with _ |eT
 ·replace H:=fj J H;obtain⟨rfl,rfl⟩:=O2;refine ro T 10 (nS J (rc T 7 ?_))
  cases H;exact p0 T J [0] J
 replace H:=fk J H;obtain⟨b1,H1,s1,rfl,rfl⟩:=O2;refine ro T 10 (eN J (rc T 4 (aV (cW (k:=(Fl.int .u8)) T [5,2,9] J J J J J J J J J (λa2 H2 s2=>ro T 1 (nc T J (λb3=>sg T 3 J (ro T 5 (lm T 3 J (kr lJ.R [] [] J ND H (lJ.c (m:=(aG.mk 3 1 [5,2,9])) · (oO s2 2) s2.bZ) (λv2 H=>?_)))))))))));rintro _ _ ⟨a4,n4,H4,s4,rfl,rfl⟩;refine fz J (ro T 1 (kr (mu.R el b1) [] [1] J Gy H (mu.c (o:=(eG.mk 1 0 0 v2)) · (dF hG (j:=0) J) s1 (oO s4 3) s4.bZ) (λv3 H=>?_)));rintro _ _ ⟨a5,n5,H5,a6,n6,H6,H7,s5,s6,s7,rfl,rfl⟩;refine fz J (nc T J (λb8=>sg T 7 J (ro T 1 (ke [1,3] [0,3,3,3,3] J J (rx T 5 (kr (mu.R el b1) [] [3] J Gy H (mu.c (o:=(eG.mk 3 0 2 [])) · (dF hG (j:=0) J) s7 (.inl J) (jW _)) (λv4 H=>?_)))))));rintro _ _ ⟨a9,n9,H9,cC,n10,bT,cH,s9,bL,cX,rfl,rfl⟩;refine fz J (nc T J (λlv=>sg T 7 J (ro T 6 (kr (mu.R el b1) [] [6] J Gy H (mu.c (o:=(eG.mk 6 2 0 [])) · (dF hG (j:=0) J) cX (.inl J) (jW _)) (λv5 H=>?_)))));rintro _ _ ⟨dh,n13,dI,gU,n14,fp,dP,cY,fT,dS,rfl,rfl⟩;refine fz J (nc T J (λri=>sg T 10 J (ro T 6 (kr (mu.R el b1) [] [9] J Gy H (mu.c (o:=(eG.mk 7 0 0 [])) · (dF hG (j:=0) J) dS (.inl J) (jW _)) (λv6 H=>?_)))));rintro _ _ ⟨a17,n17,eU,jl,n18,fv,kH,fL,fM,gP,rfl,rfl⟩;refine fz J (nc T J (λJg=>sg T 13 J (ro T 1 (ks [1,3,4,5,6] J (rx T 1 (mq H [] [0] (λz8 (x7:Bool)=>(x7=z8,[(0,(bb x7))],[])) J J (λz8 Z8 _=>?_) ?_))))))
 ·refine rc T 2 (lf T 3 J (ro T 2 (ab 29 J Z8 (λZ8=>?_) (λZ8=>?_))))
  ·refine ro T 1 (lf T 6 J (ro T 3 (ab 34 J Z8 (λZ8=>?_) (λZ8=>?_))))
   ·refine ro T 1 (lf T 9 J (ro T 3 (ab 39 J Z8 (λZ8=>?_) (λZ8=>?_))))
    ·refine ro T 1 (lf T 9 J (ro T 3 (ab 44 J Z8 (λZ8=>?_) (λZ8=>?_))))
     ·refine ro T 1 (lf T 13 J (ro T 1 (aV (cW (k:=jM) T [(gv.mk 0 1)] J J J J J J J J J (λa21 ln jA=>k [] J adS Z8 (wS.c (b:=[(gv.mk 0 1)]) · (oO fL 10) fL.bZ (oO jA 14) jA.bZ) (λv9 Z8=>ro T 2 (ab 51 J Z8 (λZ8=>?_) (λZ8=>?_))))))))
      ·refine ro T 1 (kr BF.R [12] [12] J ac5 Z8 (BF.c · gP) (λv10 Z8=>?_));rintro _ _ ⟨a22,n22,mz,iz,rfl,rfl⟩;refine fz J (ro T 6 (am _ [0] (oi Z8) J J))
      refine ro T 8 (am _ [0] (oi Z8) J J)
     refine ro T 15 (am _ [0] (oi Z8) J J)
    refine ro T 20 (am _ [0] (oi Z8) J J)
   refine ro T 25 (am _ [0] (oi Z8) J J)
  refine ro T 30 (am _ [0] (oi Z8) J J)
 rintro _ x7 rfl H;refine rc T 1 ?_
 cases H;exact p0 T J [0] J
end
noncomputable section
def pj.l0:Nat->aG->(List (Int×Int))->Int->Int->cg->Int->Option Bool
 |0,_,_,_,_,_,_=>none
 |pL+1,v4,v5,v6,v8,a_,bl=>if bl<(aa (v5++[(v6,v8)]):Int) then(if(0<=bl/\bl<(aa (v5++[(v6,v8)]):Int)) then((Aa.f v4.W v4.H ((rd (v5++[(v6,v8)]) bl).1)).bind λdT=>if(!dT)=true then(some false) else(((vD.f a_ ((rd (v5++[(v6,v8)]) bl).1) ((rd (v5++[(v6,v8)]) bl).2)).bind λv20=>some (v20.2.2,v20.1.cN,v20.1.cx,v20.2.1)).bind λ(cn,dt,cM,c_)=>(if(c_ !=0)=true then(some true) else(if(0<=bl/\bl<(aa (v5++[(v6,v8)]):Int)) then((oh.f v4 ((rd (v5++[(v6,v8)]) bl).1) ((rd (v5++[(v6,v8)]) bl).2)).bind λv24=>(EN.f (eJ.mk dt cM) v24).bind λv25=>some (!v25)) else none)).bind λbI=>if bI=true then(some false) else(pj.l0 pL v4 v5 v6 v8 cn (af (bl+1))))) else none) else((Fc.f).bind λv26=>some v26)
def pj.f (ag:Int) (w:Int) (h:Int) (p3:(List Int)) (l:(List pI)) (goal:Int) (bB:Int):Option Bool:=(eW.f ag 1 5).bind λv1=>(xe.f l 30).bind λv2=>(oC.f v1 5 w h p3 (aA l 0 v2)).bind λv3=>dM v3 (some false) (λrW=>(tf.f rW).bind λv4=>(yJ.f rW).bind λv5=>(eW.f goal 0 (af ((aa v4.C:Int)-1))).bind λv6=>(wO.f v4.W v4.H).bind λv7=>(eW.f bB 0 (af (v7-1))).bind λv8=>if(aa v5+1<=1099511627776) then(pj.l0 fuel v4 v5 v6 v8 rW 0) else none)
theorem pj.c (H:pj.f ag w h p3 l goal bB=some r) (hG:fP 414 fc gW el F) (ab0:aO (Fl.int .u8) p3 Yy F) (aat:aa p3<=af3) (dm:aO EB l gZ F) (gj:aa l<=gX):
 QU 9 [(ii ag),(ii w),(ii h),(ll Yy p3 af3),(ll gZ l gX),(ii goal),(ii bB)] [] F (bb r):=by
 unfold pj.f at H;refine aF Tryz.func9 J J (λW=>rc T 8 (k [] J kT H (eW.c ·) (λv1 H=>ro T 4 ?_)));obtain⟨v2,V2,H⟩:=gx H;have c3:=xe.b V2;refine aV (tI (B:=λ_=>[]) [] J J J J acg J J (xe.c V2 (rO dm 0) gj) (λ_=>kr (oC.R el) [] [] J ab5 H (oC.c · (dF hG (j:=0) J) (rO ab0 0) aat (nC (rO dm 0) c3 gj) (mW c3 gj)) (λv3 H=>?_)));rintro _ _ ⟨_,_,O5,rfl,rfl⟩;rcases v3 with _ |rW
 ·replace H:=fj J H;obtain⟨rfl,rfl⟩:=O5;refine ro T 10 (nS J (rc T 7 ?_))
  cases H;exact p0 T J [0] J
 replace H:=fk J H;obtain⟨b1,H1,s1,rfl,rfl⟩:=O5;refine ro T 10 (eN J (rc T 5 (kr tf.R [1] [1] J SL H (tf.c · s1) (λv4 H=>?_))));rintro _ _ ⟨a2,n2,H2,s2,rfl,rfl⟩;refine fz J (nc T J (λb3=>sg T 3 J (ro T 3 (ks [5,6,15,16] J (fz J (rg [] [0,0,0,0] mix (bH bG) (λhg pf=>ha T 17 [0,2,3] sz hg pf J (al T 4 3 sz hg pf J J J (ha T 12 [5,6,8,9] sz hg pf J (al T 10 3 sz hg pf J J J (ha T 10 [11] sz hg pf J (al T 12 3 sz hg pf J J J (ao 1 (kR yJ.R [2] [2] J adM H (yJ.c · s1) (λv5 H=>?_)))))))))))))));rintro _ _ ⟨a4,n4,H4,s4,rfl,rfl⟩;refine fz J (an (so [0,0,2,0]) (ao 7 (kh [] J kT H (eW.c ·) (λv6 H=>an (so [0,0,2,0]) (ao 13 (kh [] J Ny H (wO.c ·) (λv7 H=>an (so [0,0,2,0]) (ha T 5 [14] (so [0,0,2,0]) hg pf J (ao 15 (kh [] J kT H (eW.c ·) (λv8 H=>an (so [0,0,2,0]) (av 16 (so [0,0,2,0]) hg pf J (Gf T J J J J J J) (ao 17 (cW (k:=(Fl.pair .i64)) T [(v6,v8)] J J J J J J J J J (λa5 H5 s5=>an (so [0,0,2,0]) (ao 18 ?_))))))))))))))));obtain⟨dK,H⟩:=az H;refine dQ (k:=(Fl.pair .i64)) (xs:=v5) T (g:=3) J J J J J J J J J J s4 (oO s5 5) dK J (λa6 n6 H6 s6=>an (so [0,0,2,0]) (ha T 0 [19] (so [0,0,2,0]) hg pf J (ae (rx T 8 (lq [15,16,17] [0,1,0,0] (λ(⟨pL,a_,bl,H8⟩:Nat×cg×Int×Hp)=>(pj.l0 pL v4 v5 v6 v8 a_ bl=some r/\fw a_ b1 H8,[(18,(ii bl))],[H8])) J J (fuel,rW,0,H1) [0,1,0,0,0] ⟨H,s1⟩ J J ?_)))));rintro pL ⟨a_,bl,H8⟩ ⟨ba,s8⟩;rw[pj.l0] at ba;refine rc T 9 (cd J ba (λba=>?_) (λba=>?_))
 ·refine rc T 6 (dw mix aB (au T J (cD T 1 J J J (au T J (cD T 1 J J J (au T J (au T J ?_)))))));obtain⟨jo,ba⟩:=az ba;obtain⟨q9,o9,e9⟩:=s6.r.addr jo.1 jo.2;refine bf J J J (cu T J J J J J e9 jo.1 jo.2) (bf J J J (Gg (j:=0) T J J J J J J) (bf J J J (cw T J J J J (eH (k:=(Fl.pair .i64)) (oO s6 3) e9 jo 0 J)) ?_));obtain⟨dT,IZ,ba⟩:=gx ba;refine uU J J J J J J Tu J (Aa.c IZ) (au T J (cO (rx T 1 (cb J ba (λba=>?_) (λba=>?_)))))
  ·refine rc T 12 ?_
   cases ba;exact p0 T J [0] J
  refine rc T 2 (mq ba [15,16,17,18] [0,0,0,0] (λFm (⟨cn,dt,cM,c_,bT,iN,a12,n12,dq,dh,n13,dI⟩:cg×List Int×List Int×Int×Hp×Nat×Option Addr×Nat×Hp×Option Addr×Nat×Hp)=>((cn,dt,cM,c_)=Fm/\fw cn b1 bT/\aj (Fl.int .i64) 3 dt a12 n12 dq/\aj (Fl.int .i64) 3 cM dh n13 dI,[(19,(pp iN)),(20,(ii c_))],[bT,(cl iN 79 [(ll a12 dt n12),(ll dh cM n13)]),dq,dI])) J J (λFm sj _=>?_) ?_)
  ·refine fz J (rz [11] mix (bH bG) (λhg pf=>ha T 15 [0,1,2] sz hg pf J (av 3 sz hg pf J (cu T J J J J J e9 jo.1 jo.2) (av 4 sz hg pf J (Gg (j:=0) T J J J J J J) (av 5 sz hg pf J (cw T J J J J (eH (k:=(Fl.pair .i64)) (oO s6 3) e9 jo 0 J)) (ha T 10 [6,7] sz hg pf J (av 8 sz hg pf J (cu T J J J J J e9 jo.1 jo.2) (av 9 sz hg pf J (Gg (j:=1) T J J J J J J) (av 10 sz hg pf J (cw T J J J J (eH (k:=(Fl.pair .i64)) (oO s6 3) e9 jo 1 J)) (gK 11 15 ?_ ?_))))))))))
   ·refine kR (vD.R el b1) [] [4] J Tv sj (vD.c · (dF hG (j:=0) J) s8) (λv20 sj=>?_);rintro _ _ ⟨gU,n14,fp,jX,n15,dP,ft,fT,dS,eB,rfl,rfl⟩;refine fz J (an sl (hb T 12 sl hg pf J (hb T 13 sl hg pf J (hb T 14 sl hg pf J (ao 15 (nw T J (λAR=>an sl (ao 16 (sf T 7 J (an sl (hb T 17 sl hg pf J (ae (rx T 1 (am (_,_,_,_,_,_,_,_,_,_,_,_) [0,0,0,0,2,2,0,0] ⟨oi sj,eB,fT,dS⟩ J J))))))))))))))
   refine nw T J (λqi=>an (so [0,0,0,0,0]) (ao 11 (kR (vD.R el b1) [] [4] J Tv sj (vD.c · (dF hG (j:=0) J) s8) (λv21 sj=>?_))));rintro _ _ ⟨ma,n19,kH,a20,n20,nI,ln,gP,lL,jA,rfl,rfl⟩;refine fz J (an sl (hb T 12 sl hg pf J (hb T 13 sl hg pf J (hb T 14 sl hg pf J (ao 16 (sf T 4 J (an sl (hb T 17 sl hg pf J (ae (rx T 1 (am (_,_,_,_,_,_,_,_,_,_,_,_) [0,0,0,0,3,0,0,0] ⟨oi sj,jA,gP,lL⟩ J J)))))))))))
  rintro _ ⟨cn,dt,cM,c_,bT,iN,a12,n12,dq,dh,n13,dI⟩ ⟨rfl,bL,dE,cY⟩ ba;refine mq ba [15,16,17,18] [0,3,0,0,0] (λz23 (bI:Bool)=>(bI=z23,[(102,(bb bI))],[])) J J (λz23 mH _=>?_) ?_
  ·refine fz J (rz [] mix (bH bG) (λhg pf=>ha T 16 [0,1,2] sz hg pf J (ab 86 J mH (λmH=>?_) (λmH=>?_))))
   ·refine ha T 0 [3,4,5,6,7,8,9,10,11,12,13,14,15,16,17,18] sz hg pf J (ae (rx T 1 (am _ [0,3,0,0,0] (oi mH) J J)))
   refine av 3 sz hg pf J (gA T 5 J J J J J J J) (av 4 sz hg pf J (gA T 1 J J J J J J J) (ha T 12 [5,6] sz hg pf J ?_));obtain⟨pC,mH⟩:=az mH;obtain⟨q22,o22,Jo⟩:=s6.r.addr pC.1 pC.2;refine av 7 sz hg pf J (cu T J J J J J Jo pC.1 pC.2) (av 8 sz hg pf J (Gg (j:=0) T J J J J J J) (av 9 sz hg pf J (cw T J J J J (eH (k:=(Fl.pair .i64)) (oO s6 3) Jo pC 0 J)) (ha T 7 [10,11] sz hg pf J (av 12 sz hg pf J (cu T J J J J J Jo pC.1 pC.2) (av 13 sz hg pf J (Gg (j:=1) T J J J J J J) (av 14 sz hg pf J (cw T J J J J (eH (k:=(Fl.pair .i64)) (oO s6 3) Jo pC 1 J)) (ao 15 (kR oh.R [] [] J adO mH (oh.c · (oO s2 2) s2.bZ) (λv24 mH=>?_)))))))));rintro _ _ ⟨a23,n23,jC,a24,n24,qZ,gD,kZ,rfl,rfl⟩;refine fz J (an (so [0,0,0,0,0,0,0,0]) (ao 16 (kh [] J adN mH (EN.c (a:=(eJ.mk dt cM)) · (oO dE 6) dE.bZ (oO cY 7) cY.bZ (oO gD 8) gD.bZ (oO kZ 9) kZ.bZ) (λv25 mH=>an (so [0,0,0,0,0,0,0,0]) (ha T 0 [17,18] (so [0,0,0,0,0,0,0,0]) hg pf J (ae (rx T 1 (am _ [0,3,0,0,0] (oi mH) J J))))))))
  rintro _ bI rfl ba;refine cb J ba (λba=>?_) (λba=>?_)
  ·refine rc T 11 ?_
   cases ba;exact p0 T J [0] J
  refine rc T 9 (ar (_,_,_) [0,1,1,1,0] ⟨ba,bL⟩ J J)
 refine rc T 7 (k [] J acD ba (Fc.c · (dF hG (j:=0) J)) (λv26 ba=>ro T 4 ?_))
 cases ba;exact p0 T J [0] J
def pj.Pure:Prop:= ∀(ag:Int) (w:Int) (h:Int) (p3:(List Int)) (l:(List pI)) (goal:Int) (bB:Int),tZ ag->tZ w->tZ h->(∀y∈p3,dV y)->(∀y∈l,(tZ y.Kind/\tZ y.A/\tZ y.B))->tZ goal->tZ bB->aa p3<=9223372036854775807->aa l<=9223372036854775807->pj.f ag w h p3 l goal bB=some true
end
end Go.Proofs.YthodkonhneebbaaGreatDoor
