/- What the functions of some packages compute, each as a function of plain Lean, with its contract. No condition. -/
import Derived.Test.YthodkonhneebbaaGreatDoorKST
import Derived.Test.YthodkonhneebbaaGreatDoorKS6
import Derived.Test.YthodkonhneebbaaGreatDoorKS7
import Derived.Test.YthodkonhneebbaaGreatDoorKS12
import Derived.Test.YthodkonhneebbaaGreatDoorKS5
namespace Go.Proofs.YthodkonhneebbaaGreatDoor
open Go.Hx
set_option maxRecDepth 100000
set_option linter.unusedSimpArgs false
set_option linter.unusedVariables false
set_option maxHeartbeats 4000000
set_option autoImplicit true
set_option relaxedAutoImplicit true
noncomputable section
def nZ.f (ag:Int) (most:Int):Option (Option bH):=if(((decide (ag<1))||(decide (most<1)))||(decide (most>65536)))=true then(some none) else((xO.f ag).bind λv1=>cT v1 (none) (λfm=>some (some (bH.mk most fm none))))
def nZ.R (r:(Option bH)):bg:=λu G=> ∃(u0:Value) (G0:List Hp),Yv r u0 G0/\u=u0/\G=G0
theorem nZ.c (H:nZ.f ag most=some r):
 QR 21 [(ii ag),(ii most)] [] [] F (nZ.R r):=by
 unfold nZ.f at H;refine aD Tryz.func21 J J (λW=>rc T 11 (go T [3,4,5] 7 [0,1] 10 J J J J J J J (ro T 1 (go T [7,8,9] 11 [0,1] 14 J J J J J J J (ro T 2 (cb J H (λH=>?_) (λH=>?_)))))))
 ·refine rc T 7 ?_
  cases H;exact p1 T J [0] ⟨_,_,⟨J,J⟩,J,J⟩ J
 refine rc T 6 (kr xO.R [] [] J aes H (xO.c ·) (λv1 H=>?_));rintro _ _ ⟨_,_,O3,rfl,rfl⟩;rcases v1 with _ |fm
 ·replace H:=eW J H
  cases H
 replace H:=eX J H;obtain⟨b1,H1,s1,rfl,rfl⟩:=O3;refine ro T 1 (nc T J (λb2=>fz J (ro T 4 ?_)))
 cases H;refine aq J (gq [2,1,1] J (p1 T J [1,0] ⟨_,_,⟨b2,(List.flatten [(cl b2 103 [(ii most),(pp b1),(.pointer none)]),H1,[]]),(show fQ (bH.mk most fm none) b2 (List.flatten [(cl b2 103 [(ii most),(pp b1),(.pointer none)]),H1,[]]) from⟨b1,H1,(.pointer none),[],s1,(show BT none (.pointer none) [] from⟨J,J⟩),J⟩),J,J⟩,J,J⟩ J))
def oa.f (s:bH) (o:cR):Option Er:=if(o.Kind==3)=true then((qk.f s.nav o.B).bind λv1=>if(v1==0)=true then(some (Er.num 148 7)) else((qk.f s.nav o.A).bind λv2=>if(v2==0)=true then(some (Er.num 148 7)) else(some Er.nil))) else(if(o.Kind==2)=true then((qk.f s.nav o.A).bind λv3=>if(v3==0)=true then(some (Er.num 148 7)) else(some Er.nil)) else(some Er.nil))
def oa.R (el:Nat->Addr) (r:Er):bg:=λu G=> ∃(v0:Value) (H0:Hp),gp 414 el r v0 H0/\u=v0/\G=[H0]
theorem oa.c (H:oa.f s o=some r) (hG:fW 414 fp iw el F) (cX:fQ s bh dQ) (AL:aP (Fl.int .u8) o.Map B3 F) (Ax:List.length o.Map<=C0):
 QR 83 [(pp bh),(.agg #[(ii o.Kind),(ii o.A),(ii o.B),(ll B3 o.Map C0)])] [dQ] [dQ] F (oa.R el r):=by
 unfold oa.f at H;refine aD Tryz.func83 J J (λW=>rc T 2 (nc T J (λb2=>fz J (ro T 7 (lf T 2 J (ro T 15 (cb J H (λH=>?_) (λH=>?_))))))))
 ·refine rc T 6 ?_;obtain⟨b4,H4,yj,H5,s4,s5,dy⟩:=(λx=>x) cX;refine bS 0 (congrArg some dy) (fz J (dx mix ay (au T J (au T J (au T J (aO J J J (aw T J J J J (aK (j:=2) J J)) (au T J (aO J J J (aw T J J J J (aK (j:=1) J J)) ?_))))))));obtain⟨v1,V2,H⟩:=gu H;refine xf [3] J J J J J J J2 J (qk.c V2 s4) (au T J (dh (rx T 1 (cb J H (λH=>?_) (λH=>?_)))))
  ·refine rc T 2 (br J (iu T J J J J) (ro T 8 ?_))
   cases H;refine cq [2,2,2] J dy (aq J (p1 T J [3,2,0] ⟨(.iface 148 (ii 7)),[],rN,J,J⟩ J))
  refine rc T 5 (dx mix ay (au T J (au T J (au T J (aO J J J (aw T J J J J (aK (j:=2) J J)) (au T J (aO J J J (aw T J J J J (aK (j:=1) J J)) ?_)))))));obtain⟨v2,V4,H⟩:=gu H;refine xf [3] J J J J J J J2 J (qk.c V4 s4) (au T J (dh (rx T 1 (cb J H (λH=>?_) (λH=>?_)))))
  ·refine rc T 2 (br J (iu T J J J J) (ro T 7 ?_))
   cases H;refine cq [2,2,2] J dy (aq J (p1 T J [3,2,0] ⟨(.iface 148 (ii 7)),[],rN,J,J⟩ J))
  refine rc T 11 ?_
  cases H;refine cq [2,2,2] J dy (aq J (p1 T J [3,2,0] ⟨.nilIface,[],uG,J,J⟩ J))
 refine rc T 8 (cb J H (λH=>?_) (λH=>?_))
 ·refine rc T 8 ?_;obtain⟨gd,b_,LI,cz,bP,c_,Gn⟩:=(λx=>x) cX;refine bS 0 (congrArg some Gn) (fz J (dx mix ay (au T J (au T J (au T J (aO J J J (aw T J J J J (aK (j:=2) J J)) (au T J (aO J J J (aw T J J J J (aK (j:=1) J J)) ?_))))))));obtain⟨v3,V7,H⟩:=gu H;refine xf [3] J J J J J J J2 J (qk.c V7 bP) (au T J (dh (rx T 1 (cb J H (λH=>?_) (λH=>?_)))))
  ·refine rc T 2 (br J (iu T J J J J) (ro T 7 ?_))
   cases H;refine cq [2,2,2] J Gn (aq J (p1 T J [3,2,0] ⟨(.iface 148 (ii 7)),[],rN,J,J⟩ J))
  refine rc T 11 ?_
  cases H;refine cq [2,2,2] J Gn (aq J (p1 T J [3,2,0] ⟨.nilIface,[],uG,J,J⟩ J))
 refine rc T 15 ?_
 cases H;refine aq J (p1 T J [3,0,0] ⟨.nilIface,[],uG,J,J⟩ J)
def fO.f (code:Int):Option Er:=if(code==0)=true then(some Er.nil) else(some (Er.num 148 code))
def fO.R (el:Nat->Addr) (r:Er):bg:=λu G=> ∃(v0:Value) (H0:Hp),gp 414 el r v0 H0/\u=v0/\G=[H0]
theorem fO.c (H:fO.f code=some r) (hG:fW 414 fp iw el F):
 QR 88 [(ii code)] [] [] F (fO.R el r):=by
 unfold fO.f at H;refine aD Tryz.func88 J J (λW=>rc T 12 (cb J H (λH=>?_) (λH=>?_)))
 ·refine rc T 7 ?_
  cases H;refine aq J (p1 T J [1,0] ⟨.nilIface,[],uG,J,J⟩ J)
 refine rc T 5 (br J (iu T J J J J) (ro T 4 ?_))
 cases H;refine aq J (p1 T J [1,0] ⟨(.iface 148 (ii code)),[],rN,J,J⟩ J)
def ue.f (s:bH) (b:(List Int)):Option (Er×bH):=(xe.f b).bind λv1=>if(v1.2 !=0)=true then(some ((Er.num 148 6),s)) else((u7.f s.nav v1.1).bind λv2=>if(v2.1==0)=true then((vD.f v1.1.W v1.1.H s.most).bind λv3=>cT v3 (none) (λAd=>(fO.f v2.1).bind λv4=>some (v4,(bH.mk s.most v2.2 (some Ad))))) else((fO.f v2.1).bind λv5=>some (v5,(bH.mk s.most v2.2 s.cZ))))
def ue.R (el:Nat->Addr) (nz:Nat) (r:(Er×bH)):bg:=λu G=> ∃(v0:Value) (H0:Hp) (H1:Hp),gp 414 el r.1 v0 H0/\fQ r.2 nz H1/\u=v0/\G=[H0,H1]
theorem ue.c (H:ue.f s b=some r) (hG:fW 414 fp iw el F) (cX:fQ s bh dQ) (fh:aP (Fl.int .u8) b gY F) (fJ:List.length b<=gP):
 QR 84 [(pp bh),(ll gY b gP)] [dQ] [] F (ue.R el bh r):=by
 unfold ue.f at H;refine aD Tryz.func84 J J (λW=>rc T 8 (kr (xe.R el) [] [] J acN H (xe.c · (dG hG (j:=1) J) (rO fh 1) fJ) (λv1 H=>?_)));rintro _ _ ⟨a2,n2,H2,s2,rfl,rfl⟩;refine fz J (ro T 3 (nc T J (λb3=>fz J (j3 T 3 J (ro T 10 (cb J H (λH=>?_) (λH=>?_)))))))
 ·refine rc T 2 (br J (iu T J J J J) (ro T 5 ?_))
  cases H;refine aq J (p1 T J [4,0,0] ⟨(.iface 148 (ii 6)),[],dQ,rN,cX,J,J⟩ J)
 refine rc T 4 ?_;obtain⟨b6,H6,wQ,H7,s6,s7,rS⟩:=(λx=>x) cX;refine bS 0 (congrArg some rS) (fz J (ks [0,5] J (fz J (rz [5] mix (bO bN) (λhg pf=>ha T 4 [0,1,2] sz hg pf J (av 3 sz hg pf J (aw T J J J J (aK (j:=3) J J)) (av 4 sz hg pf J (gA T 2 J J J J J J J) (ao 5 (kR (u7.R b6) [] [4] J acO H (u7.c · s6 (oO s2 1) s2.bT) (λv2 H=>?_))))))))));rintro _ _ ⟨H8,s8,rfl,rfl⟩;refine fz J (an sl (hb T 6 sl hg pf J (ae (rx T 7 (cb J H (λH=>?_) (λH=>?_))))))
 ·refine ks [0,5,6] J (fz J (rq [12] [0,0,0,0,0,0] J mix (bO bN) (λhg pf=>ha T 11 [0,1] sz hg pf J (av 2 sz hg pf J (aw T J J J J (aK (j:=2) J J)) (ha T 9 [3] sz hg pf J (av 4 sz hg pf J (aw T J J J J (aK (j:=2) J J)) (ha T 5 [5,6,7] sz hg pf J (av 8 sz hg pf J (aw T J J J J (aK (j:=3) J J)) (ao 9 (kR vD.R [] [] J acP H (vD.c ·) (λv3 H=>?_)))))))))));rintro _ _ ⟨_,_,O6,rfl,rfl⟩;rcases v3 with _ |Ad
  ·replace H:=eW J H
   cases H
  replace H:=eX J H;obtain⟨b9,H9,s9,rfl,rfl⟩:=O6;refine an (so [0,0,0,0,0,0]) (ha T 1 [10,11] (so [0,0,0,0,0,0]) hg pf J (ao 12 (jj T 3 J (an sl (ae (rx T 4 (kr (fO.R el) [] [] J vP H (fO.c · (dG hG (j:=0) J)) (λv4 H=>?_))))))));rintro v10 _ ⟨v10,b_,bP,rfl,rfl⟩;refine fz J (ro T 4 ?_)
  cases H;refine gq [6] J (gq [3,4,5] J (p1 T J [4,4,0] ⟨v10,b_,(List.flatten [(cl bh 103 [(ii s.most),(pp b6),(pp b9)]),H8,(List.flatten [H9])]),bP,(show fQ (bH.mk s.most v2.2 (some Ad)) bh (List.flatten [(cl bh 103 [(ii s.most),(pp b6),(pp b9)]),H8,(List.flatten [H9])]) from⟨b6,H8,(pp b9),(List.flatten [H9]),s8,(show BT (some Ad) (pp b9) (List.flatten [H9]) from⟨b9,H9,s9,J,J⟩),J⟩),J,J⟩ J))
 refine rc T 5 (kr (fO.R el) [] [] J vP H (fO.c · (dG hG (j:=0) J)) (λv5 H=>?_));rintro v12 _ ⟨v12,dq,dz,rfl,rfl⟩;refine fz J (ro T 4 ?_)
 cases H;refine gq [3,4,3] J (p1 T J [3,3,0] ⟨v12,dq,(List.flatten [(cl bh 103 [(ii s.most),(pp b6),wQ]),H8,H7]),dz,(show fQ (bH.mk s.most v2.2 s.cZ) bh (List.flatten [(cl bh 103 [(ii s.most),(pp b6),wQ]),H8,H7]) from⟨b6,H8,wQ,H7,s8,s7,J⟩),J,J⟩ J)
def wK.f (s:bH) (cell:Int) (cost:Int):Option (Er×bH):=if((decide (cost<1))||(decide (cost>255)))=true then(some ((Er.num 148 8),s)) else((cT s.cZ (none) (λx3=>if(cost==255)=true then((yN.f x3 cell).bind λv4=>some (decide (v4≥0))) else(some false))).bind λx1=>if x1=true then(some ((Er.num 148 10),s)) else((xM.f s.nav cell cost).bind λv5=>(fO.f v5.1).bind λv6=>some (v6,(bH.mk s.most v5.2 s.cZ))))
def wK.R (el:Nat->Addr) (nz:Nat) (r:(Er×bH)):bg:=λu G=> ∃(v0:Value) (H0:Hp) (H1:Hp),gp 414 el r.1 v0 H0/\fQ r.2 nz H1/\u=v0/\G=[H0,H1]
theorem wK.c (H:wK.f s cell cost=some r) (hG:fW 414 fp iw el F) (cX:fQ s bh dQ):
 QR 86 [(pp bh),(ii cell),(ii cost)] [dQ] [] F (wK.R el bh r):=by
 unfold wK.f at H;refine aD Tryz.func86 J J (λW=>rc T 12 (go T [3,4,5] 10 [0,1,2] 13 J J J J J J J (ro T 3 (cb J H (λH=>?_) (λH=>?_)))))
 ·refine rc T 2 (br J (iu T J J J J) (ro T 6 ?_))
  cases H;refine aq J (p1 T J [2,0,0] ⟨(.iface 148 (ii 8)),[],dQ,rN,cX,J,J⟩ J)
 refine mq H [0,1,2] [1,0] (λz2 (x1:Bool)=>(x1=z2,[(15,(bb x1))],[])) J J (λz2 Z2 _=>?_) ?_
 ·obtain⟨b4,H4,yj,H5,s4,s5,dy⟩:=(λx=>x) cX;refine bS 0 (congrArg some dy) (fz J ?_);rcases q3:s.cZ with _ |x3
  ·replace Z2:=eW q3 Z2
   cases Z2
  replace Z2:=eX q3 Z2;rw[q3] at s5;obtain⟨b7,H7,s7,rfl,oD⟩:=s5;refine bS 3 (congrArg some oD) (fz J (rc T 4 (ab 18 J Z2 (λZ2=>?_) (λZ2=>?_))))
  ·refine ro T 3 (lf T 1 J (ro T 1 (k [3] J acQ Z2 (yN.c · s7) (λv4 Z2=>ro T 5 (cq [3] J oD (cq [1,1,1] J dy (am _ [0,0] (oi Z2) J J)))))))
  refine ro T 11 (cq [3] J oD (cq [1,1,1] J dy (am _ [0,0] (oi Z2) J J)))
 rintro _ x1 rfl H;refine cb J H (λH=>?_) (λH=>?_)
 ·refine rc T 2 (br J (iu T J J J J) (ro T 6 ?_))
  cases H;refine aq J (p1 T J [2,1,0] ⟨(.iface 148 (ii 10)),[],dQ,rN,cX,J,J⟩ J)
 refine rc T 4 ?_;obtain⟨gd,b_,LI,cz,bP,c_,Gn⟩:=(λx=>x) cX;refine bS 1 (congrArg some Gn) (fz J (rc T 4 (lf T 1 J (ro T 2 (kr (xM.R gd) [] [2] J acR H (xM.c · bP) (λv5 H=>?_))))));rintro _ _ ⟨dq,dz,rfl,rfl⟩;refine fz J (kr (fO.R el) [] [] J vP H (fO.c · (dG hG (j:=0) J)) (λv6 H=>?_));rintro lG _ ⟨lG,dV,dm,rfl,rfl⟩;refine fz J (ro T 4 ?_)
 cases H;refine gq [1,2,1] J (p1 T J [1,1,0] ⟨lG,dV,(List.flatten [(cl bh 103 [(ii s.most),(pp gd),LI]),dq,cz]),dm,(show fQ (bH.mk s.most v5.2 s.cZ) bh (List.flatten [(cl bh 103 [(ii s.most),(pp gd),LI]),dq,cz]) from⟨gd,dq,LI,cz,dz,c_,J⟩),J,J⟩ J)
def wL.f (s:bH) (cell:Int) (goal:Int):Option (Int×Er×bH):=(qk.f s.nav cell).bind λv1=>if(v1==255)=true then(some ((-1),(Er.num 148 9),s)) else(cT s.cZ (none) (λx2=>(uF.f x2 cell goal).bind λv3=>(fO.f v3.2.1).bind λv4=>some (v3.1,v4,(bH.mk s.most s.nav (some v3.2.2)))))
def wL.R (el:Nat->Addr) (nz:Nat) (r:(Int×Er×bH)):bg:=λu G=> ∃(v0:Value) (H0:Hp) (H1:Hp),gp 414 el r.2.1 v0 H0/\fQ r.2.2 nz H1/\u=(.tuple #[(ii r.1),v0])/\G=[H0,H1]
theorem wL.c (H:wL.f s cell goal=some r) (hG:fW 414 fp iw el F) (cX:fQ s bh dQ):
 QR 87 [(pp bh),(ii cell),(ii goal)] [dQ] [] F (wL.R el bh r):=by
 unfold wL.f at H;refine aD Tryz.func87 J J (λW=>rc T 8 ?_);obtain⟨b3,H3,ui,H4,s3,s4,ct⟩:=(λx=>x) cX;refine bS 0 (congrArg some ct) (fz J (rc T 4 (lf T 1 J (ro T 1 (k [2] J J2 H (qk.c · s3) (λv1 H=>ro T 3 (cb J H (λH=>?_) (λH=>?_))))))))
 ·refine rc T 2 (br J (iu T J J J J) (ro T 6 ?_))
  cases H;refine cq [1,1,1] J ct (aq J (p1 T J [2,1,0] ⟨(.iface 148 (ii 9)),[],dQ,rN,cX,J,J⟩ J))
 refine rc T 3 ?_;rcases q3:s.cZ with _ |x2
 ·replace H:=eW q3 H
  cases H
 replace H:=eX q3 H;rw[q3] at s4;obtain⟨b7,H7,s7,rfl,oD⟩:=s4;refine bS 3 (congrArg some oD) (fz J (rc T 4 (lf T 1 J (ro T 2 (kr (uF.R b7) [] [3] J acS H (uF.c · s7) (λv3 H=>?_))))));rintro _ _ ⟨H8,s8,rfl,rfl⟩;refine fz J (ro T 11 (kr (fO.R el) [] [] J vP H (fO.c · (dG hG (j:=0) J)) (λv4 H=>?_)));rintro v9 _ ⟨v9,H9,s9,rfl,rfl⟩;refine fz J (ro T 5 ?_)
 cases H;refine gq [3] J (gq [1,1,2] J (p1 T J [1,1,0] ⟨v9,H9,(List.flatten [(cl bh 103 [(ii s.most),(pp b3),(pp b7)]),H3,(List.flatten [H8])]),s9,(show fQ (bH.mk s.most s.nav (some v3.2.2)) bh (List.flatten [(cl bh 103 [(ii s.most),(pp b3),(pp b7)]),H3,(List.flatten [H8])]) from⟨b3,H3,(pp b7),(List.flatten [H8]),s3,(show BT (some v3.2.2) (pp b7) (List.flatten [H8]) from⟨b7,H8,s8,J,J⟩),J⟩),J,J⟩ J))
def uf.f (s:bH) (a:eI) (goal:Int) (cell:Int):Option (Er×bH×eI):=(xN.f s.nav goal cell).bind λv1=>if(v1.2.2.1==0)=true then((fO.f v1.2.2.1).bind λv2=>some (v2,(bH.mk s.most v1.2.2.2 s.cZ),(eI.mk a.Code v1.1 v1.2.1 a.Id a.cF a.di a.Stats))) else((fO.f v1.2.2.1).bind λv3=>some (v3,(bH.mk s.most v1.2.2.2 s.cZ),a))
def uf.R (el:Nat->Addr) (nz:Nat) (pg:Nat) (r:(Er×bH×eI)):bg:=λu G=> ∃(v0:Value) (H0:Hp) (H1:Hp) (a2 n2 H2:_) (a3 n3 H3:_),gp 414 el r.1 v0 H0/\fQ r.2.1 nz H1/\aj iJ 94 r.2.2.cF a2 n2 H2/\aj (Fl.int .i64) 3 r.2.2.di a3 n3 H3/\u=v0/\G=[H0,H1,(cl pg 52 [(ii r.2.2.Code),(ii r.2.2.D),(ii r.2.2.bX),(ii r.2.2.Id),(ll a2 r.2.2.cF n2),(ll a3 r.2.2.di n3),(uu r.2.2.Stats.bA),(uu r.2.2.Stats.bB),(uu r.2.2.Stats.bz),(uu r.2.2.Stats.bw),(uu r.2.2.Stats.bF),(uu r.2.2.Stats.bD)]),H2,H3]
theorem uf.c (H:uf.f s a goal cell=some r) (hG:fW 414 fp iw el F) (cX:fQ s bh dQ) (nV:aj iJ 94 a.cF sM tz vk) (nU:aj (Fl.int .i64) 3 a.di sL tx vj):
 QR 91 [(pp bh),(pp pg),(ii goal),(ii cell)] [dQ,(cl pg 52 [(ii a.Code),(ii a.D),(ii a.bX),(ii a.Id),(ll sM a.cF tz),(ll sL a.di tx),(uu a.Stats.bA),(uu a.Stats.bB),(uu a.Stats.bz),(uu a.Stats.bw),(uu a.Stats.bF),(uu a.Stats.bD)]),vk,vj] [] F (uf.R el bh pg r):=by
 unfold uf.f at H;refine aD Tryz.func91 J J (λW=>rc T 6 ?_);obtain⟨b6,H6,wQ,H7,s6,s7,rS⟩:=(λx=>x) cX;refine bS 0 (congrArg some rS) (fz J (rc T 4 (lf T 4 J (ro T 2 (kr (xN.R el b6) [] [5] J acU H (xN.c · (dG hG (j:=3) J) s6) (λv1 H=>?_))))));rintro _ _ ⟨H8,s8,rfl,rfl⟩;refine fz J (ro T 16 (cb J H (λH=>?_) (λH=>?_)))
 ·refine rc T 7 (j3 T 0 J (ro T 2 (j3 T 0 J (ro T 5 (kr (fO.R el) [] [] J vP H (fO.c · (dG hG (j:=3) J)) (λv2 H=>?_))))));rintro v9 _ ⟨v9,H9,s9,rfl,rfl⟩;refine fz J (ro T 2 (ks [8] J (rx T 2 ?_)))
  cases H;refine gq [4,5,4] J (p1 T J [4,4,0,0,0,0] ⟨v9,H9,(List.flatten [(cl bh 103 [(ii s.most),(pp b6),wQ]),H8,H7]),sM,tz,vk,sL,tx,vj,s9,(show fQ (bH.mk s.most v1.2.2.2 s.cZ) bh (List.flatten [(cl bh 103 [(ii s.most),(pp b6),wQ]),H8,H7]) from⟨b6,H8,wQ,H7,s8,s7,J⟩),nV,nU,J,J⟩ J)
 refine rc T 5 (kr (fO.R el) [] [] J vP H (fO.c · (dG hG (j:=3) J)) (λv3 H=>?_));rintro v10 _ ⟨v10,b_,bP,rfl,rfl⟩;refine fz J (ro T 4 ?_)
 cases H;refine gq [4,5,4] J (p1 T J [4,4,0,0,0,0] ⟨v10,b_,(List.flatten [(cl bh 103 [(ii s.most),(pp b6),wQ]),H8,H7]),sM,tz,vk,sL,tx,vj,bP,(show fQ (bH.mk s.most v1.2.2.2 s.cZ) bh (List.flatten [(cl bh 103 [(ii s.most),(pp b6),wQ]),H8,H7]) from⟨b6,H8,wQ,H7,s8,s7,J⟩),nV,nU,J,J⟩ J)
def eP.l3:Nat->bH->(List aF)->bV->(List (Int×Int))->List Int->Int->Option ((List Int)×Er×bH)
 |0,_,_,_,_,_,_=>none
 |KN+1,s,l,bx,aU,oh,sx=>if sx<(List.length l:Int) then(if(0<=sx/\sx<(List.length l:Int)) then(if(List.length oh+1<=1099511627776) then(eP.l3 KN s l bx aU (oh++[(aR aU ((rd l sx).Id))]) (aa (sx+1))) else none) else none) else(some (oh,Er.nil,(bH.mk s.most bx s.cZ)))
def eP.l2:Nat->(List (Int×Int))->Int->(List ck)->bV->List Int->(List (Int×Int))->Int->Option (Sum ((List Int)×Er×bH) (bV×(List (Int×Int))))
 |0,_,_,_,_,_,_,_=>none
 |KM+1,x4,bc,v8,dE,dH,nn,jl=>if jl<(List.length ((rd v8 bc).de):Int) then(if(0<=jl/\jl<(List.length ((rd v8 bc).de):Int)) then(if(0<=(aR x4 (rd ((rd v8 bc).de) jl))/\(aR x4 (rd ((rd v8 bc).de) jl))<(List.length dH:Int)) then(eP.l2 KM x4 bc v8 dE dH (cJ nn (rd ((rd v8 bc).de) jl) (rd dH (aR x4 (rd ((rd v8 bc).de) jl)))) (aa (jl+1))) else none) else none) else(some (Sum.inr (dE,nn)))
def eP.l1:Nat->bH->(List aF)->(List (Int×Int))->(List ck)->bV->(List (Int×Int))->Int->Option ((List Int)×Er×bH)
 |0,_,_,_,_,_,_,_=>none
 |lP+1,s,l,x4,v8,bx,aU,bc=>if bc<(List.length v8:Int) then((if(0<=bc/\bc<(List.length v8:Int)) then(((u6.f bx ((rd v8 bc).Goal) ((rd v8 bc).fe)).bind λv24=>some (v24.2.2,v24.1.fc,v24.1.bX,v24.2.1)).bind λ(dE,jk,dH,cg)=>if(cg !=0)=true then(some (Sum.inl ([],(Er.num 148 cg),(bH.mk s.most dE s.cZ)))) else(eP.l2 fuel x4 bc v8 dE dH aU 0)) else none).bind λzz=>match zz with |Sum.inl q=>some q |Sum.inr (dg,cD)=>eP.l1 lP s l x4 v8 dg cD (aa (bc+1))) else(eP.l3 fuel s l bx aU [] 0)
def eP.l0:Nat->bH->(List aF)->(Int×Int)->(List (Int×Int))->Int->Option ((List Int)×Er×bH)
 |0,_,_,_,_,_=>none
 |k6+1,s,l,v1,x4,x5=>if x5<(List.length l:Int) then(if(0<=x5/\x5<(List.length l:Int)) then((ry.f v1.1 v1.2 ((rd l x5).Cell)).bind λv7=>eP.l0 k6 s l v1 (cJ x4 ((rd l x5).Id) v7) (aa (x5+1))) else none) else((kc.f v1.1 v1.2 l).bind λv8=>eP.l1 fuel s l x4 v8 s.nav ([]:(List (Int×Int))) 0)
def eP.f (s:bH) (l:(List aF)):Option ((List Int)×Er×bH):=(zv.f s.nav).bind λv1=>eP.l0 fuel s l v1 ([]:(List (Int×Int))) 0
def eP.R (el:Nat->Addr) (nz:Nat) (r:((List Int)×Er×bH)):bg:=λu G=> ∃(a0 n0 H0:_) (v1:Value) (H1:Hp) (H2:Hp),aj (Fl.int .i64) 3 r.1 a0 n0 H0/\gp 414 el r.2.1 v1 H1/\fQ r.2.2 nz H2/\u=(.tuple #[(ll a0 r.1 n0),v1])/\G=[H0,H1,H2]
theorem eP.c (H:eP.f s l=some r) (hG:fW 414 fp iw el F) (cX:fQ s bh dQ) (dr:aP lQ l iE F) (gB:List.length l<=iy):
 QR 128 [(pp bh),(ll iE l iy)] [dQ] [] F (eP.R el bh r):=by
 unfold eP.f at H;refine aD Tryz.func128 J J (λW=>rc T 7 ?_);obtain⟨b3,H3,ui,H4,s3,s4,ct⟩:=(λx=>x) cX;refine bS 0 (congrArg some ct) (fz J (rc T 4 (lf T 1 J (k [2] J Tt H (zv.c · s3) (λv1 H=>ro T 9 (aX (vt T (Ky.int .i64 u3) (λx:Int=>Value.int .i64 x) J J J trivial (λa5 H5 s5=>ro T 12 (lq [0,1,6,7,30,31] [0,0,1,0] (λ(⟨k6,x4,x5,a7,H7⟩:Nat×(List (Int×Int))×Int×Nat×Hp)=>(eP.l0 k6 s l v1 x4 x5=some r/\cV (Ky.int .i64 u3) (λx:Int=>Value.int .i64 x) x4 a7 H7,[(8,(.map (some a7))),(32,(ii x5))],[H7])) J J (fuel,([]:(List (Int×Int))),0,a5,H5) [0,0,1,0,0] ⟨H,s5⟩ J J ?_)))))))));rintro k6 ⟨x4,x5,a7,H7⟩ ⟨Z2,s7⟩;rw[eP.l0] at Z2;refine rc T 6 (cd J Z2 (λZ2=>?_) (λZ2=>?_))
 ·refine rc T 6 ?_;obtain⟨c4,Z2⟩:=az Z2;obtain⟨q8,o8,e8⟩:=dr.addr c4.1 c4.2;refine ix T J e8 c4 (br J (fC T (cs:=[(ii (rd l x5).Id),(ii (rd l x5).Cell),(ii (rd l x5).Goal)]) J J J J J J (iv (k:=lQ) (rO dr 0) e8 c4 J)) (nc T J (λb9=>fz J (j3 T 5 J (ro T 2 (ks [0,1,6,7,8,10,30,31,32] J (fz J (rz [8] mix (bO bN) (λhg pf=>ha T 7 [0,1] sz hg pf J (av 2 sz hg pf J (aw T J J J J (aK (j:=5) J J)) (ha T 3 [3,4,5] sz hg pf J (av 6 sz hg pf J (aw T J J J J (aK (j:=5) J J)) (ao 7 (kh [] J Gu Z2 (ry.c ·) (λv7 Z2=>an sz (ao 8 (pX (g:=4) (m:=x4) (k:=(rd l x5).Id) (v:=v7) T (Ky.int .i64 u3) (λx:Int=>Value.int .i64 x) J J J J J J J s7 (λb_ bP=>an sl (ae (rx T 7 (ar (_,_,_,_) [0,0,0,0,0] ⟨Z2,bP⟩ J J)))))))))))))))))))))
 refine rc T 7 (aX (vt T (Ky.int .i64 u3) (λx:Int=>Value.int .i64 x) J J J trivial (λdj cz c_=>ro T 9 (kr kc.R [] [] J ad_ Z2 (kc.c · (rO dr 0) gB) (λv8 Z2=>?_)))));rintro _ _ ⟨a12,n12,dq,dz,rfl,rfl⟩;refine fz J (ro T 5 (lq [0,1,8,49,50] [0,0,0,1,2] (λ(⟨lP,bx,aU,bc,dI,jT,fY⟩:Nat×bV×(List (Int×Int))×Int×Hp×Nat×Hp)=>(eP.l1 lP s l x4 v8 bx aU bc=some r/\gW bx b3 dI/\cV (Ky.int .i64 u3) (λx:Int=>Value.int .i64 x) aU jT fY,[(11,(.map (some jT))),(51,(ii bc))],[dI,fY])) J J (fuel,s.nav,([]:(List (Int×Int))),0,H3,dj,cz) [0,0,0,1,2,0,0] ⟨Z2,s3,c_⟩ J J ?_));rintro lP ⟨bx,aU,bc,dI,jT,fY⟩ ⟨Z7,dP,fU⟩;rw[eP.l1] at Z7;refine rc T 6 (cd J Z7 (λZ7=>?_) (λZ7=>?_))
 ·refine rc T 2 (mq Z7 [0,1,8,49,50,51] [0,0,0,0,0] (λQg (⟨dg,cD,eH,jo,ft⟩:bV×(List (Int×Int))×Hp×Nat×Hp)=>((Sum.inr (dg,cD))=Qg/\gW dg b3 eH/\cV (Ky.int .i64 u3) (λx:Int=>Value.int .i64 x) cD jo ft,[(11,(.map (some jo)))],[eH,ft])) J J (λQg Z9 Z7=>?_) ?_)
  ·refine rc T 3 ?_;obtain⟨iT,Z9⟩:=az Z9;obtain⟨q19,o19,Ga⟩:=dz.r.addr iT.1 iT.2;refine ix T J Ga iT ?_;obtain⟨_,w21,⟨a20,n20,⟨WV,m20⟩,rfl⟩⟩:=kU.view dz.r iT;refine br J (fC T (cs:=[(ii (rd v8 bc).Goal),(ii (rd v8 bc).fe),(ll a20 (rd v8 bc).de n20)]) J J J J J J (EH (j:=4) J w21 Ga 0 J)) (nc T J (λkZ=>fz J (j3 T 7 J (ro T 2 (mq Z9 [0,1,8,11,13,49,50,51] [0,0,0,0,2,2,0] (λz23 (⟨dE,jk,dH,cg,jE,FZ,a25,n25,gV,a26,n26,ot⟩:bV×List Int×List Int×Int×Hp×Nat×Option Addr×Nat×Hp×Option Addr×Nat×Hp)=>((dE,jk,dH,cg)=z23/\gW dE b3 jE/\aj (Fl.int .i64) 3 jk a25 n25 gV/\aj (Fl.int .i64) 3 dH a26 n26 ot,[(14,(pp FZ)),(15,(ii cg))],[jE,(cl FZ 79 [(ll a25 jk n25),(ll a26 dH n26)]),gV,ot])) J J (λz23 bf _=>?_) ?_)))))
   ·refine ks [0,1,8,11,13,49,50,51] J (fz J (rz [8] mix (bO bN) (λhg pf=>ha T 12 [0,1,2] sz hg pf J (av 3 sz hg pf J (aw T J J J J (aK (j:=1) J J)) (ha T 10 [4] sz hg pf J (av 5 sz hg pf J (aw T J J J J (aK (j:=7) J J)) (ha T 8 [6] sz hg pf J (av 7 sz hg pf J (aw T J J J J (aK (j:=7) J J)) (gK 8 12 ?_ ?_)))))))))
    ·refine kR (u6.R el b3) [] [5] J T8 bf (u6.c · (dG hG (j:=0) J) dP) (λv24 bf=>?_);rintro _ _ ⟨BZ,n27,BR,a28,n28,sC,qF,tM,jO,pI,rfl,rfl⟩;refine fz J (an sl (hb T 9 sl hg pf J (hb T 10 sl hg pf J (hb T 11 sl hg pf J (ao 12 (nw T J (λb30=>fz J (an sl (ao 13 (jj T 10 J (an sl (hb T 14 sl hg pf J (ae (rx T 1 (am (_,_,_,_,_,_,_,_,_,_,_,_) [0,0,0,0,1,1,0,2,2,0,0] ⟨oi bf,pI,tM,jO⟩ J J)))))))))))))))
    refine nw T J (λb31=>fz J (an (so [0,0,0,0,0,0,0,0]) (ao 8 (kR (u6.R el b3) [] [5] J T8 bf (u6.c · (dG hG (j:=0) J) dP) (λv25 bf=>?_)))));rintro _ _ ⟨a32,n32,Fy,a33,n33,Fz,ur,wA,si,tN,rfl,rfl⟩;refine fz J (an sl (hb T 9 sl hg pf J (hb T 10 sl hg pf J (hb T 11 sl hg pf J (ao 13 (jj T 7 J (an sl (hb T 14 sl hg pf J (ae (rx T 1 (am (_,_,_,_,_,_,_,_,_,_,_,_) [0,0,0,0,1,1,0,3,0,0,0] ⟨oi bf,tN,wA,si⟩ J J)))))))))))
   rintro _ ⟨dE,jk,dH,cg,jE,FZ,a25,n25,gV,a26,n26,ot⟩ ⟨rfl,gG,jh,mL⟩ Z9;refine rc T 7 (cb J Z9 (λZ9=>?_) (λZ9=>?_))
   ·refine rc T 3 (br J (iu T J J J J) (ro T 11 ?_));obtain rfl:=Option.some.inj Z9;obtain rfl:=Option.some.inj (show some ([],(Er.num 148 cg),(bH.mk s.most dE s.cZ))=some r from Z7)
    refine gq [1,6,1] J (aq J (aq J (p1 T J [9,9,8,0] ⟨none,0,[],(.iface 148 (ii cg)),[],(List.flatten [(cl bh 103 [(ii s.most),(pp b3),ui]),jE,H4]),aj.nil,rN,(show fQ (bH.mk s.most dE s.cZ) bh (List.flatten [(cl bh 103 [(ii s.most),(pp b3),ui]),jE,H4]) from⟨b3,jE,ui,H4,gG,s4,J⟩),J,J⟩ J)))
   refine rc T 5 (lf T 5 J (ro T 5 (lq [0,1,8,14,49,50,51,72,73] [0,0,0,4,0,3,3,3,2] (λ(⟨KM,nn,jl,Jd,Ah⟩:Nat×(List (Int×Int))×Int×Nat×Hp)=>(eP.l2 KM x4 bc v8 dE dH nn jl=some Qg/\cV (Ky.int .i64 u3) (λx:Int=>Value.int .i64 x) nn Jd Ah,[(11,(.map (some Jd))),(74,(ii jl))],[Ah])) J J (fuel,aU,0,jT,fY) [0,0,0,4,0,3,3,3,2,0] ⟨Z9,fU⟩ J J ?_)));rintro KM ⟨nn,jl,Jd,Ah⟩ ⟨cA,Bm⟩;rw[eP.l2] at cA;refine rc T 6 (cd J cA (λcA=>?_) (λcA=>?_))
   ·refine rc T 6 ?_;obtain⟨jI,cA⟩:=az cA;obtain⟨q39,o39,RV⟩:=WV.addr jI.1 jI.2;refine ix T J RV jI (le T 0 (rO WV 8) RV jI J J (ro T 7 (lf T 5 J (ro T 2 (br J (qa (k:=(rd ((rd v8 bc).de) jl)) T (Ky.int .i64 u3) (λx:Int=>Value.int .i64 x) J J J J J (oJ s7 (j:=4) J)) ?_)))));obtain⟨lM,cA⟩:=az cA;obtain⟨q40,o40,RW⟩:=mL.r.addr lM.1 lM.2;refine ix T J RW lM (le T 0 (oO mL 7) RW lM J J (aX (pX (g:=9) (m:=nn) (k:=(rd ((rd v8 bc).de) jl)) (v:=(rd dH (aR x4 (rd ((rd v8 bc).de) jl)))) T (Ky.int .i64 u3) (λx:Int=>Value.int .i64 x) J J J J J J J Bm (λFC zL=>ro T 8 (ar (_,_,_,_) [0,0,0,0,0,0,0,0,0,0] ⟨cA,zL⟩ J J)))))
   refine rc T 6 (am (_,_,_,_,_) [0,0,0,1,4,0,3] ⟨oi cA,gG,Bm⟩ J J)
  rintro _ ⟨dg,cD,eH,jo,ft⟩ ⟨rfl,fq,fF⟩ Z7;refine rc T 5 (ar (_,_,_,_,_,_) [0,0,0,0,0,0,0] ⟨Z7,fq,fF⟩ J J)
 refine rc T 19 (aq J (lq [11,89,90] [0,5,0,0,2] (λ(⟨KN,oh,sx,Je,n43,gI⟩:Nat×List Int×Int×Option Addr×Nat×Hp)=>(eP.l3 KN s l bx aU oh sx=some r/\aj (Fl.int .i64) 3 oh Je n43 gI,[(18,(ll Je oh n43)),(91,(ii sx))],[gI])) J J (fuel,[],0,none,0,[]) [0,5,0,0,2,2] ⟨Z7,aj.nil⟩ J J ?_));rintro KN ⟨oh,sx,Je,n43,gI⟩ ⟨fg,tP⟩;rw[eP.l3] at fg;refine rc T 6 (cd J fg (λfg=>?_) (λfg=>?_))
 ·refine rc T 6 ?_;obtain⟨kB,fg⟩:=az fg;obtain⟨q44,o44,RX⟩:=dr.addr kB.1 kB.2;refine ix T J RX kB (br J (fC T (cs:=[(ii (rd l sx).Id),(ii (rd l sx).Cell),(ii (rd l sx).Goal)]) J J J J J J (iv (k:=lQ) (rO dr 0) RX kB J)) (nc T J (λb45=>fz J (j3 T 6 J (ro T 6 (lf T 6 J (br J (qa (k:=(rd l sx).Id) T (Ky.int .i64 u3) (λx:Int=>Value.int .i64 x) J J J J J (oJ fU (j:=1) J)) (aX (cY (k:=(Fl.int .i64)) T [(aR aU ((rd l sx).Id))] J J J J J J J J J (λa46 Yb PJ=>?_))))))))));obtain⟨Aw,fg⟩:=az fg;refine aX (dW (k:=(Fl.int .i64)) (xs:=oh) T (g:=5) J J J J J J J J J J tP (oO PJ 7) Aw J (λJf n47 FD HZ=>ro T 9 (ar (_,_,_,_,_) [0,0,0,0,0,0] ⟨fg,HZ⟩ J J)))
 refine rc T 13 ?_
 cases fg;refine gq [2,3,2] J (aq J (p1 T J [2,3,2,0] ⟨Je,n43,gI,.nilIface,[],(List.flatten [(cl bh 103 [(ii s.most),(pp b3),ui]),dI,H4]),tP,uG,(show fQ (bH.mk s.most bx s.cZ) bh (List.flatten [(cl bh 103 [(ii s.most),(pp b3),ui]),dI,H4]) from⟨b3,dI,ui,H4,dP,s4,J⟩),J,J⟩ J))
def su.f (s:bH) (a:eI):Option (Er×bH×eI):=cT s.cZ (none) (λx1=>(oA.f x1).bind λv2=>(eP.f s v2).bind λv3=>if(!(Er.isNil v3.2.1))=true then(some (v3.2.1,v3.2.2,a)) else(cT v3.2.2.cZ (none) (λx4=>(mw.f x4 v3.1).bind λv5=>(fO.f v5.2.2.1).bind λv6=>some (v6,(bH.mk v3.2.2.most v3.2.2.nav (some v5.2.2.2)),(eI.mk a.Code a.D a.bX a.Id v5.1 v5.2.1 a.Stats)))))
def su.R (el:Nat->Addr) (nz:Nat) (pg:Nat) (r:(Er×bH×eI)):bg:=λu G=> ∃(v0:Value) (H0:Hp) (H1:Hp) (a2 n2 H2:_) (a3 n3 H3:_),gp 414 el r.1 v0 H0/\fQ r.2.1 nz H1/\aj iJ 94 r.2.2.cF a2 n2 H2/\aj (Fl.int .i64) 3 r.2.2.di a3 n3 H3/\u=v0/\G=[H0,H1,(cl pg 52 [(ii r.2.2.Code),(ii r.2.2.D),(ii r.2.2.bX),(ii r.2.2.Id),(ll a2 r.2.2.cF n2),(ll a3 r.2.2.di n3),(uu r.2.2.Stats.bA),(uu r.2.2.Stats.bB),(uu r.2.2.Stats.bz),(uu r.2.2.Stats.bw),(uu r.2.2.Stats.bF),(uu r.2.2.Stats.bD)]),H2,H3]
theorem su.c (H:su.f s a=some r) (hG:fW 414 fp iw el F) (cX:fQ s bh dQ) (nV:aj iJ 94 a.cF sM tz vk) (nU:aj (Fl.int .i64) 3 a.di sL tx vj):
 QR 92 [(pp bh),(pp pg)] [dQ,(cl pg 52 [(ii a.Code),(ii a.D),(ii a.bX),(ii a.Id),(ll sM a.cF tz),(ll sL a.di tx),(uu a.Stats.bA),(uu a.Stats.bB),(uu a.Stats.bz),(uu a.Stats.bw),(uu a.Stats.bF),(uu a.Stats.bD)]),vk,vj] [] F (su.R el bh pg r):=by
 unfold su.f at H;refine aD Tryz.func92 J J (λW=>rc T 6 ?_);obtain⟨b6,H6,wQ,H7,s6,s7,rS⟩:=(λx=>x) cX;refine bS 0 (congrArg some rS) (fz J ?_);rcases q1:s.cZ with _ |x1
 ·replace H:=eW q1 H
  cases H
 replace H:=eX q1 H;rw[q1] at s7;obtain⟨b9,H9,s9,rfl,SY⟩:=s7;refine bS 6 (congrArg some SY) (fz J (rc T 5 (lf T 4 J (kr oA.R [6] [6] J Kb H (oA.c · s9) (λv2 H=>?_)))));rintro _ _ ⟨cB,n10,b_,bP,rfl,rfl⟩;refine fz J (cq [7] J SY (cq [4,4,5] J rS (kr (eP.R el bh) [] [5] J acV H (eP.c · (dG hG (j:=3) J) cX (oO bP 4) bP.bT) (λv3 H=>?_))));rintro _ _ ⟨dj,n11,cz,v12,dq,dV,c_,dz,dm,rfl,rfl⟩;refine fz J (ro T 11 (br J (Ea T J J J (rP dz (j:=6) J)) (ro T 2 (cb J H (λH=>?_) (λH=>?_)))))
 ·refine rc T 8 ?_
  cases H;exact p1 T J [6,6,0,0,0,0] ⟨v12,dq,dV,sM,tz,vk,sL,tx,vj,dz,dm,nV,nU,J,J⟩ J
 refine rc T 3 ?_;obtain⟨oy,dI,akI,fY,dP,fU,Ei⟩:=(λx=>x) dm;refine bS 7 (congrArg some Ei) (fz J ?_);rcases q5:v3.2.2.cZ with _ |x4
 ·replace H:=eW q5 H
  cases H
 replace H:=eX q5 H;rw[q5] at fU;obtain⟨qJ,ft,fF,rfl,acx⟩:=fU;refine bS 9 (congrArg some acx) (fz J (rc T 4 (lf T 7 J (ro T 1 (kr (mw.R qJ) [] [9] J acW H (mw.c · fF (oO c_ 5) c_.bT) (λv5 H=>?_))))));rintro _ _ ⟨kW,n19,kT,a20,n20,oq,kq,ie,me,jC,rfl,rfl⟩;refine fz J (ro T 17 (j3 T 0 J (ro T 2 (j3 T 0 J (ro T 1 (ke [9] [0,2,5,5,5,5,5] J J (rx T 1 (rc T 3 (kr (fO.R el) [] [] J vP H (fO.c · (dG hG (j:=1) J)) (λv6 H=>?_))))))))));rintro v22 _ ⟨v22,lX,iz,rfl,rfl⟩;refine fz J (ro T 4 ?_)
 cases H;refine gq [6] J (gq [2,2,5] J (p1 T J [4,4,0,1,1,0] ⟨v22,lX,(List.flatten [(cl bh 103 [(ii v3.2.2.most),(pp oy),(pp qJ)]),dI,(List.flatten [kq])]),kW,n19,kT,a20,n20,oq,iz,(show fQ (bH.mk v3.2.2.most v3.2.2.nav (some v5.2.2.2)) bh (List.flatten [(cl bh 103 [(ii v3.2.2.most),(pp oy),(pp qJ)]),dI,(List.flatten [kq])]) from⟨oy,dI,(pp qJ),(List.flatten [kq]),dP,(show BT (some v5.2.2.2) (pp qJ) (List.flatten [kq]) from⟨qJ,kq,jC,J,J⟩),J⟩),ie,me,J,J⟩ J))
def rp.f (s:bH) (o:cR) (a:eI):Option (Er×bH×eI):=(if(o.Kind==0)=true then(some true) else((C8.f o).bind λv3=>some (!v3))).bind λx1=>if x1=true then(some ((Er.eF 0),s,a)) else((cT s.cZ (if(o.Kind !=1)=true then(some (o.Kind !=8)) else(some false)) (λx6=>some false)).bind λx4=>if x4=true then(some ((Er.num 148 4),s,a)) else((oa.f s o).bind λv7=>if(!(Er.isNil v7))=true then(some (v7,s,a)) else((if(o.Kind==1)=true then((ue.f s o.Map).bind λv23=>some (v23.1,a.Code,a.D,a.bX,a.Id,a.cF,a.di,a.Stats.bA,a.Stats.bB,a.Stats.bz,a.Stats.bw,a.Stats.bF,a.Stats.bD,v23.2)) else(if(o.Kind==8)=true then((tD.f s.nav).bind λv24=>some (v7,a.Code,a.D,a.bX,a.Id,a.cF,a.di,a.Stats.bA,a.Stats.bB,a.Stats.bz,a.Stats.bw,a.Stats.bF,a.Stats.bD,(bH.mk s.most v24 s.cZ))) else(if(o.Kind==2)=true then((wK.f s o.A o.B).bind λv25=>some (v25.1,a.Code,a.D,a.bX,a.Id,a.cF,a.di,a.Stats.bA,a.Stats.bB,a.Stats.bz,a.Stats.bw,a.Stats.bF,a.Stats.bD,v25.2)) else(if(o.Kind==3)=true then((wL.f s o.A o.B).bind λv26=>some (v26.2.1,a.Code,a.D,a.bX,v26.1,a.cF,a.di,a.Stats.bA,a.Stats.bB,a.Stats.bz,a.Stats.bw,a.Stats.bF,a.Stats.bD,v26.2.2)) else(if(o.Kind==4)=true then(cT s.cZ ((F9.f o.A o.B).bind λv28=>(fO.f v28).bind λpR=>some (pR,a.Code,a.D,a.bX,a.Id,a.cF,a.di,a.Stats.bA,a.Stats.bB,a.Stats.bz,a.Stats.bw,a.Stats.bF,a.Stats.bD,s)) (λml=>(uD.f ml o.A o.B).bind λv30=>(fO.f v30.1).bind λv31=>some (v31,a.Code,a.D,a.bX,a.Id,a.cF,a.di,a.Stats.bA,a.Stats.bB,a.Stats.bz,a.Stats.bw,a.Stats.bF,a.Stats.bD,(bH.mk s.most s.nav (some v30.2))))) else(if(o.Kind==5)=true then(cT s.cZ ((F8.f o.A).bind λv33=>(fO.f v33).bind λFo=>some (Fo,a.Code,a.D,a.bX,a.Id,a.cF,a.di,a.Stats.bA,a.Stats.bB,a.Stats.bz,a.Stats.bw,a.Stats.bF,a.Stats.bD,s)) (λwT=>(uC.f wT o.A).bind λv35=>(fO.f v35.1).bind λXU=>some (XU,a.Code,a.D,a.bX,a.Id,a.cF,a.di,a.Stats.bA,a.Stats.bB,a.Stats.bz,a.Stats.bw,a.Stats.bF,a.Stats.bD,(bH.mk s.most s.nav (some v35.2))))) else(if(o.Kind==6)=true then((uf.f s a o.A o.B).bind λv37=>some (v37.1,v37.2.2.Code,v37.2.2.D,v37.2.2.bX,v37.2.2.Id,v37.2.2.cF,v37.2.2.di,v37.2.2.Stats.bA,v37.2.2.Stats.bB,v37.2.2.Stats.bz,v37.2.2.Stats.bw,v37.2.2.Stats.bF,v37.2.2.Stats.bD,v37.2.1)) else(if(o.Kind==7)=true then((su.f s a).bind λoY=>some (oY.1,oY.2.2.Code,oY.2.2.D,oY.2.2.bX,oY.2.2.Id,oY.2.2.cF,oY.2.2.di,oY.2.2.Stats.bA,oY.2.2.Stats.bB,oY.2.2.Stats.bz,oY.2.2.Stats.bw,oY.2.2.Stats.bF,oY.2.2.Stats.bD,oY.2.1)) else(some (v7,a.Code,a.D,a.bX,a.Id,a.cF,a.di,a.Stats.bA,a.Stats.bB,a.Stats.bz,a.Stats.bw,a.Stats.bF,a.Stats.bD,s)))))))))).bind λ(x8,x9,aN,bj,bx,aU,bc,bY,dg,cD,cy,dE,jk,dH)=>some (x8,dH,(eI.mk x9 aN bj bx aU bc (fZ.mk bY dg cD cy dE jk))))))
def rp.R (el:Nat->Addr) (nz:Nat) (pg:Nat) (r:(Er×bH×eI)):bg:=λu G=> ∃(v0:Value) (H0:Hp) (H1:Hp) (a2 n2 H2:_) (a3 n3 H3:_),gp 414 el r.1 v0 H0/\fQ r.2.1 nz H1/\aj iJ 94 r.2.2.cF a2 n2 H2/\aj (Fl.int .i64) 3 r.2.2.di a3 n3 H3/\u=v0/\G=[H0,H1,(cl pg 52 [(ii r.2.2.Code),(ii r.2.2.D),(ii r.2.2.bX),(ii r.2.2.Id),(ll a2 r.2.2.cF n2),(ll a3 r.2.2.di n3),(uu r.2.2.Stats.bA),(uu r.2.2.Stats.bB),(uu r.2.2.Stats.bz),(uu r.2.2.Stats.bw),(uu r.2.2.Stats.bF),(uu r.2.2.Stats.bD)]),H2,H3]
theorem rp.c (H:rp.f s o a=some r) (hG:fW 414 fp iw el F) (cX:fQ s bh dQ) (AL:aP (Fl.int .u8) o.Map B3 F) (Ax:List.length o.Map<=C0) (nV:aj iJ 94 a.cF sM tz vk) (nU:aj (Fl.int .i64) 3 a.di sL tx vj):
 QR 55 [(pp bh),(.agg #[(ii o.Kind),(ii o.A),(ii o.B),(ll B3 o.Map C0)]),(pp pg)] [dQ,(cl pg 52 [(ii a.Code),(ii a.D),(ii a.bX),(ii a.Id),(ll sM a.cF tz),(ll sL a.di tx),(uu a.Stats.bA),(uu a.Stats.bB),(uu a.Stats.bz),(uu a.Stats.bw),(uu a.Stats.bF),(uu a.Stats.bD)]),vk,vj] [] F (rp.R el bh pg r):=by
 unfold rp.f at H;refine aD Tryz.func55 J J (λW=>rc T 2 (nc T J (λb5=>fz J (ro T 5 (mq H [0,2,4] [4,0,0,0,0,0] (λz2 (x1:Bool)=>(x1=z2,[(7,(bb x1))],[])) J J (λz2 Z1 _=>?_) ?_)))))
 ·refine rc T 2 (lf T 5 J (ro T 2 (ab 11 J Z1 (λZ1=>?_) (λZ1=>?_))))
  ·refine ro T 7 (am _ [4,0,0,0,0,0] (oi Z1) J J)
  refine lm T 5 J (k [] J aeG Z1 (C8.c · (rO AL 4) Ax) (λv3 Z1=>ro T 5 (am _ [4,0,0,0,0,0] (oi Z1) J J)))
 rintro _ x1 rfl H;refine cb J H (λH=>?_) (λH=>?_)
 ·refine rc T 2 (lg T J (rY (j:=0) J hG (g:=0) (by decide)) (ro T 6 ?_))
  cases H;refine aq J (p1 T J [6,1,1,1,1,0] ⟨(.iface 414 (.pointer (some (el 0)))),[],dQ,sM,tz,vk,sL,tx,vj,oB,cX,nV,nU,J,J⟩ J)
 refine mq H [0,2,4] [0,0,0,0,0,0] (λz5 (x4:Bool)=>(x4=z5,[(17,(bb x4))],[])) J J (λz5 Z5 _=>?_) ?_
 ·obtain⟨b8,H8,akO,H9,s8,s9,rT⟩:=(λx=>x) cX;refine bS 1 (congrArg some rT) (fz J ?_);rcases q6:s.cZ with _ |x6
  ·replace Z5:=eW q6 Z5;rw[q6] at s9;obtain⟨rfl,rfl⟩:=s9;refine rc T 4 (lf T 5 J (ro T 3 (lf T 4 J (ro T 3 (ab 28 J Z5 (λZ5=>?_) (λZ5=>?_))))))
   ·refine ro T 1 (lf T 4 J (ro T 5 (cq [5,5,5] J rT (am _ [0,4,0,0,0,0] (oi Z5) J J))))
   refine ro T 7 (cq [5,5,5] J rT (am _ [0,4,0,0,0,0] (oi Z5) J J))
  replace Z5:=eX q6 Z5;rw[q6] at s9;obtain⟨jU,cz,c_,rfl,SV⟩:=s9;refine bS 7 (congrArg some SV) (fz J (rc T 4 (lf T 5 J (ro T 14 (cq [7] J SV (cq [5,5,5] J rT (am _ [0,4,0,0,0,0] (oi Z5) J J)))))))
 rintro _ x4 rfl H;refine cb J H (λH=>?_) (λH=>?_)
 ·refine rc T 2 (br J (iu T J J J J) (ro T 6 ?_))
  cases H;refine aq J (p1 T J [6,1,1,1,1,0] ⟨(.iface 148 (ii 4)),[],dQ,sM,tz,vk,sL,tx,vj,rN,cX,nV,nU,J,J⟩ J)
 refine rc T 7 (lm T 5 J (kr (oa.R el) [1] [1] J aeH H (oa.c · (dG hG (j:=0) J) cX (rO AL 0) Ax) (λv7 H=>?_)));rintro lG _ ⟨lG,dV,dm,rfl,rfl⟩;refine fz J (ro T 6 (br J (Ea T J J J (rP dm (j:=5) J)) (ro T 2 (cb J H (λH=>?_) (λH=>?_)))))
 ·refine rc T 8 ?_
  cases H;exact p1 T J [5,5,1,1,1,0] ⟨lG,dV,dQ,sM,tz,vk,sL,tx,vj,dm,cX,nV,nU,J,J⟩ J
 refine rc T 2 (mq H [] [0] (λz22 (⟨x8,x9,aN,bj,bx,aU,bc,bY,dg,cD,cy,dE,jk,dH,LD,fX,jS,n15,dI,jT,n16,fY,eH⟩:Er×Int×Int×Int×Int×List eD×List Int×Int×Int×Int×Int×Int×Int×bH×Value×Hp×Option Addr×Nat×Hp×Option Addr×Nat×Hp×Hp)=>((x8,x9,aN,bj,bx,aU,bc,bY,dg,cD,cy,dE,jk,dH)=z22/\gp 414 el x8 LD fX/\aj iJ 94 aU jS n15 dI/\aj (Fl.int .i64) 3 bc jT n16 fY/\fQ dH bh eH,[(6,LD)],[fX,(cl pg 52 [(ii x9),(ii aN),(ii bj),(ii bx),(ll jS aU n15),(ll jT bc n16),(uu bY),(uu dg),(uu cD),(uu cy),(uu dE),(uu jk)]),dI,fY,eH])) J J (λz22 bf _=>?_) ?_)
 ·refine rc T 3 (lf T 4 J (ro T 9 (cb J bf (λbf=>?_) (λbf=>?_))))
  ·refine rc T 3 (lf T 4 J (kr (ue.R el bh) [] [6] J aeI bf (ue.c · (dG hG (j:=0) J) cX (rO AL 0) Ax) (λv23 bf=>?_)));rintro fP _ ⟨fP,ft,kT,fF,ie,rfl,rfl⟩;refine fz J (ro T 4 (am (_,_,_,_,_,_,_,_,_,_,_,_,_,_,_,_,_,_,_,_,_,_,_) [0,5,0,0,0,2] ⟨oi bf,fF,nV,nU,ie⟩ J J))
  refine rc T 6 (cb J bf (λbf=>?_) (λbf=>?_))
  ·obtain⟨Ca,kq,XT,lX,jC,iz,acv⟩:=(λx=>x) cX;refine bS 6 (congrArg some acv) (fz J (rc T 4 (lf T 6 J (kr (tD.R Ca) [] [7] J aeJ bf (tD.c · jC) (λv24 bf=>?_)))));rintro _ _ ⟨jE,gG,rfl,rfl⟩;refine fz J (ro T 3 (gq [6,7,6] J (am (_,_,_,_,_,_,_,_,_,_,_,_,_,_,_,_,_,_,_,_,_,_,_) [0,4,0,0,0,1] ⟨oi bf,dm,nV,nU,(show fQ (bH.mk s.most v24 s.cZ) bh (List.flatten [(cl bh 103 [(ii s.most),(pp Ca),XT]),jE,lX]) from⟨Ca,jE,XT,lX,gG,iz,J⟩)⟩ J J)))
  refine rc T 6 (cb J bf (λbf=>?_) (λbf=>?_))
  ·refine rc T 3 (lf T 4 J (ro T 1 (lf T 4 J (kr (wK.R el bh) [] [6] J aeK bf (wK.c · (dG hG (j:=0) J) cX) (λv25 bf=>?_)))));rintro v24 _ ⟨v24,rG,gV,mf,jh,rfl,rfl⟩;refine fz J (ro T 4 (am (_,_,_,_,_,_,_,_,_,_,_,_,_,_,_,_,_,_,_,_,_,_,_) [0,5,0,0,0,2] ⟨oi bf,mf,nV,nU,jh⟩ J J))
  refine rc T 6 (cb J bf (λbf=>?_) (λbf=>?_))
  ·refine rc T 4 (lf T 4 J (ro T 1 (lf T 4 J (kr (wL.R el bh) [] [6] J aeL bf (wL.c · (dG hG (j:=0) J) cX) (λv26 bf=>?_)))));rintro _ _ ⟨v26,ot,BR,mL,tM,rfl,rfl⟩;refine fz J (ro T 5 (j3 T 1 J (ro T 4 (am (_,_,_,_,_,_,_,_,_,_,_,_,_,_,_,_,_,_,_,_,_,_,_) [0,5,0,0,0,2] ⟨oi bf,mL,nV,nU,tM⟩ J J))))
  refine rc T 6 (cb J bf (λbf=>?_) (λbf=>?_))
  ·obtain⟨Ap,qF,akM,rH,pI,pJ,J0⟩:=(λx=>x) cX;refine bS 6 (congrArg some J0) (fz J ?_);rcases EX:s.cZ with _ |ml
   ·replace bf:=eW EX bf;rw[EX] at pJ;obtain⟨rfl,rfl⟩:=pJ;refine ke [0,4] [0,0,0,0,0,1,1,1] J J (fz J (rq [] [0,0,0,0,0,0,0,0] J mix (bO bN) (λhg pf=>ha T 8 [0,1,2] sz hg pf J (av 3 sz hg pf J (aw T J J J J (aK (j:=5) J J)) (ha T 6 [4] sz hg pf J (av 5 sz hg pf J (aw T J J J J (aK (j:=4) J J)) (ha T 4 [6] sz hg pf J (av 7 sz hg pf J (aw T J J J J (aK (j:=4) J J)) (ao 8 (kh [] J Ub bf (F9.c ·) (λv28 bf=>an sz (ao 9 (kR (fO.R el) [] [] J vP bf (fO.c · (dG hG (j:=0) J)) (λpR bf=>?_))))))))))))));rintro v33 _ ⟨v33,Fz,si,rfl,rfl⟩;refine fz J (an (so [0,0,0,0,0,0,0,0]) (ha T 0 [10] (so [0,0,0,0,0,0,0,0]) hg pf J (ae (rx T 2 (cq [5,5,5] J J0 (am (_,_,_,_,_,_,_,_,_,_,_,_,_,_,_,_,_,_,_,_,_,_,_) [0,4,0,0,0,1] ⟨oi bf,si,nV,nU,cX⟩ J J))))))
   replace bf:=eX EX bf;rw[EX] at pJ;obtain⟨xg,Fy,wA,rfl,acy⟩:=pJ;refine bS 8 (congrArg some acy) (fz J (ke [0,4] [0,0,0,0,0,1,1,1] J J (fz J (rq [8] [0,0,0,0,0,0,0,0] J mix (bO bN) (λhg pf=>ha T 8 [0,1,2] sz hg pf J (av 3 sz hg pf J (aw T J J J J (aK (j:=5) J J)) (ha T 6 [4] sz hg pf J (av 5 sz hg pf J (aw T J J J J (aK (j:=4) J J)) (ha T 4 [6] sz hg pf J (av 7 sz hg pf J (aw T J J J J (aK (j:=4) J J)) (ao 8 (kR (uD.R xg) [] [7] J Ub bf (uD.c · wA) (λv30 bf=>?_)))))))))))));rintro _ _ ⟨ur,tN,rfl,rfl⟩;refine fz J (an sl (ao 9 (kR (fO.R el) [] [] J vP bf (fO.c · (dG hG (j:=0) J)) (λv31 bf=>?_))));rintro v35 _ ⟨v35,FA,Dm,rfl,rfl⟩;refine fz J (an sl (hb T 10 sl hg pf J (ae (rx T 2 (gq [7] J (gq [5,5,6] J (am (_,_,_,_,_,_,_,_,_,_,_,_,_,_,_,_,_,_,_,_,_,_,_) [0,4,0,0,0,1] ⟨oi bf,Dm,nV,nU,(show fQ (bH.mk s.most s.nav (some v30.2)) bh (List.flatten [(cl bh 103 [(ii s.most),(pp Ap),(pp xg)]),qF,(List.flatten [ur])]) from⟨Ap,qF,(pp xg),(List.flatten [ur]),pI,(show BT (some v30.2) (pp xg) (List.flatten [ur]) from⟨xg,ur,tN,J,J⟩),J⟩)⟩ J J)))))))
  refine rc T 6 (cb J bf (λbf=>?_) (λbf=>?_))
  ·obtain⟨Q',Ah,akN,LR,Bm,Bn,SR⟩:=(λx=>x) cX;refine bS 6 (congrArg some SR) (fz J ?_);rcases HO:s.cZ with _ |wT
   ·replace bf:=eW HO bf;rw[HO] at Bn;obtain⟨rfl,rfl⟩:=Bn;refine ke [0,4] [0,0,0,0,0,1,1,1] J J (fz J (rq [] [0,0,0,0,0,0,0,0] J mix (bO bN) (λhg pf=>ha T 6 [0,1,2] sz hg pf J (av 3 sz hg pf J (aw T J J J J (aK (j:=5) J J)) (ha T 4 [4] sz hg pf J (av 5 sz hg pf J (aw T J J J J (aK (j:=4) J J)) (ao 6 (kh [] J Uc bf (F8.c ·) (λv33 bf=>an sz (ao 7 (kR (fO.R el) [] [] J vP bf (fO.c · (dG hG (j:=0) J)) (λFo bf=>?_))))))))))));rintro LG _ ⟨LG,lH,PH,rfl,rfl⟩;refine fz J (an (so [0,0,0,0,0,0,0,0]) (ha T 0 [8] (so [0,0,0,0,0,0,0,0]) hg pf J (ae (rx T 2 (cq [5,5,5] J SR (am (_,_,_,_,_,_,_,_,_,_,_,_,_,_,_,_,_,_,_,_,_,_,_) [0,4,0,0,0,1] ⟨oi bf,PH,nV,nU,cX⟩ J J))))))
   replace bf:=eX HO bf;rw[HO] at Bn;obtain⟨F0,FC,zL,rfl,acz⟩:=Bn;refine bS 8 (congrArg some acz) (fz J (ke [0,4] [0,0,0,0,0,1,1,1] J J (fz J (rq [6] [0,0,0,0,0,0,0,0] J mix (bO bN) (λhg pf=>ha T 6 [0,1,2] sz hg pf J (av 3 sz hg pf J (aw T J J J J (aK (j:=5) J J)) (ha T 4 [4] sz hg pf J (av 5 sz hg pf J (aw T J J J J (aK (j:=4) J J)) (ao 6 (kR (uC.R F0) [] [7] J Uc bf (uC.c · zL) (λv35 bf=>?_)))))))))));rintro _ _ ⟨gI,tP,rfl,rfl⟩;refine fz J (an sl (ao 7 (kR (fO.R el) [] [] J vP bf (fO.c · (dG hG (j:=0) J)) (λXU bf=>?_))));rintro v44 _ ⟨v44,Ya,Dp,rfl,rfl⟩;refine fz J (an sl (hb T 8 sl hg pf J (ae (rx T 2 (gq [7] J (gq [5,5,6] J (am (_,_,_,_,_,_,_,_,_,_,_,_,_,_,_,_,_,_,_,_,_,_,_) [0,4,0,0,0,1] ⟨oi bf,Dp,nV,nU,(show fQ (bH.mk s.most s.nav (some v35.2)) bh (List.flatten [(cl bh 103 [(ii s.most),(pp Q'),(pp F0)]),Ah,(List.flatten [gI])]) from⟨Q',Ah,(pp F0),(List.flatten [gI]),Bm,(show BT (some v35.2) (pp F0) (List.flatten [gI]) from⟨F0,gI,tP,J,J⟩),J⟩)⟩ J J)))))))
  refine rc T 6 (cb J bf (λbf=>?_) (λbf=>?_))
  ·refine rc T 4 (lf T 4 J (ro T 1 (lf T 4 J (kr (uf.R el bh pg) [] [6,1,1,1] J aeM bf (uf.c · (dG hG (j:=0) J) cX nV nU) (λv37 bf=>?_)))));rintro v46 _ ⟨v46,Yb,FD,FK,n48,FE,a49,n49,Yc,PJ,HZ,Li,s49,rfl,rfl⟩;refine fz J (ro T 4 (am (_,_,_,_,_,_,_,_,_,_,_,_,_,_,_,_,_,_,_,_,_,_,_) [0,2,3,3,3,2] ⟨oi bf,PJ,Li,s49,HZ⟩ J J))
  refine rc T 6 (cb J bf (λbf=>?_) (λbf=>?_))
  ·refine rc T 3 (kr (su.R el bh pg) [] [6,1,1,1] J aeN bf (su.c · (dG hG (j:=0) J) cX nV nU) (λoY bf=>?_));rintro v50 _ ⟨v50,Yd,Ye,L4,n52,LU,a53,n53,Yf,PK,Lj,E7,PL,rfl,rfl⟩;refine fz J (ro T 4 (am (_,_,_,_,_,_,_,_,_,_,_,_,_,_,_,_,_,_,_,_,_,_,_) [0,2,3,3,3,2] ⟨oi bf,PK,E7,PL,Lj⟩ J J))
  refine rc T 3 (am (_,_,_,_,_,_,_,_,_,_,_,_,_,_,_,_,_,_,_,_,_,_,_) [0,4,0,0,0,1] ⟨oi bf,dm,nV,nU,cX⟩ J J)
 rintro _ ⟨x8,x9,aN,bj,bx,aU,bc,bY,dg,cD,cy,dE,jk,dH,LD,fX,jS,n15,dI,jT,n16,fY,eH⟩ ⟨rfl,gF,dP,fU,fq⟩ H;refine rc T 7 ?_
 cases H;exact p1 T J [1,4,1,1,1,0] ⟨LD,fX,eH,jS,n15,dI,jT,n16,fY,gF,fq,dP,fU,J,J⟩ J
def DC.f (err:Er):Option Int:=(vF.f err (Er.eF 0)).bind λv1=>if v1=true then(some 5) else((Gf.f err).bind λv2=>if(Option.isSome v2)=true then(some (Option.getD v2 0)) else(some 0))
theorem DC.c (H:DC.f err=some r) (hG:fW 414 fp iw el F) (D7:lW 414 el err Qb F):
 QU 56 [Qb] [] F (ii r):=by
 unfold DC.f at H;refine aD Tryz.func56 J J (λW=>rc T 7 (nc T J (λb1=>fz J (ro T 7 (lg T J (rY (j:=0) J hG (g:=0) (by decide)) (k [] J Kc H (vF.c err (Er.eF 0) _ _ · (dG hG (j:=0) J) (Gg D7 (j:=0) J) JC) (λv1 H=>ro T 3 (cb J H (λH=>?_) (λH=>?_)))))))))
 ·refine rc T 8 ?_
  cases H;exact p0 T J [0] J
 refine rc T 3 (br J (iu T J J J J) ?_);obtain⟨v2,V3,H⟩:=gu H;refine aX (sO (As:=[(cl b1 148 [(ii 0)])]) (R:=[F]) (B:=λ_=>[(cl b1 148 [(ii (Option.getD v2 0))])]) [1] J J J J Ke J J (Gf.c err v2 _ V3 (dG hG (j:=0) J) (Gg D7 (j:=0) J)) (λ_=>ro T 3 (cb J H (λH=>?_) (λH=>?_))))
 ·refine rc T 2 (lf T 1 J (ro T 6 ?_))
  cases H;exact p0 T J [0] J
 refine rc T 9 ?_
 cases H;exact p0 T J [0] J
theorem XG.c {b:Nat} {c0 c1 c2:Value} (F:Hp) (m:(b,Obj.cells #[c0,c1,c2] 103 (0,0))∈F):
 QU 42 [(pp b)] [] F c1:=by
 refine aD Tryz.func42 J J (λW=>rc T 12 (eT J (rc T 7 (lg T J (nL (j:=0) m J J) (ro T 4 (FY (T:=T) J (.tmp J .nil) (λw o=>⟨(),J,Da [0] J o⟩)))))))
def zU.f (s:bH):Option fZ:=(C2.f s.nav).bind λv1=>some v1
theorem zU.c (H:zU.f s=some r) (cX:fQ s bh dQ):
 QU 22 [(pp bh)] [dQ] F (.agg #[(uu r.bA),(uu r.bB),(uu r.bz),(uu r.bw),(uu r.bF),(uu r.bD)]):=by
 unfold zU.f at H;refine aD Tryz.func22 J J (λW=>rc T 2 (nc T J (λb2=>fz J (ro T 3 ?_))));obtain⟨b4,H4,yj,H5,s4,s5,dy⟩:=(λx=>x) cX;refine bS 0 (congrArg some dy) (fz J (rc T 2 (aX (sO (B:=λ_=>[]) [] J J J J TX J J (XG.c _ (zu (j:=2) J)) (λ_=>k [3] J aet H (C2.c · s4) (λv1 H=>j3 T 1 J (ro T 3 ?_)))))))
 cases H;refine cq [2,2,2] J dy (pb T J (.cQ (j:=1) [(uu r.bA),(uu r.bB),(uu r.bz),(uu r.bw),(uu r.bF),(uu r.bD)] J J J J J J J .nil) [2,0] () J J)
def ig.f (s:bH) (o:cR):Option (eI×bH):=(rp.f s o (eI.mk 0 0 5 (-1) ([]:List eD) ([]:List Int) (fZ.mk 0 0 0 0 0 0))).bind λv1=>if(!(Er.isNil v1.1))=true then((DC.f (Er.wrap 110 [o.Kind] v1.1)).bind λv2=>(zU.f v1.2.1).bind λv3=>some ((eI.mk v2 v1.2.2.D v1.2.2.bX v1.2.2.Id v1.2.2.cF v1.2.2.di v3),v1.2.1)) else((zU.f v1.2.1).bind λv4=>some ((eI.mk v1.2.2.Code v1.2.2.D v1.2.2.bX v1.2.2.Id v1.2.2.cF v1.2.2.di v4),v1.2.1))
def ig.R (el:Nat->Addr) (nz:Nat) (r:(eI×bH)):bg:=λu G=> ∃(a0 n0 H0:_) (a1 n1 H1:_) (H2:Hp),aj iJ 94 r.1.cF a0 n0 H0/\aj (Fl.int .i64) 3 r.1.di a1 n1 H1/\fQ r.2 nz H2/\u=(.agg #[(ii r.1.Code),(ii r.1.D),(ii r.1.bX),(ii r.1.Id),(ll a0 r.1.cF n0),(ll a1 r.1.di n1),(uu r.1.Stats.bA),(uu r.1.Stats.bB),(uu r.1.Stats.bz),(uu r.1.Stats.bw),(uu r.1.Stats.bF),(uu r.1.Stats.bD)])/\G=[H0,H1,H2]
theorem ig.c (H:ig.f s o=some r) (hG:fW 414 fp iw el F) (cX:fQ s bh dQ) (AL:aP (Fl.int .u8) o.Map B3 F) (Ax:List.length o.Map<=C0):
 QR 24 [(pp bh),(.agg #[(ii o.Kind),(ii o.A),(ii o.B),(ll B3 o.Map C0)])] [dQ] [] F (ig.R el bh r):=by
 unfold ig.f at H;refine aD Tryz.func24 J J (λW=>rc T 2 (nc T J (λb2=>fz J (nc T J (λb3=>fz J (ro T 5 (nc T J (λb4=>fz J (j3 T 4 J (ro T 9 (eT J (rc T 5 (j3 T 4 J (ro T 1 (ks [0,3,4,5] J (rx T 1 (rc T 4 (lm T 2 J (aq J (aq J (kr (rp.R el bh b4) [] [0,3,3,3] J aeu H (rp.c (a:=(eI.mk 0 0 5 (-1) ([]:List eD) ([]:List Int) (fZ.mk 0 0 0 0 0 0))) · (dG hG (j:=0) J) cX (rO AL 0) Ax (aj.nil (k:=iJ) (E:=94)) (aj.nil (k:=(Fl.int .i64)) (E:=3))) (λv1 H=>?_))))))))))))))))))))));rintro v7 _ ⟨v7,H7,H8,a9,n9,H9,cB,n10,b_,s7,s8,s9,bP,rfl,rfl⟩;refine fz J (ro T 6 (br J (Ea T J J J (rP s7 (j:=3) J)) (ro T 2 (cb J H (λH=>?_) (λH=>?_)))))
 ·refine rc T 2 (lf T 1 J (ro T 1 (br J (Ss (vs:=[(0,(ii o.Kind)),(1,v7)]) T [(0,[(ii o.Kind)]),(1,[v7])] J J J J J (by simp only[List.map,R_ s7];rfl) J) ?_)))
  refine nc T J (λjU=>fz J (gq [8,3] J (br J (iu T J J J J) (k [] J aev H (DC.c · (dG hG (j:=0) J) (rP (p9 s7) (j:=7) J)) (λv2 H=>ro T 1 (j3 T 4 J (ro T 5 (k [3] J TI H (zU.c · s8) (λv3 H=>ro T 1 (j3 T 4 J (ro T 1 (ke [4,5] [0,1,1,1,1,1] J J (rx T 3 (lm T 3 J (j3 T 1 J (ro T 1 (rx T 2 ?_)))))))))))))))))
  cases H;exact pb T J (.cQ (j:=1) [(ii v2),(ii v1.2.2.D),(ii v1.2.2.bX),(ii v1.2.2.Id),(ll a9 v1.2.2.cF n9),(ll cB v1.2.2.di n10),(uu v3.bA),(uu v3.bB),(uu v3.bz),(uu v3.bw),(uu v3.bF),(uu v3.bD)] J J J J J J J .nil) [4,4,2,0] ⟨(_,_),a9,n9,H9,cB,n10,b_,H8,s9,bP,s8,J,J⟩ J J
 refine rc T 5 (k [4] J TI H (zU.c · s8) (λv4 H=>ro T 1 (j3 T 5 J (ro T 4 (lm T 5 J (j3 T 2 J (ro T 1 (ke [4] [0,1,2,3,3] J J (rx T 1 (rc T 1 ?_))))))))))
 cases H;exact pb T J (.cQ (j:=1) [(ii v1.2.2.Code),(ii v1.2.2.D),(ii v1.2.2.bX),(ii v1.2.2.Id),(ll a9 v1.2.2.cF n9),(ll cB v1.2.2.di n10),(uu v4.bA),(uu v4.bB),(uu v4.bz),(uu v4.bw),(uu v4.bF),(uu v4.bD)] J J J J J J J .nil) [3,3,2,0] ⟨(_,_),a9,n9,H9,cB,n10,b_,H8,s9,bP,s8,J,J⟩ J J
theorem Lv.c {b:Nat} {c0 c1 c2:Value} (F:Hp) (m:(b,Obj.cells #[c0,c1,c2] 103 (0,0))∈F):
 QU 53 [(pp b)] [] F c2:=by
 refine aD Tryz.func53 J J (λW=>rc T 12 (eT J (rc T 7 (lg T J (nL (j:=0) m J J) (ro T 4 (FY (T:=T) J (.tmp J .nil) (λw o=>⟨(),J,Da [0] J o⟩)))))))
def BC.f (s:bH):Option (List aF):=cT s.cZ ((AB.f).bind λv2=>some v2) (λx1=>(oA.f x1).bind λv3=>some v3)
def BC.R (r:(List aF)):bg:=λu G=> ∃a0 n0 H0,aj lQ 67 r a0 n0 H0/\u=(ll a0 r n0)/\G=[H0]
theorem BC.c (H:BC.f s=some r) (cX:fQ s bh dQ):
 QR 23 [(pp bh)] [dQ] [dQ] F (BC.R r):=by
 unfold BC.f at H;refine aD Tryz.func23 J J (λW=>rc T 6 ?_);obtain⟨b3,H3,ui,H4,s3,s4,ct⟩:=(λx=>x) cX;refine bS 0 (congrArg some ct) (fz J ?_);rcases q1:s.cZ with _ |x1
 ·replace H:=eW q1 H;rw[q1] at s4;obtain⟨rfl,rfl⟩:=s4;refine rc T 2 (aX (sO (B:=λ_=>[]) [] J J J J Ka J J (Lv.c _ (zu (j:=1) J)) (λ_=>kr AB.R [] [] J Kb H (AB.c ·) (λv2 H=>?_))));rintro _ _ ⟨a7,n7,H7,s7,rfl,rfl⟩;refine fz J (ro T 4 ?_)
  cases H;refine cq [1,1,1] J ct (p1 T J [1,1,0] ⟨a7,n7,H7,s7,J,J⟩ J)
 replace H:=eX q1 H;rw[q1] at s4;obtain⟨b6,H6,s6,rfl,s_⟩:=s4;refine bS 3 (congrArg some s_) (fz J (rc T 2 (aX (sO (B:=λ_=>[]) [] J J J J Ka J J (Lv.c _ (zu (j:=1) J)) (λ_=>kr oA.R [3] [3] J Kb H (oA.c · s6) (λv3 H=>?_))))));rintro _ _ ⟨a8,n8,H8,s8,rfl,rfl⟩;refine fz J (ro T 4 ?_)
 cases H;refine cq [4] J s_ (cq [1,1,2] J ct (p1 T J [1,1,0] ⟨a8,n8,H8,s8,J,J⟩ J))
def ud.f (s:bH):Option (List Int):=cT s.cZ ((AD.f).bind λv2=>some v2) (λx1=>(vA.f x1).bind λv3=>some v3)
def ud.R (r:(List Int)):bg:=λu G=> ∃a0 n0 H0,aj (Fl.int .u32) 65 r a0 n0 H0/\u=(ll a0 r n0)/\G=[H0]
theorem ud.c (H:ud.f s=some r) (cX:fQ s bh dQ):
 QR 31 [(pp bh)] [dQ] [dQ] F (ud.R r):=by
 unfold ud.f at H;refine aD Tryz.func31 J J (λW=>rc T 6 ?_);obtain⟨b3,H3,ui,H4,s3,s4,ct⟩:=(λx=>x) cX;refine bS 0 (congrArg some ct) (fz J ?_);rcases q1:s.cZ with _ |x1
 ·replace H:=eW q1 H;rw[q1] at s4;obtain⟨rfl,rfl⟩:=s4;refine rc T 2 (aX (sO (B:=λ_=>[]) [] J J J J Ka J J (Lv.c _ (zu (j:=1) J)) (λ_=>kr AD.R [] [] J T7 H (AD.c ·) (λv2 H=>?_))));rintro _ _ ⟨a7,n7,H7,s7,rfl,rfl⟩;refine fz J (ro T 4 ?_)
  cases H;refine cq [1,1,1] J ct (p1 T J [1,1,0] ⟨a7,n7,H7,s7,J,J⟩ J)
 replace H:=eX q1 H;rw[q1] at s4;obtain⟨b6,H6,s6,rfl,s_⟩:=s4;refine bS 3 (congrArg some s_) (fz J (rc T 2 (aX (sO (B:=λ_=>[]) [] J J J J Ka J J (Lv.c _ (zu (j:=1) J)) (λ_=>kr vA.R [3] [3] J T7 H (vA.c · s6) (λv3 H=>?_))))));rintro _ _ ⟨a8,n8,H8,s8,rfl,rfl⟩;refine fz J (ro T 4 ?_)
 cases H;refine cq [4] J s_ (cq [1,1,2] J ct (p1 T J [1,1,0] ⟨a8,n8,H8,s8,J,J⟩ J))
def uc.f (s:bH):Option aL:=(wh.f s.nav).bind λv1=>some v1
def uc.R (r:aL):bg:=λu G=> ∃a0 n0 H0,aj (Fl.int .u8) 5 r.C a0 n0 H0/\u=(.agg #[(ii r.W),(ii r.H),(ll a0 r.C n0)])/\G=[H0]
theorem uc.c (H:uc.f s=some r) (cX:fQ s bh dQ):
 QR 14 [(pp bh)] [dQ] [dQ] F (uc.R r):=by
 unfold uc.f at H;refine aD Tryz.func14 J J (λW=>rc T 2 (nc T J (λb2=>fz J (ro T 3 ?_))));obtain⟨b4,H4,yj,H5,s4,s5,dy⟩:=(λx=>x) cX;refine bS 0 (congrArg some dy) (fz J (rc T 2 (aX (sO (B:=λ_=>[]) [] J J J J TX J J (XG.c _ (zu (j:=2) J)) (λ_=>kr wh.R [3] [3] J aeq H (wh.c · s4) (λv1 H=>?_))))));rintro _ _ ⟨a6,n6,H6,s6,rfl,rfl⟩;refine fz J (j3 T 1 J (ro T 3 ?_))
 cases H;refine cq [2,4,2] J dy (pb T J (.cQ (j:=1) [(ii r.W),(ii r.H),(ll a6 r.C n6)] J J J J J J J .nil) [2,2,0] ⟨(_,_),a6,n6,H6,s6,J,J⟩ J J)
end
noncomputable section
def Di.f (a:eI) (b:eI):Option Bool:=(if(a.Code==b.Code)=true then(if(a.D==b.D)=true then(if(a.bX==b.bX)=true then(if(a.Id==b.Id)=true then((oP.f a.cF b.cF).bind λv3=>if v3=true then((pH.f a.di b.di).bind λv4=>some v4) else(some false)) else(some false)) else(some false)) else(some false)) else(some false)).bind λx1=>some x1
theorem Di.c (H:Di.f a b=some r) (acC:aP iJ a.cF sM F) (aaN:List.length a.cF<=tz) (acB:aP (Fl.int .i64) a.di sL F) (aaM:List.length a.di<=tx) (acF:aP iJ b.cF YK F) (aaQ:List.length b.cF<=agO) (acE:aP (Fl.int .i64) b.di YJ F) (aaP:List.length b.di<=agN):
 QU 64 [(.agg #[(ii a.Code),(ii a.D),(ii a.bX),(ii a.Id),(ll sM a.cF tz),(ll sL a.di tx),(uu a.Stats.bA),(uu a.Stats.bB),(uu a.Stats.bz),(uu a.Stats.bw),(uu a.Stats.bF),(uu a.Stats.bD)]),(.agg #[(ii b.Code),(ii b.D),(ii b.bX),(ii b.Id),(ll YK b.cF agO),(ll YJ b.di agN),(uu b.Stats.bA),(uu b.Stats.bB),(uu b.Stats.bz),(uu b.Stats.bw),(uu b.Stats.bF),(uu b.Stats.bD)])] [] F (bb r):=by
 unfold Di.f at H;refine aD Tryz.func64 J J (λW=>rc T 2 (nc T J (λb1=>nc T J (λb2=>ro T 3 (mq H [] [0] (λz2 (x1:Bool)=>(x1=z2,[(4,(bb x1))],[])) J J (λz2 Z1 _=>?_) ?_)))))
 ·refine rc T 2 (lf T 1 J (ro T 1 (lf T 2 J (ro T 2 (ab 10 J Z1 (λZ1=>?_) (λZ1=>?_))))))
  ·refine ro T 1 (lf T 1 J (ro T 1 (lf T 2 J (ro T 3 (ab 17 J Z1 (λZ1=>?_) (λZ1=>?_))))))
   ·refine ro T 1 (lf T 1 J (ro T 1 (lf T 2 J (ro T 3 (ab 24 J Z1 (λZ1=>?_) (λZ1=>?_))))))
    ·refine ro T 1 (lf T 1 J (ro T 1 (lf T 2 J (ro T 3 (ab 31 J Z1 (λZ1=>?_) (λZ1=>?_))))))
     ·refine ro T 1 (lf T 1 J (ro T 1 (lf T 2 J (k [] J TY Z1 (oP.c · (rO acC 0) aaN (rO acF 0) aaQ) (λv3 Z1=>ro T 2 (ab 38 J Z1 (λZ1=>?_) (λZ1=>?_)))))))
      ·refine ro T 1 (lf T 1 J (ro T 1 (lf T 2 J (k [] J aez Z1 (pH.c · (rO acB 0) aaM (rO acE 0) aaP) (λv4 Z1=>ro T 4 (am _ [0] (oi Z1) J J))))))
      refine ro T 9 (am _ [0] (oi Z1) J J)
     refine ro T 16 (am _ [0] (oi Z1) J J)
    refine ro T 23 (am _ [0] (oi Z1) J J)
   refine ro T 30 (am _ [0] (oi Z1) J J)
  refine ro T 37 (am _ [0] (oi Z1) J J)
 rintro _ x1 rfl H;refine rc T 1 ?_
 cases H;exact p0 T J [0] J
end
noncomputable section
def wM.f (l:(List tj)) (n:Int):Option Int:=if(0<=(0:Int)/\(0:Int)<=(if n<(List.length l:Int) then n else(List.length l:Int))/\(if n<(List.length l:Int) then n else(List.length l:Int))<=(List.length l:Int)) then(some (if n<(List.length l:Int) then n else(List.length l:Int))) else none
theorem wM.c (H:wM.f l n=some r) (dr:aP Ha l iE F) (gB:List.length l<=iy):
 QU 13 [(ll iE l iy),(ii n)] [] F (ll (gm iE iy (Int.toNat 0) 3) (aA l 0 r) (iy-Int.toNat 0)):=by
 unfold wM.f at H;refine aD Tryz.func13 J J (λW=>rc T 12 ?_);obtain⟨c1,H⟩:=az H;refine br J (kE T J J J J J J c1 gB) (ro T 4 ?_);obtain rfl:=Option.some.inj H;exact FY (T:=T) J (.tmp J .nil) (λw o=>⟨(),J,Da [0] J o⟩)
theorem wM.b {l:(List tj)} {n:Int} {r:Int} (H:wM.f l n=some r):(0<=(0:Int)/\(0:Int)<=r/\r<=(List.length l:Int)):=by
 unfold wM.f at H;obtain⟨c,H⟩:=az H;obtain rfl:=Option.some.inj H;exact c
def Fm.f:Option Bool:=(nZ.f 1 2).bind λv1=>cT v1 (some false) (λfm=>(lD.f (aL.mk 3 1 [5,2,9])).bind λv2=>(ig.f fm (cR.mk 1 0 0 v2)).bind λv3=>(ig.f v3.2 (cR.mk 3 0 2 [])).bind λv4=>(ig.f v4.2 (cR.mk 6 2 0 [])).bind λv5=>(ig.f v5.2 (cR.mk 7 0 0 [])).bind λv6=>(if(v3.1.Code==0)=true then(if(v4.1.Id==0)=true then(if(v5.1.D==11)=true then(if(v5.1.bX==1)=true then((oP.f v6.1.cF [(eD.mk 0 1)]).bind λv9=>if v9=true then((BC.f v6.2).bind λv10=>some ((List.length v10:Int)==1)) else(some false)) else(some false)) else(some false)) else(some false)) else(some false)).bind λx7=>some x7)
theorem Fm.c (H:Fm.f=some r) (hG:fW 414 fp iw el F):
 QU 18 [] [] F (bb r):=by
 unfold Fm.f at H;refine aD Tryz.func18 J J (λW=>rc T 7 (kr nZ.R [] [] J J6 H (nZ.c ·) (λv1 H=>?_)));rintro _ _ ⟨_,_,O2,rfl,rfl⟩;rcases v1 with _ |fm
 ·replace H:=eW J H;obtain⟨rfl,rfl⟩:=O2;refine ro T 10 (mu J (rc T 7 ?_))
  cases H;exact p0 T J [0] J
 replace H:=eX J H;obtain⟨b1,H1,s1,rfl,rfl⟩:=O2;refine ro T 10 (eT J (rc T 4 (aX (cY (k:=(Fl.int .u8)) T [5,2,9] J J J J J J J J J (λa2 H2 s2=>ro T 1 (nc T J (λb3=>sg T 3 J (ro T 5 (lm T 3 J (kr lD.R [] [] J NR H (lD.c (m:=(aL.mk 3 1 [5,2,9])) · (oO s2 2) s2.bT) (λv2 H=>?_)))))))))));rintro _ _ ⟨a4,n4,H4,s4,rfl,rfl⟩;refine fz J (ro T 1 (kr (ig.R el b1) [] [1] J Cq H (ig.c (o:=(cR.mk 1 0 0 v2)) · (dG hG (j:=0) J) s1 (oO s4 3) s4.bT) (λv3 H=>?_)));rintro _ _ ⟨a5,n5,H5,a6,n6,H6,H7,s5,s6,s7,rfl,rfl⟩;refine fz J (nc T J (λb8=>sg T 7 J (ro T 1 (ke [1,3] [0,3,3,3,3] J J (rx T 5 (kr (ig.R el b1) [] [3] J Cq H (ig.c (o:=(cR.mk 3 0 2 [])) · (dG hG (j:=0) J) s7 (.inl J) (Nat.le_refl _)) (λv4 H=>?_)))))));rintro _ _ ⟨a9,n9,H9,cB,n10,b_,cz,s9,bP,c_,rfl,rfl⟩;refine fz J (nc T J (λkY=>sg T 7 J (ro T 6 (kr (ig.R el b1) [] [6] J Cq H (ig.c (o:=(cR.mk 6 2 0 [])) · (dG hG (j:=0) J) c_ (.inl J) (Nat.le_refl _)) (λv5 H=>?_)))));rintro _ _ ⟨dK,n13,dV,je,n14,fX,dI,dm,gF,dP,rfl,rfl⟩;refine fz J (nc T J (λqI=>sg T 10 J (ro T 6 (kr (ig.R el b1) [] [9] J Cq H (ig.c (o:=(cR.mk 7 0 0 [])) · (dG hG (j:=0) J) dP (.inl J) (Nat.le_refl _)) (λv6 H=>?_)))));rintro _ _ ⟨a17,n17,eH,jo,n18,ft,kT,fq,fF,ie,rfl,rfl⟩;refine fz J (nc T J (λJs=>sg T 13 J (ro T 1 (ks [1,3,4,5,6] J (rx T 1 (mq H [] [0] (λz8 (x7:Bool)=>(x7=z8,[(0,(bb x7))],[])) J J (λz8 Z8 _=>?_) ?_))))))
 ·refine rc T 2 (lf T 3 J (ro T 2 (ab 29 J Z8 (λZ8=>?_) (λZ8=>?_))))
  ·refine ro T 1 (lf T 6 J (ro T 3 (ab 34 J Z8 (λZ8=>?_) (λZ8=>?_))))
   ·refine ro T 1 (lf T 9 J (ro T 3 (ab 39 J Z8 (λZ8=>?_) (λZ8=>?_))))
    ·refine ro T 1 (lf T 9 J (ro T 3 (ab 44 J Z8 (λZ8=>?_) (λZ8=>?_))))
     ·refine ro T 1 (lf T 13 J (ro T 1 (aX (cY (k:=iJ) T [(eD.mk 0 1)] J J J J J J J J J (λa21 kq jC=>k [] J TY Z8 (oP.c (b:=[(eD.mk 0 1)]) · (oO fq 10) fq.bT (oO jC 14) jC.bT) (λv9 Z8=>ro T 2 (ab 51 J Z8 (λZ8=>?_) (λZ8=>?_))))))))
      ·refine ro T 1 (kr BC.R [12] [12] J adI Z8 (BC.c · ie) (λv10 Z8=>?_));rintro _ _ ⟨a22,n22,lX,iz,rfl,rfl⟩;refine fz J (ro T 6 (am _ [0] (oi Z8) J J))
      refine ro T 8 (am _ [0] (oi Z8) J J)
     refine ro T 15 (am _ [0] (oi Z8) J J)
    refine ro T 20 (am _ [0] (oi Z8) J J)
   refine ro T 25 (am _ [0] (oi Z8) J J)
  refine ro T 30 (am _ [0] (oi Z8) J J)
 rintro _ x7 rfl H;refine rc T 1 ?_
 cases H;exact p0 T J [0] J
def qy.l0:Nat->(List eI)->(List eI)->Int->Option Bool
 |0,_,_,_=>none
 |k3+1,a,b,x2=>if x2<(List.length a:Int) then(if(0<=x2/\x2<(List.length a:Int)) then(if(0<=x2/\x2<(List.length b:Int)) then((Di.f (rd a x2) (rd b x2)).bind λv4=>if(!v4)=true then(some false) else(qy.l0 k3 a b (aa (x2+1)))) else none) else none) else(some true)
def qy.f (a:(List eI)) (b:(List eI)):Option Bool:=if((List.length a:Int)!=(List.length b:Int))=true then(some false) else(qy.l0 fuel a b 0)
theorem qy.c (H:qy.f a b=some r) (pq:kU Bg a sK F) (Cf:List.length a<=tv) (fh:kU Bg b gY F) (fJ:List.length b<=gP):
 QU 32 [(ll sK a tv),(ll gY b gP)] [] F (bb r):=by
 unfold qy.f at H;refine aD Tryz.func32 J J (λW=>rc T 15 (cb J H (λH=>?_) (λH=>?_)))
 ·refine rc T 7 ?_
  cases H;exact p0 T J [0] J
 refine rc T 9 (lq [0,1] [0] (λ(⟨k3,x2⟩:Nat×Int)=>(qy.l0 k3 a b x2=some r,[(5,(ii x2))],[])) J J (fuel,0) [0] H J J ?_);rintro k3 x2 Z2;replace Z2:qy.l0 (k3+1) a b x2=some r:=Z2;rw[qy.l0] at Z2;refine rc T 9 (cd J Z2 (λZ2=>?_) (λZ2=>?_))
 ·refine rc T 5 (dx mix ay (au T J (au T J ?_)));obtain⟨c4,Z2⟩:=az Z2;obtain⟨q1,o1,e1⟩:=pq.addr c4.1 c4.2;refine aO J J J (cC T J J J J J e1 c4.1 c4.2) ?_;obtain⟨_,w4,⟨a2,n2,a3,n3,⟨r2,m2⟩,⟨r3,m3⟩,rfl⟩⟩:=kU.view pq c4;refine aO J J J (fC T (cs:=[(ii (rd a x2).Code),(ii (rd a x2).D),(ii (rd a x2).bX),(ii (rd a x2).Id),(ll a2 (rd a x2).cF n2),(ll a3 (rd a x2).di n3),(uu (rd a x2).Stats.bA),(uu (rd a x2).Stats.bB),(uu (rd a x2).Stats.bz),(uu (rd a x2).Stats.bw),(uu (rd a x2).Stats.bF),(uu (rd a x2).Stats.bD)]) J J J J J J (EH (j:=0) J w4 e1 0 J)) (au T J (au T J ?_));obtain⟨c5,Z2⟩:=az Z2;obtain⟨q5,o5,e5⟩:=fh.addr c5.1 c5.2;refine aO J J J (cC T J J J J J e5 c5.1 c5.2) ?_;obtain⟨_,w8,⟨a6,n6,a7,n7,⟨r6,m6⟩,⟨r7,m7⟩,rfl⟩⟩:=kU.view fh c5;refine aO J J J (fC T (cs:=[(ii (rd b x2).Code),(ii (rd b x2).D),(ii (rd b x2).bX),(ii (rd b x2).Id),(ll a6 (rd b x2).cF n6),(ll a7 (rd b x2).di n7),(uu (rd b x2).Stats.bA),(uu (rd b x2).Stats.bB),(uu (rd b x2).Stats.bz),(uu (rd b x2).Stats.bw),(uu (rd b x2).Stats.bF),(uu (rd b x2).Stats.bD)]) J J J J J J (EH (j:=0) J w8 e5 0 J)) ?_;obtain⟨v4,V6,Z2⟩:=gu Z2;refine uy J J J J J J aew J (Di.c V6 (rO r2 0) m2 (rO r3 0) m3 (rO r6 0) m6 (rO r7 0) m7) (au T J (dh (rx T 1 (cb J Z2 (λZ2=>?_) (λZ2=>?_)))))
  ·refine rc T 11 ?_
   cases Z2;exact p0 T J [0] J
  refine rc T 9 (ar _ [0] Z2 J J)
 refine rc T 11 ?_
 cases Z2;exact p0 T J [0] J
end
noncomputable section
def oV.l0:Nat->(List Bool)->(List cR)->bH->bH->List eI->List eI->Int->Option Bool
 |0,_,_,_,_,_,_,_=>none
 |zp+1,flush,v2,bc,bY,dg,cD,cy=>if cy<(List.length v2:Int) then((if cy<(List.length flush:Int) then(if(0<=cy/\cy<(List.length flush:Int)) then(if(rd flush cy)=true then((ig.f bY (cR.mk 8 0 0 [])).bind λv23=>some (v23.2,(v23.1.Code !=0))) else(some (bY,false))) else none) else(some (bY,false))).bind λ(jk,dH)=>if dH=true then(some false) else(if(0<=cy/\cy<(List.length v2:Int)) then((ig.f bc (rd v2 cy)).bind λv24=>if(List.length dg+1<=1099511627776) then((ig.f jk (rd v2 cy)).bind λv25=>if(List.length cD+1<=1099511627776) then(oV.l0 zp flush v2 v24.2 v25.2 (dg++[v24.1]) (cD++[v25.1]) (aa (cy+1))) else none) else none) else none)) else(((Fm.f).bind λv28=>if v28=true then((qy.f dg cD).bind λpR=>if pR=true then((ud.f bc).bind λv30=>(ud.f bY).bind λv31=>(qm.f v30 v31).bind λv32=>if v32=true then((uc.f bc).bind λv33=>(uc.f bY).bind λFo=>(Dh.f v33 Fo).bind λv35=>some v35) else(some false)) else(some false)) else(some false)).bind λiA=>some iA)
def oV.f (ag:Int) (o:Int) (w:Int) (h:Int) (p4:(List Int)) (l:(List tj)) (flush:(List Bool)):Option Bool:=(wM.f l 40).bind λv1=>(nT.f w h p4 (aA l 0 v1)).bind λv2=>(eN.f ag 1 9).bind λv3=>(nZ.f v3 5).bind λv4=>cT v4 ((eN.f o 1 9).bind λv5=>(nZ.f v5 5).bind λv6=>cT v6 (some false) (λvi=>some false)) (λrD=>(eN.f o 1 9).bind λv7=>(nZ.f v7 5).bind λv8=>cT v8 (some false) (λyn=>oV.l0 fuel flush v2 rD yn [] [] 0))
theorem oV.c (H:oV.f ag o w h p4 l flush=some r) (hG:fW 414 fp iw el F) (acI:aP (Fl.int .u8) p4 YQ F) (aaU:List.length p4<=agT) (dr:aP Ha l iE F) (gB:List.length l<=iy) (S4:aP Fl.bool flush YL F) (akg:List.length flush<=agP):
 QU 8 [(ii ag),(ii o),(ii w),(ii h),(ll YQ p4 agT),(ll iE l iy),(ll YL flush agP)] [] F (bb r):=by
 unfold oV.f at H;refine aD Tryz.func8 J J (λW=>rc T 11 ?_);obtain⟨v1,V1,H⟩:=gu H;have c2:=wM.b V1;refine aX (sO (B:=λ_=>[]) [] J J J J acX J J (wM.c V1 (rO dr 0) gB) (λ_=>kr nT.R [] [] J ads H (nT.c · (rO acI 0) aaU (nj (rO dr 0) c2 gB) (mO c2 gB)) (λv2 H=>?_)));rintro _ _ ⟨a1,n1,H1,s1,rfl,rfl⟩;refine fz J (ro T 6 (k [] J kF H (eN.c ·) (λv3 H=>kr nZ.R [] [] J J6 H (nZ.c ·) (λv4 H=>?_))));rintro _ _ ⟨_,_,O6,rfl,rfl⟩;rcases v4 with _ |rD
 ·replace H:=eW J H;obtain⟨rfl,rfl⟩:=O6;refine ro T 1 (k [] J kF H (eN.c ·) (λv5 H=>kr nZ.R [] [] J J6 H (nZ.c ·) (λv6 H=>?_)));rintro _ _ ⟨_,_,O9,rfl,rfl⟩;rcases v6 with _ |vi
  ·replace H:=eW J H;obtain⟨rfl,rfl⟩:=O9;refine ro T 15 (mu J (rc T 7 ?_))
   cases H;exact p0 T J [0] J
  replace H:=eX J H;obtain⟨b3,H3,s3,rfl,rfl⟩:=O9;refine ro T 15 (mu J (rc T 7 ?_))
  cases H;exact p0 T J [0] J
 replace H:=eX J H;obtain⟨b2,H2,s2,rfl,rfl⟩:=O6;refine ro T 1 (k [] J kF H (eN.c ·) (λv7 H=>kr nZ.R [] [] J J6 H (nZ.c ·) (λv8 H=>?_)));rintro _ _ ⟨_,_,I_,rfl,rfl⟩;rcases v8 with _ |yn
 ·replace H:=eW J H;obtain⟨rfl,rfl⟩:=I_;refine ro T 15 (mu J (rc T 7 ?_))
  cases H;exact p0 T J [0] J
 replace H:=eX J H;obtain⟨b4,H4,s4,rfl,rfl⟩:=I_;refine ro T 15 (eT J (rc T 15 (bq (bq (lq [6,15,16,17] [0,0] (λ(⟨zp,bc,bY,dg,cD,cy,H9,b_,dj,n11,cz,a12,n12,dq⟩:Nat×bH×bH×List eI×List eI×Int×Hp×Hp×Option Addr×Nat×Hp×Option Addr×Nat×Hp)=>(oV.l0 zp flush v2 bc bY dg cD cy=some r/\fQ bc b2 H9/\fQ bY b4 b_/\fI Bg 52 dg dj n11 cz/\fI Bg 52 cD a12 n12 dq,[(18,(ll dj dg n11)),(19,(ll a12 cD n12)),(20,(ii cy))],[H9,b_,cz,dq])) J J (fuel,rD,yn,[],[],0,H2,H4,none,0,[],none,0,[]) [0,0,0,0,0,0] ⟨H,s2,s4,fI.nil,fI.nil⟩ J J ?_)))));rintro zp ⟨bc,bY,dg,cD,cy,H9,b_,dj,n11,cz,a12,n12,dq⟩ ⟨ff,s9,bP,c_,dz⟩;rw[oV.l0] at ff;refine rc T 9 (cd J ff (λff=>?_) (λff=>?_))
 ·refine rc T 5 (mq ff [6,15,16,17,18,19,20] [0,0,0,1,1] (λz22 (⟨jk,dH,dV⟩:bH×Bool×Hp)=>((jk,dH)=z22/\fQ jk b4 dV,[(61,(bb dH))],[dV])) J J (λz22 cA _=>?_) ?_)
  ·refine rc T 6 (ad 49 J cA (λcA=>?_) (λcA=>?_))
   ·refine ro T 2 ?_;obtain⟨jI,cA⟩:=az cA;obtain⟨Wn,VR,xm⟩:=S4.addr jI.1 jI.2;refine ix T J xm jI (le T 0 (rO S4 0) xm jI J J (ro T 2 (ab 55 J cA (λcA=>?_) (λcA=>?_))))
    ·refine ro T 2 (kr (ig.R el b4) [] [3] J Cq cA (ig.c (o:=(cR.mk 8 0 0 [])) · (dG hG (j:=0) J) bP (.inl J) (Nat.le_refl _)) (λv23 cA=>?_));rintro _ _ ⟨jS,n15,dI,jT,n16,fY,eH,dP,fU,fq,rfl,rfl⟩;refine fz J (ro T 5 (am (_,_,_) [0,0,0,0,0,2] ⟨oi cA,fq⟩ J J))
    refine ro T 8 (am (_,_,_) [0,0,0,1,1,0] ⟨oi cA,bP⟩ J J)
   refine ro T 14 (am (_,_,_) [0,0,0,1,1,0] ⟨oi cA,bP⟩ J J)
  rintro _ ⟨jk,dH,dV⟩ ⟨rfl,dm⟩ ff;refine cb J ff (λff=>?_) (λff=>?_)
  ·refine rc T 12 ?_
   cases ff;exact p0 T J [0] J
  refine rc T 2 (fz J (rg [15,17] [0,0,2,2] mix (bO bN) (λhg pf=>ha T 16 [0,1,2,3] (so [0,0,2,2]) hg pf J ?_)));obtain⟨kB,ff⟩:=az ff;obtain⟨q18,o18,JA⟩:=s1.r.addr kB.1 kB.2;refine av 4 (so [0,0,2,2]) hg pf J (cC T J J J J J JA kB.1 kB.2) ?_;obtain⟨_,XX,⟨kW,n19,⟨WU,m19⟩,rfl⟩⟩:=kU.view s1.r kB;refine av 5 (so [0,0,2,2]) hg pf J (fC T (cs:=[(ii (rd v2 cy).Kind),(ii (rd v2 cy).A),(ii (rd v2 cy).B),(ll kW (rd v2 cy).Map n19)]) J J J J J J (EH (j:=1) J XX JA 0 J)) (ha T 10 [9,10,11,12] (so [0,0,2,2]) hg pf J (av 13 (so [0,0,2,2]) hg pf J (cC T J J J J J JA kB.1 kB.2) (av 14 (so [0,0,2,2]) hg pf J (fC T (cs:=[(ii (rd v2 cy).Kind),(ii (rd v2 cy).A),(ii (rd v2 cy).B),(ll kW (rd v2 cy).Map n19)]) J J J J J J (EH (j:=1) J XX JA 0 J)) (ao 6 (kR (ig.R el b2) [] [2] J Cq ff (ig.c · (dG hG (j:=0) J) s9 (rO WU 1) m19) (λv24 ff=>?_))))));rintro _ _ ⟨a21,n21,kq,a22,n22,lX,jE,jC,iz,gG,rfl,rfl⟩;refine fz J (an (so [0,0,1,1]) (ao 7 (f_ [5,5] J (B7 (kd:=Bg) (E:=52) (q:=6) (c:=[(ii v24.1.Code),(ii v24.1.D),(ii v24.1.bX),(ii v24.1.Id),(ll a21 v24.1.cF n21),(ll a22 v24.1.di n22),(uu v24.1.Stats.bA),(uu v24.1.Stats.bB),(uu v24.1.Stats.bz),(uu v24.1.Stats.bw),(uu v24.1.Stats.bF),(uu v24.1.Stats.bD)]) T v24.1 J J J J J J J J J J ⟨a21,n21,kq,a22,n22,lX,jC,iz,J,J⟩ (λa25 gV jh=>an (so [0,0,1,1]) (ao 8 ?_))))));obtain⟨Jv,ff⟩:=az ff;refine B6 (kd:=Bg) (xs:=dg) (ys:=[v24.1]) T (g:=2) (q:=7) J J J J J J J J J J c_ J J jh Jv J (λa26 n26 ot mL=>an (so [0,0,1,1]) (ao 15 (kR (ig.R el b4) [] [4] J Cq ff (ig.c · (dG hG (j:=0) J) dm (rO WU 1) m19) (λv25 ff=>?_))));rintro _ _ ⟨BZ,n27,BR,a28,n28,sC,qF,tM,jO,pI,rfl,rfl⟩;refine fz J (an sl (ao 16 (f_ [7,7] J (B7 (kd:=Bg) (E:=52) (q:=8) (c:=[(ii v25.1.Code),(ii v25.1.D),(ii v25.1.bX),(ii v25.1.Id),(ll BZ v25.1.cF n27),(ll a28 v25.1.di n28),(uu v25.1.Stats.bA),(uu v25.1.Stats.bB),(uu v25.1.Stats.bz),(uu v25.1.Stats.bw),(uu v25.1.Stats.bF),(uu v25.1.Stats.bD)]) T v25.1 J J J J J J J J J J ⟨BZ,n27,BR,a28,n28,sC,tM,jO,J,J⟩ (λa31 Ag wz=>an sl (ao 17 ?_))))));obtain⟨MA,ff⟩:=az ff;refine B6 (kd:=Bg) (xs:=cD) (ys:=[v25.1]) T (g:=3) (q:=9) J J J J J J J J J J dz J J wz MA J (λa32 n32 Fy wA=>an sl (hb T 18 sl hg pf J (hb T 19 sl hg pf J (ae (rx T 8 (ar (_,_,_,_,_,_,_,_,_,_,_,_,_) [0,0,2,4,0,0] ⟨ff,gG,pI,mL,wA⟩ J J))))))
 refine rc T 5 (mq ff [] [0] (λIX (iA:Bool)=>(iA=IX,[(14,(bb iA))],[])) J J (λIX gJ _=>?_) ?_)
 ·refine rc T 1 (k [] J adg gJ (Fm.c · (dG hG (j:=0) J)) (λv28 gJ=>ro T 1 (ab 81 J gJ (λgJ=>?_) (λgJ=>?_))))
  ·refine ro T 2 (k [] J aen gJ (qy.c · (RS c_ (j:=4) J) c_.bT (RS dz (j:=5) J) dz.bT) (λpR gJ=>ro T 2 (ab 86 J gJ (λgJ=>?_) (λgJ=>?_))))
   ·refine ro T 1 (kr ud.R [2] [2] J TW gJ (ud.c · s9) (λv30 gJ=>?_));rintro _ _ ⟨a33,n33,Fz,si,rfl,rfl⟩;refine fz J (ro T 1 (kr ud.R [2] [2] J TW gJ (ud.c · bP) (λv31 gJ=>?_)));rintro _ _ ⟨DV,n34,ur,tN,rfl,rfl⟩;refine fz J (k [] J aeo gJ (qm.c · (oO si 4) si.bT (oO tN 6) tN.bT) (λv32 gJ=>ro T 2 (ab 93 J gJ (λgJ=>?_) (λgJ=>?_))))
    ·refine ro T 1 (kr uc.R [5] [5] J Tf gJ (uc.c · s9) (λv33 gJ=>?_));rintro _ _ ⟨a35,n35,FA,Dm,rfl,rfl⟩;refine fz J (ro T 1 (kr uc.R [6] [6] J Tf gJ (uc.c · bP) (λFo gJ=>?_)));rintro _ _ ⟨yD,n36,yu,xY,rfl,rfl⟩;refine fz J (k [] J aep gJ (Dh.c · (oO Dm 6) Dm.bT (oO xY 8) xY.bT) (λv35 gJ=>ro T 4 (am _ [0] (oi gJ) J J)))
    refine ro T 9 (am _ [0] (oi gJ) J J)
   refine ro T 16 (am _ [0] (oi gJ) J J)
  refine ro T 21 (am _ [0] (oi gJ) J J)
 rintro _ iA rfl ff;refine rc T 1 ?_
 cases ff;exact p0 T J [0] J
def oV.Pure:Prop:= ∀(ag:Int) (o:Int) (w:Int) (h:Int) (p4:(List Int)) (l:(List tj)) (flush:(List Bool)),uS ag->uS o->uS w->uS h->(∀y∈p4,fa y)->(∀y∈l,(uS y.Kind/\uS y.A/\uS y.B))->List.length p4<=9223372036854775807->List.length l<=9223372036854775807->List.length flush<=9223372036854775807->oV.f ag o w h p4 l flush=some true
end
end Go.Proofs.YthodkonhneebbaaGreatDoor
