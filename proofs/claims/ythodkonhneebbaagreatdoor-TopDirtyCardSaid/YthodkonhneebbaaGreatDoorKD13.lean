/- What the functions of some packages compute, each as a function of plain Lean, with its contract. No condition. -/
import Derived.Test.YthodkonhneebbaaGreatDoorKDT
import Derived.Test.YthodkonhneebbaaGreatDoorKD6
import Derived.Test.YthodkonhneebbaaGreatDoorKD7
import Derived.Test.YthodkonhneebbaaGreatDoorKD12
import Derived.Test.YthodkonhneebbaaGreatDoorKD5
namespace Go.Proofs.YthodkonhneebbaaGreatDoor
open Go.Hx
set_option maxRecDepth 100000
set_option linter.unusedSimpArgs false
set_option linter.unusedVariables false
set_option maxHeartbeats 4000000
set_option autoImplicit true
set_option relaxedAutoImplicit true
noncomputable section
def tr.f (ag:Int) (most:Int):Option (Option bI):=if(((decide (ag<1))||(decide (most<1)))||(decide (most>65536)))=true then(some none) else((xD.f ag).bind λv1=>dm v1 (none) (λeZ=>some (some (bI.mk most eZ none))))
def tr.R (r:(Option bI)) (u:Value) (G:List Hp):Prop:= ∃(u0:Value) (G0:List Hp),X9 r u0 G0/\u=u0/\G=G0
theorem tr.c (H:tr.f ag most=some r):
 QR 21 [(ii ag),(ii most)] [] [] F (tr.R r):=by
 unfold tr.f at H;refine aD Tryz.func21 J J (λW=>rc T 11 (go T [3,4,5] 7 [0,1] 10 J J J J J J J (ro T 1 (go T [7,8,9] 11 [0,1] 14 J J J J J J J (ro T 2 (cb J H (λH=>?_) (λH=>?_)))))))
 ·refine rc T 7 ?_
  cases H;exact p1 T J [0] ⟨_,_,⟨J,J⟩,J,J⟩ J
 refine rc T 6 (kr xD.R [] [] J adY H (xD.c ·) (λv1 H=>?_));rintro _ _ ⟨_,_,O3,rfl,rfl⟩;rcases v1 with _ |eZ
 ·replace H:=eV J H
  cases H
 replace H:=eW J H;obtain⟨b1,H1,s1,rfl,rfl⟩:=O3;refine ro T 1 (nc T J (λb2=>fz J (ro T 4 ?_)))
 cases H;refine aq J (gq [2,1,1] J (p1 T J [1,0] ⟨_,_,⟨b2,(List.flatten [(cl b2 103 [(ii most),(pp b1),(.pointer none)]),H1,[]]),(show fO (bI.mk most eZ none) b2 (List.flatten [(cl b2 103 [(ii most),(pp b1),(.pointer none)]),H1,[]]) from⟨b1,H1,(.pointer none),[],s1,(show Bx none (.pointer none) [] from⟨J,J⟩),J⟩),J,J⟩,J,J⟩ J))
theorem Pz.c {b:Nat} {c0 c1 c2:Value} (F:Hp) (m:(b,Obj.cells #[c0,c1,c2] 103 (0,0))∈F):
 QU 42 [(pp b)] [] F c1:=by
 refine aD Tryz.func42 J J (λW=>rc T 12 (eN J (rc T 7 (lg T J (nD (j:=0) m J J) (ro T 4 (Fv (T:=T) J (.tmp J .nil) (λw o=>⟨(),J,CM [0] J o⟩)))))))
def tu.f (s:bI):Option fP:=(CE.f s.nav).bind λv1=>some v1
theorem tu.c (H:tu.f s=some r) (cQ:fO s bg dQ):
 QU 22 [(pp bg)] [dQ] F (.agg #[(uu r.bn),(uu r.bB),(uu r.bz),(uu r.bx),(uu r.bE),(uu r.bC)]):=by
 unfold tu.f at H;refine aD Tryz.func22 J J (λW=>rc T 2 (nc T J (λb2=>fz J (ro T 3 ?_))));obtain⟨b4,H4,yg,H5,s4,s5,dq⟩:=(λx=>x) cQ;refine bQ 0 (congrArg some dq) (fz J (rc T 2 (aX (tP (B:=λ_=>[]) [] J J J J Nv J J (Pz.c _ (AN (j:=2) J)) (λ_=>k [3] J adZ H (CE.c · s4) (λv1 H=>jP T 1 J (ro T 3 ?_)))))))
 cases H;refine cq [2,2,2] J dq (pb T J (.cK (j:=1) [(uu r.bn),(uu r.bB),(uu r.bz),(uu r.bx),(uu r.bE),(uu r.bC)] J J J J J J J .nil) [2,0] () J J)
theorem Xk.c {b:Nat} {c0 c1 c2:Value} (F:Hp) (m:(b,Obj.cells #[c0,c1,c2] 103 (0,0))∈F):
 QU 53 [(pp b)] [] F c2:=by
 refine aD Tryz.func53 J J (λW=>rc T 12 (eN J (rc T 7 (lg T J (nD (j:=0) m J J) (ro T 4 (Fv (T:=T) J (.tmp J .nil) (λw o=>⟨(),J,CM [0] J o⟩)))))))
def tv.f (s:bI):Option (List aF):=dm s.fb ((ry.f).bind λv2=>some v2) (λx1=>(vd.f x1).bind λv3=>some v3)
def tv.R (r:(List aF)) (u:Value) (G:List Hp):Prop:= ∃(a0:Option Addr) (n0:Nat) (H0:Hp),aj lI 67 r a0 n0 H0/\u=(ll a0 r n0)/\G=[H0]
theorem tv.c (H:tv.f s=some r) (cQ:fO s bg dQ):
 QR 23 [(pp bg)] [dQ] [dQ] F (tv.R r):=by
 unfold tv.f at H;refine aD Tryz.func23 J J (λW=>rc T 6 ?_);obtain⟨b3,H3,rW,H4,s3,s4,cm⟩:=(λx=>x) cQ;refine bQ 0 (congrArg some cm) (fz J ?_);rcases q1:s.fb with _ |x1
 ·replace H:=eV q1 H;rw[q1] at s4;obtain⟨rfl,rfl⟩:=s4;refine rc T 2 (aX (tP (B:=λ_=>[]) [] J J J J TD J J (Xk.c _ (AN (j:=1) J)) (λ_=>kr ry.R [] [] J JK H (ry.c ·) (λv2 H=>?_))));rintro _ _ ⟨a7,n7,H7,s7,rfl,rfl⟩;refine fz J (ro T 4 ?_)
  cases H;refine cq [1,1,1] J cm (p1 T J [1,1,0] ⟨a7,n7,H7,s7,J,J⟩ J)
 replace H:=eW q1 H;rw[q1] at s4;obtain⟨b6,H6,s6,rfl,sH⟩:=s4;refine bQ 3 (congrArg some sH) (fz J (rc T 2 (aX (tP (B:=λ_=>[]) [] J J J J TD J J (Xk.c _ (AN (j:=1) J)) (λ_=>kr vd.R [3] [3] J JK H (vd.c · s6) (λv3 H=>?_))))));rintro _ _ ⟨a8,n8,H8,s8,rfl,rfl⟩;refine fz J (ro T 4 ?_)
 cases H;refine cq [4] J sH (cq [1,1,2] J cm (p1 T J [1,1,0] ⟨a8,n8,H8,s8,J,J⟩ J))
def uJ.f (s:bI) (o:cV):Option Er:=if(o.Kind==3)=true then((sT.f s.nav o.B).bind λv1=>if(v1==0)=true then(some (Er.num 148 7)) else((sT.f s.nav o.A).bind λv2=>if(v2==0)=true then(some (Er.num 148 7)) else(some Er.nil))) else(if(o.Kind==2)=true then((sT.f s.nav o.A).bind λv3=>if(v3==0)=true then(some (Er.num 148 7)) else(some Er.nil)) else(some Er.nil))
def uJ.R (el:Nat->Addr) (r:Er) (u:Value) (G:List Hp):Prop:= ∃(v0:Value) (H0:Hp),fX 414 el r v0 H0/\u=v0/\G=[H0]
theorem uJ.c (H:uJ.f s o=some r) (hG:fM 414 fc gY el F) (cQ:fO s bg dQ) (Am:aT (Fl.int .u8) o.Map BI F) (Ae:List.length o.Map<=CC):
 QR 83 [(pp bg),(.agg #[(ii o.Kind),(ii o.A),(ii o.B),(ll BI o.Map CC)])] [dQ] [dQ] F (uJ.R el r):=by
 unfold uJ.f at H;refine aD Tryz.func83 J J (λW=>rc T 2 (nc T J (λb2=>fz J (ro T 7 (lf T 2 J (ro T 15 (cb J H (λH=>?_) (λH=>?_))))))))
 ·refine rc T 6 ?_;obtain⟨b4,H4,yg,H5,s4,s5,dq⟩:=(λx=>x) cQ;refine bQ 0 (congrArg some dq) (fz J (du mix ay (au T J (au T J (au T J (aO J J J (aw T J J J J (aH (j:=2) J J)) (au T J (aO J J J (aw T J J J J (aH (j:=1) J J)) ?_))))))));obtain⟨v1,V2,H⟩:=f_ H;refine wS [3] J J J J J J JB J (sT.c V2 s4) (au T J (cZ (rx T 1 (cb J H (λH=>?_) (λH=>?_)))))
  ·refine rc T 2 (br J (gV T J J J J) (ro T 8 ?_))
   cases H;refine cq [2,2,2] J dq (aq J (p1 T J [3,2,0] ⟨(.iface 148 (ii 7)),[],rA,J,J⟩ J))
  refine rc T 5 (du mix ay (au T J (au T J (au T J (aO J J J (aw T J J J J (aH (j:=2) J J)) (au T J (aO J J J (aw T J J J J (aH (j:=1) J J)) ?_)))))));obtain⟨v2,V4,H⟩:=f_ H;refine wS [3] J J J J J J JB J (sT.c V4 s4) (au T J (cZ (rx T 1 (cb J H (λH=>?_) (λH=>?_)))))
  ·refine rc T 2 (br J (gV T J J J J) (ro T 7 ?_))
   cases H;refine cq [2,2,2] J dq (aq J (p1 T J [3,2,0] ⟨(.iface 148 (ii 7)),[],rA,J,J⟩ J))
  refine rc T 11 ?_
  cases H;refine cq [2,2,2] J dq (aq J (p1 T J [3,2,0] ⟨.nilIface,[],tY,J,J⟩ J))
 refine rc T 8 (cb J H (λH=>?_) (λH=>?_))
 ·refine rc T 8 ?_;obtain⟨fJ,bX,Ll,cA,bT,dh,FX⟩:=(λx=>x) cQ;refine bQ 0 (congrArg some FX) (fz J (du mix ay (au T J (au T J (au T J (aO J J J (aw T J J J J (aH (j:=2) J J)) (au T J (aO J J J (aw T J J J J (aH (j:=1) J J)) ?_))))))));obtain⟨v3,V7,H⟩:=f_ H;refine wS [3] J J J J J J JB J (sT.c V7 bT) (au T J (cZ (rx T 1 (cb J H (λH=>?_) (λH=>?_)))))
  ·refine rc T 2 (br J (gV T J J J J) (ro T 7 ?_))
   cases H;refine cq [2,2,2] J FX (aq J (p1 T J [3,2,0] ⟨(.iface 148 (ii 7)),[],rA,J,J⟩ J))
  refine rc T 11 ?_
  cases H;refine cq [2,2,2] J FX (aq J (p1 T J [3,2,0] ⟨.nilIface,[],tY,J,J⟩ J))
 refine rc T 15 ?_
 cases H;refine aq J (p1 T J [3,0,0] ⟨.nilIface,[],tY,J,J⟩ J)
def fF.f (code:Int):Option Er:=if(code==0)=true then(some Er.nil) else(some (Er.num 148 code))
def fF.R (el:Nat->Addr) (r:Er) (u:Value) (G:List Hp):Prop:= ∃(v0:Value) (H0:Hp),fX 414 el r v0 H0/\u=v0/\G=[H0]
theorem fF.c (H:fF.f code=some r) (hG:fM 414 fc gY el F):
 QR 88 [(ii code)] [] [] F (fF.R el r):=by
 unfold fF.f at H;refine aD Tryz.func88 J J (λW=>rc T 12 (cb J H (λH=>?_) (λH=>?_)))
 ·refine rc T 7 ?_
  cases H;refine aq J (p1 T J [1,0] ⟨.nilIface,[],tY,J,J⟩ J)
 refine rc T 5 (br J (gV T J J J J) (ro T 4 ?_))
 cases H;refine aq J (p1 T J [1,0] ⟨(.iface 148 (ii code)),[],rA,J,J⟩ J)
def xV.f (s:bI) (b:(List Int)):Option (Er×bI):=(wR.f b).bind λv1=>if(v1.2 !=0)=true then(some ((Er.num 148 6),s)) else((xB.f s.nav v1.1).bind λv2=>if(v2.1==0)=true then((vg.f v1.1.W v1.1.H s.most).bind λv3=>dm v3 (none) (λtG=>(fF.f v2.1).bind λv4=>some (v4,(bI.mk s.most v2.2 (some tG))))) else((fF.f v2.1).bind λv5=>some (v5,(bI.mk s.most v2.2 s.fb))))
def xV.R (el:Nat->Addr) (nn:Nat) (r:(Er×bI)) (u:Value) (G:List Hp):Prop:= ∃(v0:Value) (H0:Hp) (H1:Hp),fX 414 el r.1 v0 H0/\fO r.2 nn H1/\u=v0/\G=[H0,H1]
theorem xV.c (H:xV.f s b=some r) (hG:fM 414 fc gY el F) (cQ:fO s bg dQ) (gW:aT (Fl.int .u8) b jW F) (gp:List.length b<=jJ):
 QR 84 [(pp bg),(ll jW b jJ)] [dQ] [] F (xV.R el bg r):=by
 unfold xV.f at H;refine aD Tryz.func84 J J (λW=>rc T 8 (kr (wR.R el) [] [] J ach H (wR.c · (dH hG (j:=1) J) (rO gW 1) gp) (λv1 H=>?_)));rintro _ _ ⟨a2,n2,H2,s2,rfl,rfl⟩;refine fz J (ro T 3 (nc T J (λb3=>fz J (jP T 3 J (ro T 10 (cb J H (λH=>?_) (λH=>?_)))))))
 ·refine rc T 2 (br J (gV T J J J J) (ro T 5 ?_))
  cases H;refine aq J (p1 T J [4,0,0] ⟨(.iface 148 (ii 6)),[],dQ,rA,cQ,J,J⟩ J)
 refine rc T 4 ?_;obtain⟨b6,H6,wA,H7,s6,s7,rD⟩:=(λx=>x) cQ;refine bQ 0 (congrArg some rD) (fz J (ks [0,5] J (fz J (rz [5] mix (bP bO) (λhg pf=>ha T 4 [0,1,2] sz hg pf J (av 3 sz hg pf J (aw T J J J J (aH (j:=3) J J)) (av 4 sz hg pf J (gA T 2 J J J J J J J) (ao 5 (kR (xB.R b6) [] [4] J aci H (xB.c · s6 (oO s2 1) s2.bY) (λv2 H=>?_))))))))));rintro _ _ ⟨H8,s8,rfl,rfl⟩;refine fz J (an sl (hb T 6 sl hg pf J (ae (rx T 7 (cb J H (λH=>?_) (λH=>?_))))))
 ·refine ks [0,5,6] J (fz J (rq [12] [0,0,0,0,0,0] J mix (bP bO) (λhg pf=>ha T 11 [0,1] sz hg pf J (av 2 sz hg pf J (aw T J J J J (aH (j:=2) J J)) (ha T 9 [3] sz hg pf J (av 4 sz hg pf J (aw T J J J J (aH (j:=2) J J)) (ha T 5 [5,6,7] sz hg pf J (av 8 sz hg pf J (aw T J J J J (aH (j:=3) J J)) (ao 9 (kR vg.R [] [] J acj H (vg.c ·) (λv3 H=>?_)))))))))));rintro _ _ ⟨_,_,O6,rfl,rfl⟩;rcases v3 with _ |tG
  ·replace H:=eV J H
   cases H
  replace H:=eW J H;obtain⟨b9,H9,s9,rfl,rfl⟩:=O6;refine an (so [0,0,0,0,0,0]) (ha T 1 [10,11] (so [0,0,0,0,0,0]) hg pf J (ao 12 (iX T 3 J (an sl (ae (rx T 4 (kr (fF.R el) [] [] J vu H (fF.c · (dH hG (j:=0) J)) (λv4 H=>?_))))))));rintro v10 _ ⟨v10,bX,bT,rfl,rfl⟩;refine fz J (ro T 4 ?_)
  cases H;refine gq [6] J (gq [3,4,5] J (p1 T J [4,4,0] ⟨v10,bX,(List.flatten [(cl bg 103 [(ii s.most),(pp b6),(pp b9)]),H8,(List.flatten [H9])]),bT,(show fO (bI.mk s.most v2.2 (some tG)) bg (List.flatten [(cl bg 103 [(ii s.most),(pp b6),(pp b9)]),H8,(List.flatten [H9])]) from⟨b6,H8,(pp b9),(List.flatten [H9]),s8,(show Bx (some tG) (pp b9) (List.flatten [H9]) from⟨b9,H9,s9,J,J⟩),J⟩),J,J⟩ J))
 refine rc T 5 (kr (fF.R el) [] [] J vu H (fF.c · (dH hG (j:=0) J)) (λv5 H=>?_));rintro v12 _ ⟨v12,dz,dJ,rfl,rfl⟩;refine fz J (ro T 4 ?_)
 cases H;refine gq [3,4,3] J (p1 T J [3,3,0] ⟨v12,dz,(List.flatten [(cl bg 103 [(ii s.most),(pp b6),wA]),H8,H7]),dJ,(show fO (bI.mk s.most v2.2 s.fb) bg (List.flatten [(cl bg 103 [(ii s.most),(pp b6),wA]),H8,H7]) from⟨b6,H8,wA,H7,s8,s7,J⟩),J,J⟩ J)
def xU.f (s:bI) (cell:Int) (cost:Int):Option (Er×bI):=if((decide (cost<1))||(decide (cost>255)))=true then(some ((Er.num 148 8),s)) else((dm s.fb (none) (λx3=>if(cost==255)=true then((Ai.f x3 cell).bind λv4=>some (decide (v4≥0))) else(some false))).bind λx1=>if x1=true then(some ((Er.num 148 10),s)) else((xz.f s.nav cell cost).bind λv5=>(fF.f v5.1).bind λv6=>some (v6,(bI.mk s.most v5.2 s.fb))))
def xU.R (el:Nat->Addr) (nn:Nat) (r:(Er×bI)) (u:Value) (G:List Hp):Prop:= ∃(v0:Value) (H0:Hp) (H1:Hp),fX 414 el r.1 v0 H0/\fO r.2 nn H1/\u=v0/\G=[H0,H1]
theorem xU.c (H:xU.f s cell cost=some r) (hG:fM 414 fc gY el F) (cQ:fO s bg dQ):
 QR 86 [(pp bg),(ii cell),(ii cost)] [dQ] [] F (xU.R el bg r):=by
 unfold xU.f at H;refine aD Tryz.func86 J J (λW=>rc T 12 (go T [3,4,5] 10 [0,1,2] 13 J J J J J J J (ro T 3 (cb J H (λH=>?_) (λH=>?_)))))
 ·refine rc T 2 (br J (gV T J J J J) (ro T 6 ?_))
  cases H;refine aq J (p1 T J [2,0,0] ⟨(.iface 148 (ii 8)),[],dQ,rA,cQ,J,J⟩ J)
 refine mq H [0,1,2] [1,0] (λz2 (x1:Bool)=>(x1=z2,[(15,(bb x1))],[])) J J (λz2 Z2 _=>?_) ?_
 ·obtain⟨b4,H4,yg,H5,s4,s5,dq⟩:=(λx=>x) cQ;refine bQ 0 (congrArg some dq) (fz J ?_);rcases q3:s.fb with _ |x3
  ·replace Z2:=eV q3 Z2
   cases Z2
  replace Z2:=eW q3 Z2;rw[q3] at s5;obtain⟨b7,H7,s7,rfl,ou⟩:=s5;refine bQ 3 (congrArg some ou) (fz J (rc T 4 (ab 18 J Z2 (λZ2=>?_) (λZ2=>?_))))
  ·refine ro T 3 (lf T 1 J (ro T 1 (k [3] J ack Z2 (Ai.c · s7) (λv4 Z2=>ro T 5 (cq [3] J ou (cq [1,1,1] J dq (am _ [0,0] (oi Z2) J J)))))))
  refine ro T 11 (cq [3] J ou (cq [1,1,1] J dq (am _ [0,0] (oi Z2) J J)))
 rintro _ x1 rfl H;refine cb J H (λH=>?_) (λH=>?_)
 ·refine rc T 2 (br J (gV T J J J J) (ro T 6 ?_))
  cases H;refine aq J (p1 T J [2,1,0] ⟨(.iface 148 (ii 10)),[],dQ,rA,cQ,J,J⟩ J)
 refine rc T 4 ?_;obtain⟨fJ,bX,Ll,cA,bT,dh,FX⟩:=(λx=>x) cQ;refine bQ 1 (congrArg some FX) (fz J (rc T 4 (lf T 1 J (ro T 2 (kr (xz.R fJ) [] [2] J acm H (xz.c · bT) (λv5 H=>?_))))));rintro _ _ ⟨dz,dJ,rfl,rfl⟩;refine fz J (kr (fF.R el) [] [] J vu H (fF.c · (dH hG (j:=0) J)) (λv6 H=>?_));rintro lp _ ⟨lp,eI,dn,rfl,rfl⟩;refine fz J (ro T 4 ?_)
 cases H;refine gq [1,2,1] J (p1 T J [1,1,0] ⟨lp,eI,(List.flatten [(cl bg 103 [(ii s.most),(pp fJ),Ll]),dz,cA]),dn,(show fO (bI.mk s.most v5.2 s.fb) bg (List.flatten [(cl bg 103 [(ii s.most),(pp fJ),Ll]),dz,cA]) from⟨fJ,dz,Ll,cA,dJ,dh,J⟩),J,J⟩ J)
def xX.f (s:bI) (cell:Int) (goal:Int):Option (Int×Er×bI):=(sT.f s.nav cell).bind λv1=>if(v1==255)=true then(some ((-1),(Er.num 148 9),s)) else(dm s.fb (none) (λx2=>(wZ.f x2 cell goal).bind λv3=>(fF.f v3.2.1).bind λv4=>some (v3.1,v4,(bI.mk s.most s.nav (some v3.2.2)))))
def xX.R (el:Nat->Addr) (nn:Nat) (r:(Int×Er×bI)) (u:Value) (G:List Hp):Prop:= ∃(v0:Value) (H0:Hp) (H1:Hp),fX 414 el r.2.1 v0 H0/\fO r.2.2 nn H1/\u=(.tuple #[(ii r.1),v0])/\G=[H0,H1]
theorem xX.c (H:xX.f s cell goal=some r) (hG:fM 414 fc gY el F) (cQ:fO s bg dQ):
 QR 87 [(pp bg),(ii cell),(ii goal)] [dQ] [] F (xX.R el bg r):=by
 unfold xX.f at H;refine aD Tryz.func87 J J (λW=>rc T 8 ?_);obtain⟨b3,H3,rW,H4,s3,s4,cm⟩:=(λx=>x) cQ;refine bQ 0 (congrArg some cm) (fz J (rc T 4 (lf T 1 J (ro T 1 (k [2] J JB H (sT.c · s3) (λv1 H=>ro T 3 (cb J H (λH=>?_) (λH=>?_))))))))
 ·refine rc T 2 (br J (gV T J J J J) (ro T 6 ?_))
  cases H;refine cq [1,1,1] J cm (aq J (p1 T J [2,1,0] ⟨(.iface 148 (ii 9)),[],dQ,rA,cQ,J,J⟩ J))
 refine rc T 3 ?_;rcases q3:s.fb with _ |x2
 ·replace H:=eV q3 H
  cases H
 replace H:=eW q3 H;rw[q3] at s4;obtain⟨b7,H7,s7,rfl,ou⟩:=s4;refine bQ 3 (congrArg some ou) (fz J (rc T 4 (lf T 1 J (ro T 2 (kr (wZ.R b7) [] [3] J acn H (wZ.c · s7) (λv3 H=>?_))))));rintro _ _ ⟨H8,s8,rfl,rfl⟩;refine fz J (ro T 11 (kr (fF.R el) [] [] J vu H (fF.c · (dH hG (j:=0) J)) (λv4 H=>?_)));rintro v9 _ ⟨v9,H9,s9,rfl,rfl⟩;refine fz J (ro T 5 ?_)
 cases H;refine gq [3] J (gq [1,1,2] J (p1 T J [1,1,0] ⟨v9,H9,(List.flatten [(cl bg 103 [(ii s.most),(pp b3),(pp b7)]),H3,(List.flatten [H8])]),s9,(show fO (bI.mk s.most s.nav (some v3.2.2)) bg (List.flatten [(cl bg 103 [(ii s.most),(pp b3),(pp b7)]),H3,(List.flatten [H8])]) from⟨b3,H3,(pp b7),(List.flatten [H8]),s3,(show Bx (some v3.2.2) (pp b7) (List.flatten [H8]) from⟨b7,H8,s8,J,J⟩),J⟩),J,J⟩ J))
def xW.f (s:bI) (a:iq) (goal:Int) (cell:Int):Option (Er×bI×iq):=(xC.f s.nav goal cell).bind λv1=>if(v1.2.2.1==0)=true then((fF.f v1.2.2.1).bind λv2=>some (v2,(bI.mk s.most v1.2.2.2 s.fb),(iq.mk a.Code v1.1 v1.2.1 a.Id a.ff a.hZ a.Stats))) else((fF.f v1.2.2.1).bind λv3=>some (v3,(bI.mk s.most v1.2.2.2 s.fb),a))
def xW.R (el:Nat->Addr) (nn:Nat) (o0:Nat) (r:(Er×bI×iq)) (u:Value) (G:List Hp):Prop:= ∃(v0:Value) (H0:Hp) (H1:Hp) (a2:Option Addr) (n2:Nat) (H2:Hp) (a3:Option Addr) (n3:Nat) (H3:Hp),fX 414 el r.1 v0 H0/\fO r.2.1 nn H1/\aj jv 94 r.2.2.ff a2 n2 H2/\aj (Fl.int .i64) 3 r.2.2.hZ a3 n3 H3/\u=v0/\G=[H0,H1,(cl o0 52 [(ii r.2.2.Code),(ii r.2.2.D),(ii r.2.2.cy),(ii r.2.2.Id),(ll a2 r.2.2.ff n2),(ll a3 r.2.2.hZ n3),(uu r.2.2.Stats.bn),(uu r.2.2.Stats.bB),(uu r.2.2.Stats.bz),(uu r.2.2.Stats.bx),(uu r.2.2.Stats.bE),(uu r.2.2.Stats.bC)]),H2,H3]
theorem xW.c (H:xW.f s a goal cell=some r) (hG:fM 414 fc gY el F) (cQ:fO s bg dQ) (nP:aj jv 94 a.ff uZ vM uP) (nO:aj (Fl.int .i64) 3 a.hZ uY vL uO):
 QR 91 [(pp bg),(pp o0),(ii goal),(ii cell)] [dQ,(cl o0 52 [(ii a.Code),(ii a.D),(ii a.cy),(ii a.Id),(ll uZ a.ff vM),(ll uY a.hZ vL),(uu a.Stats.bn),(uu a.Stats.bB),(uu a.Stats.bz),(uu a.Stats.bx),(uu a.Stats.bE),(uu a.Stats.bC)]),uP,uO] [] F (xW.R el bg o0 r):=by
 unfold xW.f at H;refine aD Tryz.func91 J J (λW=>rc T 6 ?_);obtain⟨b6,H6,wA,H7,s6,s7,rD⟩:=(λx=>x) cQ;refine bQ 0 (congrArg some rD) (fz J (rc T 4 (lf T 4 J (ro T 2 (kr (xC.R el b6) [] [5] J acp H (xC.c · (dH hG (j:=3) J) s6) (λv1 H=>?_))))));rintro _ _ ⟨H8,s8,rfl,rfl⟩;refine fz J (ro T 16 (cb J H (λH=>?_) (λH=>?_)))
 ·refine rc T 7 (jP T 0 J (ro T 2 (jP T 0 J (ro T 5 (kr (fF.R el) [] [] J vu H (fF.c · (dH hG (j:=3) J)) (λv2 H=>?_))))));rintro v9 _ ⟨v9,H9,s9,rfl,rfl⟩;refine fz J (ro T 2 (ks [8] J (rx T 2 ?_)))
  cases H;refine gq [4,5,4] J (p1 T J [4,4,0,0,0,0] ⟨v9,H9,(List.flatten [(cl bg 103 [(ii s.most),(pp b6),wA]),H8,H7]),uZ,vM,uP,uY,vL,uO,s9,(show fO (bI.mk s.most v1.2.2.2 s.fb) bg (List.flatten [(cl bg 103 [(ii s.most),(pp b6),wA]),H8,H7]) from⟨b6,H8,wA,H7,s8,s7,J⟩),nP,nO,J,J⟩ J)
 refine rc T 5 (kr (fF.R el) [] [] J vu H (fF.c · (dH hG (j:=3) J)) (λv3 H=>?_));rintro v10 _ ⟨v10,bX,bT,rfl,rfl⟩;refine fz J (ro T 4 ?_)
 cases H;refine gq [4,5,4] J (p1 T J [4,4,0,0,0,0] ⟨v10,bX,(List.flatten [(cl bg 103 [(ii s.most),(pp b6),wA]),H8,H7]),uZ,vM,uP,uY,vL,uO,bT,(show fO (bI.mk s.most v1.2.2.2 s.fb) bg (List.flatten [(cl bg 103 [(ii s.most),(pp b6),wA]),H8,H7]) from⟨b6,H8,wA,H7,s8,s7,J⟩),nP,nO,J,J⟩ J)
def eG.l3:Nat->bI->(List aF)->b_->(List (Int×Int))->List Int->Int->Option ((List Int)×Er×bI)
 |0,_,_,_,_,_,_=>none
 |Kk+1,s,l,bo,aU,kH,rY=>if rY<(List.length l:Int) then(if(0<=rY/\rY<(List.length l:Int)) then(if(List.length kH+1<=1099511627776) then(eG.l3 Kk s l bo aU (kH++[(aP aU ((rd l rY).Id))]) (aa (rY+1))) else none) else none) else(some (kH,Er.nil,(bI.mk s.most bo s.fb)))
def eG.l2:Nat->(List (Int×Int))->Int->(List cj)->b_->List Int->(List (Int×Int))->Int->Option (Sum ((List Int)×Er×bI) (b_×(List (Int×Int))))
 |0,_,_,_,_,_,_,_=>none
 |Kj+1,x4,bd,v8,dx,di,mY,gj=>if gj<(List.length ((rd v8 bd).cT):Int) then(if(0<=gj/\gj<(List.length ((rd v8 bd).cT):Int)) then(if(0<=(aP x4 (rd ((rd v8 bd).cT) gj))/\(aP x4 (rd ((rd v8 bd).cT) gj))<(List.length di:Int)) then(eG.l2 Kj x4 bd v8 dx di (cC mY (rd ((rd v8 bd).cT) gj) (rd di (aP x4 (rd ((rd v8 bd).cT) gj)))) (aa (gj+1))) else none) else none) else(some (Sum.inr (dx,mY)))
def eG.l1:Nat->bI->(List aF)->(List (Int×Int))->(List cj)->b_->(List (Int×Int))->Int->Option ((List Int)×Er×bI)
 |0,_,_,_,_,_,_,_=>none
 |lH+1,s,l,x4,v8,bo,aU,bd=>if bd<(List.length v8:Int) then((if(0<=bd/\bd<(List.length v8:Int)) then(((uw.f bo ((rd v8 bd).Goal) ((rd v8 bd).eU)).bind λv24=>some (v24.2.2,v24.1.fe,v24.1.cy,v24.2.1)).bind λ(dx,hJ,di,bW)=>if(bW !=0)=true then(some (Sum.inl ([],(Er.num 148 bW),(bI.mk s.most dx s.fb)))) else(eG.l2 fuel x4 bd v8 dx di aU 0)) else none).bind λzz=>match zz with |Sum.inl q=>some q |Sum.inr (dP,cX)=>eG.l1 lH s l x4 v8 dP cX (aa (bd+1))) else(eG.l3 fuel s l bo aU [] 0)
def eG.l0:Nat->bI->(List aF)->(Int×Int)->(List (Int×Int))->Int->Option ((List Int)×Er×bI)
 |0,_,_,_,_,_=>none
 |k6+1,s,l,v1,x4,x5=>if x5<(List.length l:Int) then(if(0<=x5/\x5<(List.length l:Int)) then((qY.f v1.1 v1.2 ((rd l x5).Cell)).bind λv7=>eG.l0 k6 s l v1 (cC x4 ((rd l x5).Id) v7) (aa (x5+1))) else none) else((j4.f v1.1 v1.2 l).bind λv8=>eG.l1 fuel s l x4 v8 s.nav ([]:(List (Int×Int))) 0)
def eG.f (s:bI) (l:(List aF)):Option ((List Int)×Er×bI):=(zj.f s.nav).bind λv1=>eG.l0 fuel s l v1 ([]:(List (Int×Int))) 0
def eG.R (el:Nat->Addr) (nn:Nat) (r:((List Int)×Er×bI)) (u:Value) (G:List Hp):Prop:= ∃(a0:Option Addr) (n0:Nat) (H0:Hp) (v1:Value) (H1:Hp) (H2:Hp),aj (Fl.int .i64) 3 r.1 a0 n0 H0/\fX 414 el r.2.1 v1 H1/\fO r.2.2 nn H2/\u=(.tuple #[(ll a0 r.1 n0),v1])/\G=[H0,H1,H2]
theorem eG.c (H:eG.f s l=some r) (hG:fM 414 fc gY el F) (cQ:fO s bg dQ) (df:aT lI l ik F) (gu:List.length l<=gZ):
 QR 128 [(pp bg),(ll ik l gZ)] [dQ] [] F (eG.R el bg r):=by
 unfold eG.f at H;refine aD Tryz.func128 J J (λW=>rc T 7 ?_);obtain⟨b3,H3,rW,H4,s3,s4,cm⟩:=(λx=>x) cQ;refine bQ 0 (congrArg some cm) (fz J (rc T 4 (lf T 1 J (k [2] J S_ H (zj.c · s3) (λv1 H=>ro T 9 (aX (u7 T (Ky.int .i64 u3) (λx:Int=>Value.int .i64 x) J J J trivial (λa5 H5 s5=>ro T 12 (lq [0,1,6,7,30,31] [0,0,1,0] (λ(⟨k6,x4,x5,a7,H7⟩:Nat×(List (Int×Int))×Int×Nat×Hp)=>(eG.l0 k6 s l v1 x4 x5=some r/\cM (Ky.int .i64 u3) (λx:Int=>Value.int .i64 x) x4 a7 H7,[(8,(.map (some a7))),(32,(ii x5))],[H7])) J J (fuel,([]:(List (Int×Int))),0,a5,H5) [0,0,1,0,0] ⟨H,s5⟩ J J ?_)))))))));rintro k6 ⟨x4,x5,a7,H7⟩ ⟨Z2,s7⟩;rw[eG.l0] at Z2;refine rc T 6 (cd J Z2 (λZ2=>?_) (λZ2=>?_))
 ·refine rc T 6 ?_;obtain⟨c4,Z2⟩:=az Z2;obtain⟨q8,o8,e8⟩:=df.addr c4.1 c4.2;refine ix T J e8 c4 (br J (fQ T (cs:=[(ii (rd l x5).Id),(ii (rd l x5).Cell),(ii (rd l x5).Goal)]) J J J J J J (gX (k:=lI) (rO df 0) e8 c4 J)) (nc T J (λb9=>fz J (jP T 5 J (ro T 2 (ks [0,1,6,7,8,10,30,31,32] J (fz J (rz [8] mix (bP bO) (λhg pf=>ha T 7 [0,1] sz hg pf J (av 2 sz hg pf J (aw T J J J J (aH (j:=5) J J)) (ha T 3 [3,4,5] sz hg pf J (av 6 sz hg pf J (aw T J J J J (aH (j:=5) J J)) (ao 7 (kh [] J F2 Z2 (qY.c ·) (λv7 Z2=>an sz (ao 8 (pP (g:=4) (m:=x4) (k:=(rd l x5).Id) (v:=v7) T (Ky.int .i64 u3) (λx:Int=>Value.int .i64 x) J J J J J J J s7 (λbX bT=>an sl (ae (rx T 7 (ar (_,_,_,_) [0,0,0,0,0] ⟨Z2,bT⟩ J J)))))))))))))))))))))
 refine rc T 7 (aX (u7 T (Ky.int .i64 u3) (λx:Int=>Value.int .i64 x) J J J trivial (λdt cA dh=>ro T 9 (kr j4.R [] [] J adG Z2 (j4.c · (rO df 0) gu) (λv8 Z2=>?_)))));rintro _ _ ⟨a12,n12,dz,dJ,rfl,rfl⟩;refine fz J (ro T 5 (lq [0,1,8,49,50] [0,0,0,1,2] (λ(⟨lH,bo,aU,bd,dE,jV,fN⟩:Nat×b_×(List (Int×Int))×Int×Hp×Nat×Hp)=>(eG.l1 lH s l x4 v8 bo aU bd=some r/\gy bo b3 dE/\cM (Ky.int .i64 u3) (λx:Int=>Value.int .i64 x) aU jV fN,[(11,(.map (some jV))),(51,(ii bd))],[dE,fN])) J J (fuel,s.nav,([]:(List (Int×Int))),0,H3,dt,cA) [0,0,0,1,2,0,0] ⟨Z2,s3,dh⟩ J J ?_));rintro lH ⟨bo,aU,bd,dE,jV,fN⟩ ⟨Z7,dN,fj⟩;rw[eG.l1] at Z7;refine rc T 6 (cd J Z7 (λZ7=>?_) (λZ7=>?_))
 ·refine rc T 2 (mq Z7 [0,1,8,49,50,51] [0,0,0,0,0] (λPX (⟨dP,cX,ez,iQ,e_⟩:b_×(List (Int×Int))×Hp×Nat×Hp)=>((Sum.inr (dP,cX))=PX/\gy dP b3 ez/\cM (Ky.int .i64 u3) (λx:Int=>Value.int .i64 x) cX iQ e_,[(11,(.map (some iQ)))],[ez,e_])) J J (λPX Z9 Z7=>?_) ?_)
  ·refine rc T 3 ?_;obtain⟨iG,Z9⟩:=az Z9;obtain⟨q19,o19,FJ⟩:=dJ.r.addr iG.1 iG.2;refine ix T J FJ iG ?_;obtain⟨_,w21,⟨a20,n20,⟨WA,m20⟩,rfl⟩⟩:=lz.view dJ.r iG;refine br J (fQ T (cs:=[(ii (rd v8 bd).Goal),(ii (rd v8 bd).eU),(ll a20 (rd v8 bd).cT n20)]) J J J J J J (Of (j:=4) J w21 FJ 0 J)) (nc T J (λkO=>fz J (jP T 7 J (ro T 2 (mq Z9 [0,1,8,11,13,49,50,51] [0,0,0,0,2,2,0] (λz23 (⟨dx,hJ,di,bW,jD,Fw,a25,n25,gL,a26,n26,mg⟩:b_×List Int×List Int×Int×Hp×Nat×Option Addr×Nat×Hp×Option Addr×Nat×Hp)=>((dx,hJ,di,bW)=z23/\gy dx b3 jD/\aj (Fl.int .i64) 3 hJ a25 n25 gL/\aj (Fl.int .i64) 3 di a26 n26 mg,[(14,(pp Fw)),(15,(ii bW))],[jD,(cl Fw 79 [(ll a25 hJ n25),(ll a26 di n26)]),gL,mg])) J J (λz23 bc _=>?_) ?_)))))
   ·refine ks [0,1,8,11,13,49,50,51] J (fz J (rz [8] mix (bP bO) (λhg pf=>ha T 12 [0,1,2] sz hg pf J (av 3 sz hg pf J (aw T J J J J (aH (j:=1) J J)) (ha T 10 [4] sz hg pf J (av 5 sz hg pf J (aw T J J J J (aH (j:=7) J J)) (ha T 8 [6] sz hg pf J (av 7 sz hg pf J (aw T J J J J (aH (j:=7) J J)) (gB 8 12 ?_ ?_)))))))))
    ·refine kR (uw.R el b3) [] [5] J TF bc (uw.c · (dH hG (j:=0) J) dN) (λv24 bc=>?_);rintro _ _ ⟨IG,n27,EW,a28,n28,uM,rh,wb,j7,qO,rfl,rfl⟩;refine fz J (an sl (hb T 9 sl hg pf J (hb T 10 sl hg pf J (hb T 11 sl hg pf J (ao 12 (nw T J (λb30=>fz J (an sl (ao 13 (iX T 10 J (an sl (hb T 14 sl hg pf J (ae (rx T 1 (am (_,_,_,_,_,_,_,_,_,_,_,_) [0,0,0,0,1,1,0,2,2,0,0] ⟨oi bc,qO,wb,j7⟩ J J)))))))))))))))
    refine nw T J (λZU=>fz J (an (so [0,0,0,0,0,0,0,0]) (ao 8 (kR (uw.R el b3) [] [5] J TF bc (uw.c · (dH hG (j:=0) J) dN) (λv25 bc=>?_)))));rintro _ _ ⟨a32,n32,zP,a33,n33,Iu,tJ,s_,wc,uC,rfl,rfl⟩;refine fz J (an sl (hb T 9 sl hg pf J (hb T 10 sl hg pf J (hb T 11 sl hg pf J (ao 13 (iX T 7 J (an sl (hb T 14 sl hg pf J (ae (rx T 1 (am (_,_,_,_,_,_,_,_,_,_,_,_) [0,0,0,0,1,1,0,3,0,0,0] ⟨oi bc,uC,s_,wc⟩ J J)))))))))))
   rintro _ ⟨dx,hJ,di,bW,jD,Fw,a25,n25,gL,a26,n26,mg⟩ ⟨rfl,gS,iW,lK⟩ Z9;refine rc T 7 (cb J Z9 (λZ9=>?_) (λZ9=>?_))
   ·refine rc T 3 (br J (gV T J J J J) (ro T 11 ?_));obtain rfl:=Option.some.inj Z9;obtain rfl:=Option.some.inj (show some ([],(Er.num 148 bW),(bI.mk s.most dx s.fb))=some r from Z7)
    refine gq [1,6,1] J (aq J (aq J (p1 T J [9,9,8,0] ⟨none,0,[],(.iface 148 (ii bW)),[],(List.flatten [(cl bg 103 [(ii s.most),(pp b3),rW]),jD,H4]),aj.nil,rA,(show fO (bI.mk s.most dx s.fb) bg (List.flatten [(cl bg 103 [(ii s.most),(pp b3),rW]),jD,H4]) from⟨b3,jD,rW,H4,gS,s4,J⟩),J,J⟩ J)))
   refine rc T 5 (lf T 5 J (ro T 5 (lq [0,1,8,14,49,50,51,72,73] [0,0,0,4,0,3,3,3,2] (λ(⟨Kj,mY,gj,IH,zS⟩:Nat×(List (Int×Int))×Int×Nat×Hp)=>(eG.l2 Kj x4 bd v8 dx di mY gj=some PX/\cM (Ky.int .i64 u3) (λx:Int=>Value.int .i64 x) mY IH zS,[(11,(.map (some IH))),(74,(ii gj))],[zS])) J J (fuel,aU,0,jV,fN) [0,0,0,4,0,3,3,3,2,0] ⟨Z9,fj⟩ J J ?_)));rintro Kj ⟨mY,gj,IH,zS⟩ ⟨dj,A7⟩;rw[eG.l2] at dj;refine rc T 6 (cd J dj (λdj=>?_) (λdj=>?_))
   ·refine rc T 6 ?_;obtain⟨jq,dj⟩:=az dj;obtain⟨q39,o39,FK⟩:=WA.addr jq.1 jq.2;refine ix T J FK jq (le T 0 (rO WA 8) FK jq J J (ro T 7 (lf T 5 J (ro T 2 (br J (pV (k:=(rd ((rd v8 bd).cT) gj)) T (Ky.int .i64 u3) (λx:Int=>Value.int .i64 x) J J J J J (oB s7 (j:=4) J)) ?_)))));obtain⟨lD,dj⟩:=az dj;obtain⟨q40,o40,RA⟩:=lK.r.addr lD.1 lD.2;refine ix T J RA lD (le T 0 (oO lK 7) RA lD J J (aX (pP (g:=9) (m:=mY) (k:=(rd ((rd v8 bd).cT) gj)) (v:=(rd di (aP x4 (rd ((rd v8 bd).cT) gj)))) T (Ky.int .i64 u3) (λx:Int=>Value.int .i64 x) J J J J J J J A7 (λEY zv=>ro T 8 (ar (_,_,_,_) [0,0,0,0,0,0,0,0,0,0] ⟨dj,zv⟩ J J)))))
   refine rc T 6 (am (_,_,_,_,_) [0,0,0,1,4,0,3] ⟨oi dj,gS,A7⟩ J J)
  rintro _ ⟨dP,cX,ez,iQ,e_⟩ ⟨rfl,fw,fk⟩ Z7;refine rc T 5 (ar (_,_,_,_,_,_) [0,0,0,0,0,0,0] ⟨Z7,fw,fk⟩ J J)
 refine rc T 19 (aq J (lq [11,89,90] [0,5,0,0,2] (λ(⟨Kk,kH,rY,II,n43,gm⟩:Nat×List Int×Int×Option Addr×Nat×Hp)=>(eG.l3 Kk s l bo aU kH rY=some r/\aj (Fl.int .i64) 3 kH II n43 gm,[(18,(ll II kH n43)),(91,(ii rY))],[gm])) J J (fuel,[],0,none,0,[]) [0,5,0,0,2,2] ⟨Z7,aj.nil⟩ J J ?_));rintro Kk ⟨kH,rY,II,n43,gm⟩ ⟨cY,qP⟩;rw[eG.l3] at cY;refine rc T 6 (cd J cY (λcY=>?_) (λcY=>?_))
 ·refine rc T 6 ?_;obtain⟨lE,cY⟩:=az cY;obtain⟨q44,o44,RD⟩:=df.addr lE.1 lE.2;refine ix T J RD lE (br J (fQ T (cs:=[(ii (rd l rY).Id),(ii (rd l rY).Cell),(ii (rd l rY).Goal)]) J J J J J J (gX (k:=lI) (rO df 0) RD lE J)) (nc T J (λb45=>fz J (jP T 6 J (ro T 6 (lf T 6 J (br J (pV (k:=(rd l rY).Id) T (Ky.int .i64 u3) (λx:Int=>Value.int .i64 x) J J J J J (oB fj (j:=1) J)) (aX (cU (k:=(Fl.int .i64)) T [(aP aU ((rd l rY).Id))] J J J J J J J J J (λa46 XM Pf=>?_))))))))));obtain⟨Ad,cY⟩:=az cY;refine aX (d_ (k:=(Fl.int .i64)) (xs:=kH) T (g:=5) J J J J J J J J J J qP (oO Pf 7) Ad J (λIJ n47 EZ Hv=>ro T 9 (ar (_,_,_,_,_) [0,0,0,0,0,0] ⟨cY,Hv⟩ J J)))
 refine rc T 13 ?_
 cases cY;refine gq [2,3,2] J (aq J (p1 T J [2,3,2,0] ⟨II,n43,gm,.nilIface,[],(List.flatten [(cl bg 103 [(ii s.most),(pp b3),rW]),dE,H4]),qP,tY,(show fO (bI.mk s.most bo s.fb) bg (List.flatten [(cl bg 103 [(ii s.most),(pp b3),rW]),dE,H4]) from⟨b3,dE,rW,H4,dN,s4,J⟩),J,J⟩ J))
def xY.f (s:bI) (a:iq):Option (Er×bI×iq):=dm s.fb (none) (λx1=>(vd.f x1).bind λv2=>(eG.f s v2).bind λv3=>if(!(Er.isNil v3.2.1))=true then(some (v3.2.1,v3.2.2,a)) else(dm v3.2.2.fb (none) (λx4=>(np.f x4 v3.1).bind λv5=>(fF.f v5.2.2.1).bind λv6=>some (v6,(bI.mk v3.2.2.most v3.2.2.nav (some v5.2.2.2)),(iq.mk a.Code a.D a.cy a.Id v5.1 v5.2.1 a.Stats)))))
def xY.R (el:Nat->Addr) (nn:Nat) (o0:Nat) (r:(Er×bI×iq)) (u:Value) (G:List Hp):Prop:= ∃(v0:Value) (H0:Hp) (H1:Hp) (a2:Option Addr) (n2:Nat) (H2:Hp) (a3:Option Addr) (n3:Nat) (H3:Hp),fX 414 el r.1 v0 H0/\fO r.2.1 nn H1/\aj jv 94 r.2.2.ff a2 n2 H2/\aj (Fl.int .i64) 3 r.2.2.hZ a3 n3 H3/\u=v0/\G=[H0,H1,(cl o0 52 [(ii r.2.2.Code),(ii r.2.2.D),(ii r.2.2.cy),(ii r.2.2.Id),(ll a2 r.2.2.ff n2),(ll a3 r.2.2.hZ n3),(uu r.2.2.Stats.bn),(uu r.2.2.Stats.bB),(uu r.2.2.Stats.bz),(uu r.2.2.Stats.bx),(uu r.2.2.Stats.bE),(uu r.2.2.Stats.bC)]),H2,H3]
theorem xY.c (H:xY.f s a=some r) (hG:fM 414 fc gY el F) (cQ:fO s bg dQ) (nP:aj jv 94 a.ff uZ vM uP) (nO:aj (Fl.int .i64) 3 a.hZ uY vL uO):
 QR 92 [(pp bg),(pp o0)] [dQ,(cl o0 52 [(ii a.Code),(ii a.D),(ii a.cy),(ii a.Id),(ll uZ a.ff vM),(ll uY a.hZ vL),(uu a.Stats.bn),(uu a.Stats.bB),(uu a.Stats.bz),(uu a.Stats.bx),(uu a.Stats.bE),(uu a.Stats.bC)]),uP,uO] [] F (xY.R el bg o0 r):=by
 unfold xY.f at H;refine aD Tryz.func92 J J (λW=>rc T 6 ?_);obtain⟨b6,H6,wA,H7,s6,s7,rD⟩:=(λx=>x) cQ;refine bQ 0 (congrArg some rD) (fz J ?_);rcases q1:s.fb with _ |x1
 ·replace H:=eV q1 H
  cases H
 replace H:=eW q1 H;rw[q1] at s7;obtain⟨b9,H9,s9,rfl,SE⟩:=s7;refine bQ 6 (congrArg some SE) (fz J (rc T 5 (lf T 4 J (kr vd.R [6] [6] J JK H (vd.c · s9) (λv2 H=>?_)))));rintro _ _ ⟨cw,n10,bX,bT,rfl,rfl⟩;refine fz J (cq [7] J SE (cq [4,4,5] J rD (kr (eG.R el bg) [] [5] J acq H (eG.c · (dH hG (j:=3) J) cQ (oO bT 4) bT.bY) (λv3 H=>?_))));rintro _ _ ⟨dt,n11,cA,v12,dz,eI,dh,dJ,dn,rfl,rfl⟩;refine fz J (ro T 11 (br J (DL T J J J (rB dJ (j:=6) J)) (ro T 2 (cb J H (λH=>?_) (λH=>?_)))))
 ·refine rc T 8 ?_
  cases H;exact p1 T J [6,6,0,0,0,0] ⟨v12,dz,eI,uZ,vM,uP,uY,vL,uO,dJ,dn,nP,nO,J,J⟩ J
 refine rc T 3 ?_;obtain⟨oh,dE,ajY,fN,dN,fj,DQ⟩:=(λx=>x) dn;refine bQ 7 (congrArg some DQ) (fz J ?_);rcases q5:v3.2.2.fb with _ |x4
 ·replace H:=eV q5 H
  cases H
 replace H:=eW q5 H;rw[q5] at fj;obtain⟨qv,e_,fk,rfl,ab9⟩:=fj;refine bQ 9 (congrArg some ab9) (fz J (rc T 4 (lf T 7 J (ro T 1 (kr (np.R qv) [] [9] J acr H (np.c · fk (oO dh 5) dh.bY) (λv5 H=>?_))))));rintro _ _ ⟨mj,n19,kJ,a20,n20,oa,lr,gR,l9,jO,rfl,rfl⟩;refine fz J (ro T 17 (jP T 0 J (ro T 2 (jP T 0 J (ro T 1 (ke [9] [0,2,5,5,5,5,5] J J (rx T 1 (rc T 3 (kr (fF.R el) [] [] J vu H (fF.c · (dH hG (j:=1) J)) (λv6 H=>?_))))))))));rintro v22 _ ⟨v22,mC,iM,rfl,rfl⟩;refine fz J (ro T 4 ?_)
 cases H;refine gq [6] J (gq [2,2,5] J (p1 T J [4,4,0,1,1,0] ⟨v22,mC,(List.flatten [(cl bg 103 [(ii v3.2.2.most),(pp oh),(pp qv)]),dE,(List.flatten [lr])]),mj,n19,kJ,a20,n20,oa,iM,(show fO (bI.mk v3.2.2.most v3.2.2.nav (some v5.2.2.2)) bg (List.flatten [(cl bg 103 [(ii v3.2.2.most),(pp oh),(pp qv)]),dE,(List.flatten [lr])]) from⟨oh,dE,(pp qv),(List.flatten [lr]),dN,(show Bx (some v5.2.2.2) (pp qv) (List.flatten [lr]) from⟨qv,lr,jO,J,J⟩),J⟩),gR,l9,J,J⟩ J))
def xS.f (s:bI) (o:cV) (a:iq):Option (Er×bI×iq):=(if(o.Kind==0)=true then(some true) else((CJ.f o).bind λv3=>some (!v3))).bind λx1=>if x1=true then(some ((Er.eh 0),s,a)) else((dm s.fb (if(o.Kind !=1)=true then(some (o.Kind !=8)) else(some false)) (λx6=>some false)).bind λx4=>if x4=true then(some ((Er.num 148 4),s,a)) else((uJ.f s o).bind λv7=>if(!(Er.isNil v7))=true then(some (v7,s,a)) else((if(o.Kind==1)=true then((xV.f s o.Map).bind λv23=>some (v23.1,a.Code,a.D,a.cy,a.Id,a.ff,a.hZ,a.Stats.bn,a.Stats.bB,a.Stats.bz,a.Stats.bx,a.Stats.bE,a.Stats.bC,v23.2)) else(if(o.Kind==8)=true then((xA.f s.nav).bind λv24=>some (v7,a.Code,a.D,a.cy,a.Id,a.ff,a.hZ,a.Stats.bn,a.Stats.bB,a.Stats.bz,a.Stats.bx,a.Stats.bE,a.Stats.bC,(bI.mk s.most v24 s.fb))) else(if(o.Kind==2)=true then((xU.f s o.A o.B).bind λv25=>some (v25.1,a.Code,a.D,a.cy,a.Id,a.ff,a.hZ,a.Stats.bn,a.Stats.bB,a.Stats.bz,a.Stats.bx,a.Stats.bE,a.Stats.bC,v25.2)) else(if(o.Kind==3)=true then((xX.f s o.A o.B).bind λv26=>some (v26.2.1,a.Code,a.D,a.cy,v26.1,a.ff,a.hZ,a.Stats.bn,a.Stats.bB,a.Stats.bz,a.Stats.bx,a.Stats.bE,a.Stats.bC,v26.2.2)) else(if(o.Kind==4)=true then(dm s.fb ((FH.f o.A o.B).bind λv28=>(fF.f v28).bind λrV=>some (rV,a.Code,a.D,a.cy,a.Id,a.ff,a.hZ,a.Stats.bn,a.Stats.bB,a.Stats.bz,a.Stats.bx,a.Stats.bE,a.Stats.bC,s)) (λjC=>(wY.f jC o.A o.B).bind λv30=>(fF.f v30.1).bind λv31=>some (v31,a.Code,a.D,a.cy,a.Id,a.ff,a.hZ,a.Stats.bn,a.Stats.bB,a.Stats.bz,a.Stats.bx,a.Stats.bE,a.Stats.bC,(bI.mk s.most s.nav (some v30.2))))) else(if(o.Kind==5)=true then(dm s.fb ((FG.f o.A).bind λv33=>(fF.f v33).bind λPN=>some (PN,a.Code,a.D,a.cy,a.Id,a.ff,a.hZ,a.Stats.bn,a.Stats.bB,a.Stats.bz,a.Stats.bx,a.Stats.bE,a.Stats.bC,s)) (λwD=>(wX.f wD o.A).bind λv35=>(fF.f v35.1).bind λXy=>some (Xy,a.Code,a.D,a.cy,a.Id,a.ff,a.hZ,a.Stats.bn,a.Stats.bB,a.Stats.bz,a.Stats.bx,a.Stats.bE,a.Stats.bC,(bI.mk s.most s.nav (some v35.2))))) else(if(o.Kind==6)=true then((xW.f s a o.A o.B).bind λv37=>some (v37.1,v37.2.2.Code,v37.2.2.D,v37.2.2.cy,v37.2.2.Id,v37.2.2.ff,v37.2.2.hZ,v37.2.2.Stats.bn,v37.2.2.Stats.bB,v37.2.2.Stats.bz,v37.2.2.Stats.bx,v37.2.2.Stats.bE,v37.2.2.Stats.bC,v37.2.1)) else(if(o.Kind==7)=true then((xY.f s a).bind λoK=>some (oK.1,oK.2.2.Code,oK.2.2.D,oK.2.2.cy,oK.2.2.Id,oK.2.2.ff,oK.2.2.hZ,oK.2.2.Stats.bn,oK.2.2.Stats.bB,oK.2.2.Stats.bz,oK.2.2.Stats.bx,oK.2.2.Stats.bE,oK.2.2.Stats.bC,oK.2.1)) else(some (v7,a.Code,a.D,a.cy,a.Id,a.ff,a.hZ,a.Stats.bn,a.Stats.bB,a.Stats.bz,a.Stats.bx,a.Stats.bE,a.Stats.bC,s)))))))))).bind λ(x8,x9,aN,bf,bo,aU,bd,ct,dP,cX,dV,dx,hJ,di)=>some (x8,di,(iq.mk x9 aN bf bo aU bd (fP.mk ct dP cX dV dx hJ))))))
def xS.R (el:Nat->Addr) (nn:Nat) (o0:Nat) (r:(Er×bI×iq)) (u:Value) (G:List Hp):Prop:= ∃(v0:Value) (H0:Hp) (H1:Hp) (a2:Option Addr) (n2:Nat) (H2:Hp) (a3:Option Addr) (n3:Nat) (H3:Hp),fX 414 el r.1 v0 H0/\fO r.2.1 nn H1/\aj jv 94 r.2.2.ff a2 n2 H2/\aj (Fl.int .i64) 3 r.2.2.hZ a3 n3 H3/\u=v0/\G=[H0,H1,(cl o0 52 [(ii r.2.2.Code),(ii r.2.2.D),(ii r.2.2.cy),(ii r.2.2.Id),(ll a2 r.2.2.ff n2),(ll a3 r.2.2.hZ n3),(uu r.2.2.Stats.bn),(uu r.2.2.Stats.bB),(uu r.2.2.Stats.bz),(uu r.2.2.Stats.bx),(uu r.2.2.Stats.bE),(uu r.2.2.Stats.bC)]),H2,H3]
theorem xS.c (H:xS.f s o a=some r) (hG:fM 414 fc gY el F) (cQ:fO s bg dQ) (Am:aT (Fl.int .u8) o.Map BI F) (Ae:List.length o.Map<=CC) (nP:aj jv 94 a.ff uZ vM uP) (nO:aj (Fl.int .i64) 3 a.hZ uY vL uO):
 QR 55 [(pp bg),(.agg #[(ii o.Kind),(ii o.A),(ii o.B),(ll BI o.Map CC)]),(pp o0)] [dQ,(cl o0 52 [(ii a.Code),(ii a.D),(ii a.cy),(ii a.Id),(ll uZ a.ff vM),(ll uY a.hZ vL),(uu a.Stats.bn),(uu a.Stats.bB),(uu a.Stats.bz),(uu a.Stats.bx),(uu a.Stats.bE),(uu a.Stats.bC)]),uP,uO] [] F (xS.R el bg o0 r):=by
 unfold xS.f at H;refine aD Tryz.func55 J J (λW=>rc T 2 (nc T J (λb5=>fz J (ro T 5 (mq H [0,2,4] [4,0,0,0,0,0] (λz2 (x1:Bool)=>(x1=z2,[(7,(bb x1))],[])) J J (λz2 Z1 _=>?_) ?_)))))
 ·refine rc T 2 (lf T 5 J (ro T 2 (ab 11 J Z1 (λZ1=>?_) (λZ1=>?_))))
  ·refine ro T 7 (am _ [4,0,0,0,0,0] (oi Z1) J J)
  refine lm T 5 J (k [] J ad_ Z1 (CJ.c · (rO Am 4) Ae) (λv3 Z1=>ro T 5 (am _ [4,0,0,0,0,0] (oi Z1) J J)))
 rintro _ x1 rfl H;refine cb J H (λH=>?_) (λH=>?_)
 ·refine rc T 2 (lg T J (rI (j:=0) J hG (g:=0) (by decide)) (ro T 6 ?_))
  cases H;refine aq J (p1 T J [6,1,1,1,1,0] ⟨(.iface 414 (.pointer (some (el 0)))),[],dQ,uZ,vM,uP,uY,vL,uO,ot,cQ,nP,nO,J,J⟩ J)
 refine mq H [0,2,4] [0,0,0,0,0,0] (λz5 (x4:Bool)=>(x4=z5,[(17,(bb x4))],[])) J J (λz5 Z5 _=>?_) ?_
 ·obtain⟨b8,H8,aj4,H9,s8,s9,rE⟩:=(λx=>x) cQ;refine bQ 1 (congrArg some rE) (fz J ?_);rcases q6:s.fb with _ |x6
  ·replace Z5:=eV q6 Z5;rw[q6] at s9;obtain⟨rfl,rfl⟩:=s9;refine rc T 4 (lf T 5 J (ro T 3 (lf T 4 J (ro T 3 (ab 28 J Z5 (λZ5=>?_) (λZ5=>?_))))))
   ·refine ro T 1 (lf T 4 J (ro T 5 (cq [5,5,5] J rE (am _ [0,4,0,0,0,0] (oi Z5) J J))))
   refine ro T 7 (cq [5,5,5] J rE (am _ [0,4,0,0,0,0] (oi Z5) J J))
  replace Z5:=eW q6 Z5;rw[q6] at s9;obtain⟨jF,cA,dh,rfl,SC⟩:=s9;refine bQ 7 (congrArg some SC) (fz J (rc T 4 (lf T 5 J (ro T 14 (cq [7] J SC (cq [5,5,5] J rE (am _ [0,4,0,0,0,0] (oi Z5) J J)))))))
 rintro _ x4 rfl H;refine cb J H (λH=>?_) (λH=>?_)
 ·refine rc T 2 (br J (gV T J J J J) (ro T 6 ?_))
  cases H;refine aq J (p1 T J [6,1,1,1,1,0] ⟨(.iface 148 (ii 4)),[],dQ,uZ,vM,uP,uY,vL,uO,rA,cQ,nP,nO,J,J⟩ J)
 refine rc T 7 (lm T 5 J (kr (uJ.R el) [1] [1] J ad' H (uJ.c · (dH hG (j:=0) J) cQ (rO Am 0) Ae) (λv7 H=>?_)));rintro lp _ ⟨lp,eI,dn,rfl,rfl⟩;refine fz J (ro T 6 (br J (DL T J J J (rB dn (j:=5) J)) (ro T 2 (cb J H (λH=>?_) (λH=>?_)))))
 ·refine rc T 8 ?_
  cases H;exact p1 T J [5,5,1,1,1,0] ⟨lp,eI,dQ,uZ,vM,uP,uY,vL,uO,dn,cQ,nP,nO,J,J⟩ J
 refine rc T 2 (mq H [] [0] (λz22 (⟨x8,x9,aN,bf,bo,aU,bd,ct,dP,cX,dV,dx,hJ,di,Lf,fI,jE,n15,dE,jV,n16,fN,ez⟩:Er×Int×Int×Int×Int×List fg×List Int×Int×Int×Int×Int×Int×Int×bI×Value×Hp×Option Addr×Nat×Hp×Option Addr×Nat×Hp×Hp)=>((x8,x9,aN,bf,bo,aU,bd,ct,dP,cX,dV,dx,hJ,di)=z22/\fX 414 el x8 Lf fI/\aj jv 94 aU jE n15 dE/\aj (Fl.int .i64) 3 bd jV n16 fN/\fO di bg ez,[(6,Lf)],[fI,(cl o0 52 [(ii x9),(ii aN),(ii bf),(ii bo),(ll jE aU n15),(ll jV bd n16),(uu ct),(uu dP),(uu cX),(uu dV),(uu dx),(uu hJ)]),dE,fN,ez])) J J (λz22 bc _=>?_) ?_)
 ·refine rc T 3 (lf T 4 J (ro T 9 (cb J bc (λbc=>?_) (λbc=>?_))))
  ·refine rc T 3 (lf T 4 J (kr (xV.R el bg) [] [6] J aea bc (xV.c · (dH hG (j:=0) J) cQ (rO Am 0) Ae) (λv23 bc=>?_)));rintro fG _ ⟨fG,e_,kJ,fk,gR,rfl,rfl⟩;refine fz J (ro T 4 (am (_,_,_,_,_,_,_,_,_,_,_,_,_,_,_,_,_,_,_,_,_,_,_) [0,5,0,0,0,2] ⟨oi bc,fk,nP,nO,gR⟩ J J))
  refine rc T 6 (cb J bc (λbc=>?_) (λbc=>?_))
  ·obtain⟨BP,lr,Xx,mC,jO,iM,ab7⟩:=(λx=>x) cQ;refine bQ 6 (congrArg some ab7) (fz J (rc T 4 (lf T 6 J (kr (xA.R BP) [] [7] J aeb bc (xA.c · jO) (λv24 bc=>?_)))));rintro _ _ ⟨jD,gS,rfl,rfl⟩;refine fz J (ro T 3 (gq [6,7,6] J (am (_,_,_,_,_,_,_,_,_,_,_,_,_,_,_,_,_,_,_,_,_,_,_) [0,4,0,0,0,1] ⟨oi bc,dn,nP,nO,(show fO (bI.mk s.most v24 s.fb) bg (List.flatten [(cl bg 103 [(ii s.most),(pp BP),Xx]),jD,mC]) from⟨BP,jD,Xx,mC,gS,iM,J⟩)⟩ J J)))
  refine rc T 6 (cb J bc (λbc=>?_) (λbc=>?_))
  ·refine rc T 3 (lf T 4 J (ro T 1 (lf T 4 J (kr (xU.R el bg) [] [6] J aec bc (xU.c · (dH hG (j:=0) J) cQ) (λv25 bc=>?_)))));rintro v24 _ ⟨v24,oc,gL,lj,iW,rfl,rfl⟩;refine fz J (ro T 4 (am (_,_,_,_,_,_,_,_,_,_,_,_,_,_,_,_,_,_,_,_,_,_,_) [0,5,0,0,0,2] ⟨oi bc,lj,nP,nO,iW⟩ J J))
  refine rc T 6 (cb J bc (λbc=>?_) (λbc=>?_))
  ·refine rc T 4 (lf T 4 J (ro T 1 (lf T 4 J (kr (xX.R el bg) [] [6] J aed bc (xX.c · (dH hG (j:=0) J) cQ) (λv26 bc=>?_)))));rintro _ _ ⟨v26,mg,EW,lK,wb,rfl,rfl⟩;refine fz J (ro T 5 (jP T 1 J (ro T 4 (am (_,_,_,_,_,_,_,_,_,_,_,_,_,_,_,_,_,_,_,_,_,_,_) [0,5,0,0,0,2] ⟨oi bc,lK,nP,nO,wb⟩ J J))))
  refine rc T 6 (cb J bc (λbc=>?_) (λbc=>?_))
  ·obtain⟨z_,rh,aj2,pL,qO,nM,Jz⟩:=(λx=>x) cQ;refine bQ 6 (congrArg some Jz) (fz J ?_);rcases CT:s.fb with _ |jC
   ·replace bc:=eV CT bc;rw[CT] at nM;obtain⟨rfl,rfl⟩:=nM;refine ke [0,4] [0,0,0,0,0,1,1,1] J J (fz J (rq [] [0,0,0,0,0,0,0,0] J mix (bP bO) (λhg pf=>ha T 8 [0,1,2] sz hg pf J (av 3 sz hg pf J (aw T J J J J (aH (j:=5) J J)) (ha T 6 [4] sz hg pf J (av 5 sz hg pf J (aw T J J J J (aH (j:=4) J J)) (ha T 4 [6] sz hg pf J (av 7 sz hg pf J (aw T J J J J (aH (j:=4) J J)) (ao 8 (kh [] J TL bc (FH.c ·) (λv28 bc=>an sz (ao 9 (kR (fF.R el) [] [] J vu bc (fF.c · (dH hG (j:=0) J)) (λrV bc=>?_))))))))))))));rintro v33 _ ⟨v33,Iu,wc,rfl,rfl⟩;refine fz J (an (so [0,0,0,0,0,0,0,0]) (ha T 0 [10] (so [0,0,0,0,0,0,0,0]) hg pf J (ae (rx T 2 (cq [5,5,5] J Jz (am (_,_,_,_,_,_,_,_,_,_,_,_,_,_,_,_,_,_,_,_,_,_,_) [0,4,0,0,0,1] ⟨oi bc,wc,nP,nO,cQ⟩ J J))))))
   replace bc:=eW CT bc;rw[CT] at nM;obtain⟨wT,zP,s_,rfl,ab_⟩:=nM;refine bQ 8 (congrArg some ab_) (fz J (ke [0,4] [0,0,0,0,0,1,1,1] J J (fz J (rq [8] [0,0,0,0,0,0,0,0] J mix (bP bO) (λhg pf=>ha T 8 [0,1,2] sz hg pf J (av 3 sz hg pf J (aw T J J J J (aH (j:=5) J J)) (ha T 6 [4] sz hg pf J (av 5 sz hg pf J (aw T J J J J (aH (j:=4) J J)) (ha T 4 [6] sz hg pf J (av 7 sz hg pf J (aw T J J J J (aH (j:=4) J J)) (ao 8 (kR (wY.R wT) [] [7] J TL bc (wY.c · s_) (λv30 bc=>?_)))))))))))));rintro _ _ ⟨tJ,uC,rfl,rfl⟩;refine fz J (an sl (ao 9 (kR (fF.R el) [] [] J vu bc (fF.c · (dH hG (j:=0) J)) (λv31 bc=>?_))));rintro v35 _ ⟨v35,zQ,A6,rfl,rfl⟩;refine fz J (an sl (hb T 10 sl hg pf J (ae (rx T 2 (gq [7] J (gq [5,5,6] J (am (_,_,_,_,_,_,_,_,_,_,_,_,_,_,_,_,_,_,_,_,_,_,_) [0,4,0,0,0,1] ⟨oi bc,A6,nP,nO,(show fO (bI.mk s.most s.nav (some v30.2)) bg (List.flatten [(cl bg 103 [(ii s.most),(pp z_),(pp wT)]),rh,(List.flatten [tJ])]) from⟨z_,rh,(pp wT),(List.flatten [tJ]),qO,(show Bx (some v30.2) (pp wT) (List.flatten [tJ]) from⟨wT,tJ,uC,J,J⟩),J⟩)⟩ J J)))))))
  refine rc T 6 (cb J bc (λbc=>?_) (λbc=>?_))
  ·obtain⟨QS,zS,aj3,Lw,A7,A8,Sz⟩:=(λx=>x) cQ;refine bQ 6 (congrArg some Sz) (fz J ?_);rcases Et:s.fb with _ |wD
   ·replace bc:=eV Et bc;rw[Et] at A8;obtain⟨rfl,rfl⟩:=A8;refine ke [0,4] [0,0,0,0,0,1,1,1] J J (fz J (rq [] [0,0,0,0,0,0,0,0] J mix (bP bO) (λhg pf=>ha T 6 [0,1,2] sz hg pf J (av 3 sz hg pf J (aw T J J J J (aH (j:=5) J J)) (ha T 4 [4] sz hg pf J (av 5 sz hg pf J (aw T J J J J (aH (j:=4) J J)) (ao 6 (kh [] J TM bc (FG.c ·) (λv33 bc=>an sz (ao 7 (kR (fF.R el) [] [] J vu bc (fF.c · (dH hG (j:=0) J)) (λPN bc=>?_))))))))))));rintro Lj _ ⟨Lj,lv,Pe,rfl,rfl⟩;refine fz J (an (so [0,0,0,0,0,0,0,0]) (ha T 0 [8] (so [0,0,0,0,0,0,0,0]) hg pf J (ae (rx T 2 (cq [5,5,5] J Sz (am (_,_,_,_,_,_,_,_,_,_,_,_,_,_,_,_,_,_,_,_,_,_,_) [0,4,0,0,0,1] ⟨oi bc,Pe,nP,nO,cQ⟩ J J))))))
   replace bc:=eW Et bc;rw[Et] at A8;obtain⟨Fx,EY,zv,rfl,ab'⟩:=A8;refine bQ 8 (congrArg some ab') (fz J (ke [0,4] [0,0,0,0,0,1,1,1] J J (fz J (rq [6] [0,0,0,0,0,0,0,0] J mix (bP bO) (λhg pf=>ha T 6 [0,1,2] sz hg pf J (av 3 sz hg pf J (aw T J J J J (aH (j:=5) J J)) (ha T 4 [4] sz hg pf J (av 5 sz hg pf J (aw T J J J J (aH (j:=4) J J)) (ao 6 (kR (wX.R Fx) [] [7] J TM bc (wX.c · zv) (λv35 bc=>?_)))))))))));rintro _ _ ⟨gm,qP,rfl,rfl⟩;refine fz J (an sl (ao 7 (kR (fF.R el) [] [] J vu bc (fF.c · (dH hG (j:=0) J)) (λXy bc=>?_))));rintro v44 _ ⟨v44,P2,xN,rfl,rfl⟩;refine fz J (an sl (hb T 8 sl hg pf J (ae (rx T 2 (gq [7] J (gq [5,5,6] J (am (_,_,_,_,_,_,_,_,_,_,_,_,_,_,_,_,_,_,_,_,_,_,_) [0,4,0,0,0,1] ⟨oi bc,xN,nP,nO,(show fO (bI.mk s.most s.nav (some v35.2)) bg (List.flatten [(cl bg 103 [(ii s.most),(pp QS),(pp Fx)]),zS,(List.flatten [gm])]) from⟨QS,zS,(pp Fx),(List.flatten [gm]),A7,(show Bx (some v35.2) (pp Fx) (List.flatten [gm]) from⟨Fx,gm,qP,J,J⟩),J⟩)⟩ J J)))))))
  refine rc T 6 (cb J bc (λbc=>?_) (λbc=>?_))
  ·refine rc T 4 (lf T 4 J (ro T 1 (lf T 4 J (kr (xW.R el bg o0) [] [6,1,1,1] J aee bc (xW.c · (dH hG (j:=0) J) cQ nP nO) (λv37 bc=>?_)))));rintro v46 _ ⟨v46,XM,EZ,Fa,n48,E0,a49,n49,XN,Pf,Hv,KX,s49,rfl,rfl⟩;refine fz J (ro T 4 (am (_,_,_,_,_,_,_,_,_,_,_,_,_,_,_,_,_,_,_,_,_,_,_) [0,2,3,3,3,2] ⟨oi bc,Pf,KX,s49,Hv⟩ J J))
  refine rc T 6 (cb J bc (λbc=>?_) (λbc=>?_))
  ·refine rc T 3 (kr (xY.R el bg o0) [] [6,1,1,1] J aef bc (xY.c · (dH hG (j:=0) J) cQ nP nO) (λoK bc=>?_));rintro v50 _ ⟨v50,XO,XP,LF,n52,Ly,a53,n53,XQ,Pg,KY,Ez,Ph,rfl,rfl⟩;refine fz J (ro T 4 (am (_,_,_,_,_,_,_,_,_,_,_,_,_,_,_,_,_,_,_,_,_,_,_) [0,2,3,3,3,2] ⟨oi bc,Pg,Ez,Ph,KY⟩ J J))
  refine rc T 3 (am (_,_,_,_,_,_,_,_,_,_,_,_,_,_,_,_,_,_,_,_,_,_,_) [0,4,0,0,0,1] ⟨oi bc,dn,nP,nO,cQ⟩ J J)
 rintro _ ⟨x8,x9,aN,bf,bo,aU,bd,ct,dP,cX,dV,dx,hJ,di,Lf,fI,jE,n15,dE,jV,n16,fN,ez⟩ ⟨rfl,gh,dN,fj,fw⟩ H;refine rc T 7 ?_
 cases H;exact p1 T J [1,4,1,1,1,0] ⟨Lf,fI,ez,jE,n15,dE,jV,n16,fN,gh,fw,dN,fj,J,J⟩ J
def De.f (err:Er):Option Int:=(vi.f err (Er.eh 0)).bind λv1=>if v1=true then(some 5) else((FM.f err).bind λv2=>if(Option.isSome v2)=true then(some (Option.getD v2 0)) else(some 0))
theorem De.c (H:De.f err=some r) (hG:fM 414 fc gY el F) (DH:lP 414 el err PO F):
 QU 56 [PO] [] F (ii r):=by
 unfold De.f at H;refine aD Tryz.func56 J J (λW=>rc T 7 (nc T J (λb1=>fz J (ro T 7 (lg T J (rI (j:=0) J hG (g:=0) (by decide)) (k [] J JL H (vi.c err (Er.eh 0) _ _ · (dH hG (j:=0) J) (FN DH (j:=0) J) Jd) (λv1 H=>ro T 3 (cb J H (λH=>?_) (λH=>?_)))))))))
 ·refine rc T 8 ?_
  cases H;exact p0 T J [0] J
 refine rc T 3 (br J (gV T J J J J) ?_);obtain⟨v2,V3,H⟩:=f_ H;refine aX (tP (As:=[(cl b1 148 [(ii 0)])]) (R:=[F]) (B:=λ_=>[(cl b1 148 [(ii (Option.getD v2 0))])]) [1] J J J J JM J J (FM.c err v2 _ V3 (dH hG (j:=0) J) (FN DH (j:=0) J)) (λ_=>ro T 3 (cb J H (λH=>?_) (λH=>?_))))
 ·refine rc T 2 (lf T 1 J (ro T 6 ?_))
  cases H;exact p0 T J [0] J
 refine rc T 9 ?_
 cases H;exact p0 T J [0] J
def ma.f (s:bI) (o:cV):Option (iq×bI):=(xS.f s o (iq.mk 0 0 5 (-1) ([]:List fg) ([]:List Int) (fP.mk 0 0 0 0 0 0))).bind λv1=>if(!(Er.isNil v1.1))=true then((De.f (Er.wrap 110 [o.Kind] v1.1)).bind λv2=>(tu.f v1.2.1).bind λv3=>some ((iq.mk v2 v1.2.2.D v1.2.2.cy v1.2.2.Id v1.2.2.ff v1.2.2.hZ v3),v1.2.1)) else((tu.f v1.2.1).bind λv4=>some ((iq.mk v1.2.2.Code v1.2.2.D v1.2.2.cy v1.2.2.Id v1.2.2.ff v1.2.2.hZ v4),v1.2.1))
def ma.R (el:Nat->Addr) (nn:Nat) (r:(iq×bI)) (u:Value) (G:List Hp):Prop:= ∃(a0:Option Addr) (n0:Nat) (H0:Hp) (a1:Option Addr) (n1:Nat) (H1:Hp) (H2:Hp),aj jv 94 r.1.ff a0 n0 H0/\aj (Fl.int .i64) 3 r.1.hZ a1 n1 H1/\fO r.2 nn H2/\u=(.agg #[(ii r.1.Code),(ii r.1.D),(ii r.1.cy),(ii r.1.Id),(ll a0 r.1.ff n0),(ll a1 r.1.hZ n1),(uu r.1.Stats.bn),(uu r.1.Stats.bB),(uu r.1.Stats.bz),(uu r.1.Stats.bx),(uu r.1.Stats.bE),(uu r.1.Stats.bC)])/\G=[H0,H1,H2]
theorem ma.c (H:ma.f s o=some r) (hG:fM 414 fc gY el F) (cQ:fO s bg dQ) (Am:aT (Fl.int .u8) o.Map BI F) (Ae:List.length o.Map<=CC):
 QR 24 [(pp bg),(.agg #[(ii o.Kind),(ii o.A),(ii o.B),(ll BI o.Map CC)])] [dQ] [] F (ma.R el bg r):=by
 unfold ma.f at H;refine aD Tryz.func24 J J (λW=>rc T 2 (nc T J (λb2=>fz J (nc T J (λb3=>fz J (ro T 5 (nc T J (λb4=>fz J (jP T 4 J (ro T 9 (eN J (rc T 5 (jP T 4 J (ro T 1 (ks [0,3,4,5] J (rx T 1 (rc T 4 (lm T 2 J (aq J (aq J (kr (xS.R el bg b4) [] [0,3,3,3] J ad0 H (xS.c (a:=(iq.mk 0 0 5 (-1) ([]:List fg) ([]:List Int) (fP.mk 0 0 0 0 0 0))) · (dH hG (j:=0) J) cQ (rO Am 0) Ae (aj.nil (k:=jv) (E:=94)) (aj.nil (k:=(Fl.int .i64)) (E:=3))) (λv1 H=>?_))))))))))))))))))))));rintro v7 _ ⟨v7,H7,H8,a9,n9,H9,cw,n10,bX,s7,s8,s9,bT,rfl,rfl⟩;refine fz J (ro T 6 (br J (DL T J J J (rB s7 (j:=3) J)) (ro T 2 (cb J H (λH=>?_) (λH=>?_)))))
 ·refine rc T 2 (lf T 1 J (ro T 1 (br J (Sa (vs:=[(0,(ii o.Kind)),(1,v7)]) T [(0,[(ii o.Kind)]),(1,[v7])] J J J J J (by simp only[List.map,RP s7];rfl) J) ?_)))
  refine nc T J (λjF=>fz J (gq [8,3] J (br J (gV T J J J J) (k [] J ad1 H (De.c · (dH hG (j:=0) J) (rB (pT s7) (j:=7) J)) (λv2 H=>ro T 1 (jP T 4 J (ro T 5 (k [3] J Ni H (tu.c · s8) (λv3 H=>ro T 1 (jP T 4 J (ro T 1 (ke [4,5] [0,1,1,1,1,1] J J (rx T 3 (lm T 3 J (jP T 1 J (ro T 1 (rx T 2 ?_)))))))))))))))))
  cases H;exact pb T J (.cK (j:=1) [(ii v2),(ii v1.2.2.D),(ii v1.2.2.cy),(ii v1.2.2.Id),(ll a9 v1.2.2.ff n9),(ll cw v1.2.2.hZ n10),(uu v3.bn),(uu v3.bB),(uu v3.bz),(uu v3.bx),(uu v3.bE),(uu v3.bC)] J J J J J J J .nil) [4,4,2,0] ⟨(_,_),a9,n9,H9,cw,n10,bX,H8,s9,bT,s8,J,J⟩ J J
 refine rc T 5 (k [4] J Ni H (tu.c · s8) (λv4 H=>ro T 1 (jP T 5 J (ro T 4 (lm T 5 J (jP T 2 J (ro T 1 (ke [4] [0,1,2,3,3] J J (rx T 1 (rc T 1 ?_))))))))))
 cases H;exact pb T J (.cK (j:=1) [(ii v1.2.2.Code),(ii v1.2.2.D),(ii v1.2.2.cy),(ii v1.2.2.Id),(ll a9 v1.2.2.ff n9),(ll cw v1.2.2.hZ n10),(uu v4.bn),(uu v4.bB),(uu v4.bz),(uu v4.bx),(uu v4.bE),(uu v4.bC)] J J J J J J J .nil) [3,3,2,0] ⟨(_,_),a9,n9,H9,cw,n10,bX,H8,s9,bT,s8,J,J⟩ J J
def xR.f (s:bI):Option aL:=(vQ.f s.nav).bind λv1=>some v1
def xR.R (r:aL) (u:Value) (G:List Hp):Prop:= ∃(a0:Option Addr) (n0:Nat) (H0:Hp),aj (Fl.int .u8) 5 r.C a0 n0 H0/\u=(.agg #[(ii r.W),(ii r.H),(ll a0 r.C n0)])/\G=[H0]
theorem xR.c (H:xR.f s=some r) (cQ:fO s bg dQ):
 QR 14 [(pp bg)] [dQ] [dQ] F (xR.R r):=by
 unfold xR.f at H;refine aD Tryz.func14 J J (λW=>rc T 2 (nc T J (λb2=>fz J (ro T 3 ?_))));obtain⟨b4,H4,yg,H5,s4,s5,dq⟩:=(λx=>x) cQ;refine bQ 0 (congrArg some dq) (fz J (rc T 2 (aX (tP (B:=λ_=>[]) [] J J J J Nv J J (Pz.c _ (AN (j:=2) J)) (λ_=>kr vQ.R [3] [3] J adV H (vQ.c · s4) (λv1 H=>?_))))));rintro _ _ ⟨a6,n6,H6,s6,rfl,rfl⟩;refine fz J (jP T 1 J (ro T 3 ?_))
 cases H;refine cq [2,4,2] J dq (pb T J (.cK (j:=1) [(ii r.W),(ii r.H),(ll a6 r.C n6)] J J J J J J J .nil) [2,2,0] ⟨(_,_),a6,n6,H6,s6,J,J⟩ J J)
def uI.f (s:bI):Option (List Int):=(vP.f s.nav).bind λv1=>some v1
def uI.R (r:(List Int)) (u:Value) (G:List Hp):Prop:= ∃(a0:Option Addr) (n0:Nat) (H0:Hp),aj (Fl.int .i64) 3 r a0 n0 H0/\u=(ll a0 r n0)/\G=[H0]
theorem uI.c (H:uI.f s=some r) (cQ:fO s bg dQ):
 QR 27 [(pp bg)] [dQ] [dQ] F (uI.R r):=by
 unfold uI.f at H;refine aD Tryz.func27 J J (λW=>rc T 6 ?_);obtain⟨b3,H3,rW,H4,s3,s4,cm⟩:=(λx=>x) cQ;refine bQ 0 (congrArg some cm) (fz J (rc T 2 (aX (tP (B:=λ_=>[]) [] J J J J Nv J J (Pz.c _ (AN (j:=1) J)) (λ_=>kr vP.R [2] [2] J ad2 H (vP.c · s3) (λv1 H=>?_))))));rintro _ _ ⟨a5,n5,H5,s5,rfl,rfl⟩;refine fz J (ro T 4 ?_)
 cases H;refine cq [1,3,1] J cm (p1 T J [1,1,0] ⟨a5,n5,H5,s5,J,J⟩ J)
end
noncomputable section
def vZ.l0:Nat->(List fg)->(List fg)->Int->Option Bool
 |0,_,_,_=>none
 |k3+1,a,b,x2=>if x2<(List.length a:Int) then(if(0<=x2/\x2<(List.length a:Int)) then(if(0<=x2/\x2<(List.length b:Int)) then(if(!(((rd a x2).Id==(rd b x2).Id)&&(((rd a x2).To==(rd b x2).To)&&true)))=true then(some false) else(vZ.l0 k3 a b (aa (x2+1)))) else none) else none) else(some true)
def vZ.f (a:(List fg)) (b:(List fg)):Option Bool:=if((List.length a:Int)!=(List.length b:Int))=true then(some false) else(vZ.l0 fuel a b 0)
theorem vZ.c (H:vZ.f a b=some r) (DS:aT jv a Ff F) (Mg:List.length a<=G6) (gW:aT jv b jW F) (gp:List.length b<=jJ):
 QU 46 [(ll Ff a G6),(ll jW b jJ)] [] F (bb r):=by
 unfold vZ.f at H;refine aD Tryz.func46 J J (λW=>rc T 15 (cb J H (λH=>?_) (λH=>?_)))
 ·refine rc T 7 ?_
  cases H;exact p0 T J [0] J
 refine rc T 9 (lq [0,1] [0] (λ(⟨k3,x2⟩:Nat×Int)=>(vZ.l0 k3 a b x2=some r,[(5,(ii x2))],[])) J J (fuel,0) [0] H J J ?_);rintro k3 x2 Z2;replace Z2:vZ.l0 (k3+1) a b x2=some r:=Z2;rw[vZ.l0] at Z2;refine rc T 9 (cd J Z2 (λZ2=>?_) (λZ2=>?_))
 ·refine rc T 5 (du mix ay (au T J (au T J ?_)));obtain⟨c4,Z2⟩:=az Z2;obtain⟨q1,o1,e1⟩:=DS.addr c4.1 c4.2;refine aO J J J (cO T J J J J J e1 c4.1 c4.2) (aO J J J (fQ T (cs:=[(ii (rd a x2).Id),(ii (rd a x2).To)]) J J J J J J (gX (k:=jv) (rO DS 0) e1 c4 J)) (au T J (au T J ?_)));obtain⟨c5,Z2⟩:=az Z2;obtain⟨q2,o2,e2⟩:=gW.addr c5.1 c5.2;refine aO J J J (cO T J J J J J e2 c5.1 c5.2) (aO J J J (fQ T (cs:=[(ii (rd b x2).Id),(ii (rd b x2).To)]) J J J J J J (gX (k:=jv) (rO gW 0) e2 c5 J)) (aO J J J (FQ T (((rd a x2).Id==(rd b x2).Id)&&(((rd a x2).To==(rd b x2).To)&&true)) J J J J aiE ay J) (cZ (rx T 1 (cb J Z2 (λZ2=>?_) (λZ2=>?_))))))
  ·refine rc T 11 ?_
   cases Z2;exact p0 T J [0] J
  refine rc T 9 (ar _ [0] Z2 J J)
 refine rc T 11 ?_
 cases Z2;exact p0 T J [0] J
end
noncomputable section
def wv.f (l:(List sK)) (n:Int):Option Int:=if(0<=(0:Int)/\(0:Int)<=(if n<(List.length l:Int) then n else(List.length l:Int))/\(if n<(List.length l:Int) then n else(List.length l:Int))<=(List.length l:Int)) then(some (if n<(List.length l:Int) then n else(List.length l:Int))) else none
theorem wv.c (H:wv.f l n=some r) (df:aT GK l ik F) (gu:List.length l<=gZ):
 QU 13 [(ll ik l gZ),(ii n)] [] F (ll (fW ik gZ (Int.toNat 0) 3) (aA l 0 r) (gZ-Int.toNat 0)):=by
 unfold wv.f at H;refine aD Tryz.func13 J J (λW=>rc T 12 ?_);obtain⟨c1,H⟩:=az H;refine br J (ko T J J J J J J c1 gu) (ro T 4 ?_);obtain rfl:=Option.some.inj H;exact Fv (T:=T) J (.tmp J .nil) (λw o=>⟨(),J,CM [0] J o⟩)
theorem wv.b {l:(List sK)} {n:Int} {r:Int} (H:wv.f l n=some r):(0<=(0:Int)/\(0:Int)<=r/\r<=(List.length l:Int)):=by
 unfold wv.f at H;obtain⟨c,H⟩:=az H;obtain rfl:=Option.some.inj H;exact c
def EN.f:Option Bool:=(tr.f 1 2).bind λv1=>dm v1 (some false) (λeZ=>(lb.f (aL.mk 3 1 [5,2,9])).bind λv2=>(ma.f eZ (cV.mk 1 0 0 v2)).bind λv3=>(ma.f v3.2 (cV.mk 3 0 2 [])).bind λv4=>(ma.f v4.2 (cV.mk 6 2 0 [])).bind λv5=>(ma.f v5.2 (cV.mk 7 0 0 [])).bind λv6=>(if(v3.1.Code==0)=true then(if(v4.1.Id==0)=true then(if(v5.1.D==11)=true then(if(v5.1.cy==1)=true then((vZ.f v6.1.ff [(fg.mk 0 1)]).bind λv9=>if v9=true then((tv.f v6.2).bind λv10=>some ((List.length v10:Int)==1)) else(some false)) else(some false)) else(some false)) else(some false)) else(some false)).bind λx7=>some x7)
theorem EN.c (H:EN.f=some r) (hG:fM 414 fc gY el F):
 QU 18 [] [] F (bb r):=by
 unfold EN.f at H;refine aD Tryz.func18 J J (λW=>rc T 7 (kr tr.R [] [] J Tj H (tr.c ·) (λv1 H=>?_)));rintro _ _ ⟨_,_,O2,rfl,rfl⟩;rcases v1 with _ |eZ
 ·replace H:=eV J H;obtain⟨rfl,rfl⟩:=O2;refine ro T 10 (nh J (rc T 7 ?_))
  cases H;exact p0 T J [0] J
 replace H:=eW J H;obtain⟨b1,H1,s1,rfl,rfl⟩:=O2;refine ro T 10 (eN J (rc T 4 (aX (cU (k:=(Fl.int .u8)) T [5,2,9] J J J J J J J J J (λa2 H2 s2=>ro T 1 (nc T J (λb3=>sg T 3 J (ro T 5 (lm T 3 J (kr lb.R [] [] J Nw H (lb.c (m:=(aL.mk 3 1 [5,2,9])) · (oO s2 2) s2.bY) (λv2 H=>?_)))))))))));rintro _ _ ⟨a4,n4,H4,s4,rfl,rfl⟩;refine fz J (ro T 1 (kr (ma.R el b1) [] [1] J F5 H (ma.c (o:=(cV.mk 1 0 0 v2)) · (dH hG (j:=0) J) s1 (oO s4 3) s4.bY) (λv3 H=>?_)));rintro _ _ ⟨a5,n5,H5,a6,n6,H6,H7,s5,s6,s7,rfl,rfl⟩;refine fz J (nc T J (λb8=>sg T 7 J (ro T 1 (ke [1,3] [0,3,3,3,3] J J (rx T 5 (kr (ma.R el b1) [] [3] J F5 H (ma.c (o:=(cV.mk 3 0 2 [])) · (dH hG (j:=0) J) s7 (.inl J) (Nat.le_refl _)) (λv4 H=>?_)))))));rintro _ _ ⟨a9,n9,H9,cw,n10,bX,cA,s9,bT,dh,rfl,rfl⟩;refine fz J (nc T J (λkN=>sg T 7 J (ro T 6 (kr (ma.R el b1) [] [6] J F5 H (ma.c (o:=(cV.mk 6 2 0 [])) · (dH hG (j:=0) J) dh (.inl J) (Nat.le_refl _)) (λv5 H=>?_)))));rintro _ _ ⟨dF,n13,eI,iE,n14,fI,dE,dn,gh,dN,rfl,rfl⟩;refine fz J (nc T J (λqu=>sg T 10 J (ro T 6 (kr (ma.R el b1) [] [9] J F5 H (ma.c (o:=(cV.mk 7 0 0 [])) · (dH hG (j:=0) J) dN (.inl J) (Nat.le_refl _)) (λv6 H=>?_)))));rintro _ _ ⟨a17,n17,ez,iQ,n18,e_,kJ,fw,fk,gR,rfl,rfl⟩;refine fz J (nc T J (λI1=>sg T 13 J (ro T 1 (ks [1,3,4,5,6] J (rx T 1 (mq H [] [0] (λz8 (x7:Bool)=>(x7=z8,[(0,(bb x7))],[])) J J (λz8 Z8 _=>?_) ?_))))))
 ·refine rc T 2 (lf T 3 J (ro T 2 (ab 29 J Z8 (λZ8=>?_) (λZ8=>?_))))
  ·refine ro T 1 (lf T 6 J (ro T 3 (ab 34 J Z8 (λZ8=>?_) (λZ8=>?_))))
   ·refine ro T 1 (lf T 9 J (ro T 3 (ab 39 J Z8 (λZ8=>?_) (λZ8=>?_))))
    ·refine ro T 1 (lf T 9 J (ro T 3 (ab 44 J Z8 (λZ8=>?_) (λZ8=>?_))))
     ·refine ro T 1 (lf T 13 J (ro T 1 (aX (cU (k:=jv) T [(fg.mk 0 1)] J J J J J J J J J (λa21 lr jO=>k [] J adW Z8 (vZ.c (b:=[(fg.mk 0 1)]) · (oO fw 10) fw.bY (oO jO 14) jO.bY) (λv9 Z8=>ro T 2 (ab 51 J Z8 (λZ8=>?_) (λZ8=>?_))))))))
      ·refine ro T 1 (kr tv.R [12] [12] J Tq Z8 (tv.c · gR) (λv10 Z8=>?_));rintro _ _ ⟨a22,n22,mC,iM,rfl,rfl⟩;refine fz J (ro T 6 (am _ [0] (oi Z8) J J))
      refine ro T 8 (am _ [0] (oi Z8) J J)
     refine ro T 15 (am _ [0] (oi Z8) J J)
    refine ro T 20 (am _ [0] (oi Z8) J J)
   refine ro T 25 (am _ [0] (oi Z8) J J)
  refine ro T 30 (am _ [0] (oi Z8) J J)
 rintro _ x7 rfl H;refine rc T 1 ?_
 cases H;exact p0 T J [0] J
end
noncomputable section
def dB.l3:Nat->List Bool->(iq×bI)->(List Int)->Int->Int->Option (Sum Bool (bI×(List Bool)))
 |0,_,_,_,_,_=>none
 |Ed+1,dW,bR,v46,nY,mZ=>if mZ<(List.length dW:Int) then(if(0<=mZ/\mZ<(List.length dW:Int)) then(if(rd dW mZ)=true then((if nY≥(List.length v46:Int) then(some true) else(if(0<=nY/\nY<(List.length v46:Int)) then(some ((rd v46 nY)!=mZ)) else none)).bind λHY=>if HY=true then(some (Sum.inl false)) else(dB.l3 Ed dW bR v46 (aa (nY+1)) (aa (mZ+1)))) else(dB.l3 Ed dW bR v46 nY (aa (mZ+1)))) else none) else(if(nY !=(List.length v46:Int))=true then(some (Sum.inl false)) else(some (Sum.inr (bR.2,dW))))
def dB.l2:Nat->List Bool->Int->Option (List Bool)
 |0,_,_=>none
 |Kl+1,yj,fm=>if fm<(List.length yj:Int) then(if(0<=fm/\fm<(List.length yj:Int)) then(dB.l2 Kl (List.set yj (Int.toNat fm) true) (aa (fm+1))) else none) else(some yj)
def dB.l1:Nat->(List cV)->List Bool->Int->fP->(List aF)->(iq×bI)->aL->Int->Int->Option (Sum Bool (bI×(List Bool)))
 |0,_,_,_,_,_,_,_,_,_=>none
 |GG+1,v2,x8,x9,cg,cS,bR,v17,hJ,di=>if di<(List.length x8:Int) then((if(0<=di/\di<(List.length x8:Int)) then(if(rd x8 di)=true then(some (aa (hJ+1))) else(some hJ)) else none).bind λdy=>dB.l1 GG v2 x8 x9 cg cS bR v17 dy (aa (di+1))) else((if(bR.1.Code==0)=true then(if(0<=x9/\x9<(List.length v2:Int)) then(if((rd v2 x9).Kind==6)=true then(some true) else(if((rd v2 x9).Kind==7)=true then(some (decide ((List.length cS:Int)>0))) else(some false))) else none) else(some false)).bind λiz=>(if iz=true then(if(bR.1.Stats.bn !=(dU (cg.bn+(dU hJ))))=true then(some true) else(if(!iz)=true then(some (!((bR.1.Stats.bn==cg.bn)&&((bR.1.Stats.bB==cg.bB)&&((bR.1.Stats.bz==cg.bz)&&((bR.1.Stats.bx==cg.bx)&&((bR.1.Stats.bE==cg.bE)&&((bR.1.Stats.bC==cg.bC)&&true)))))))) else(some false))) else(if(!iz)=true then(some (!((bR.1.Stats.bn==cg.bn)&&((bR.1.Stats.bB==cg.bB)&&((bR.1.Stats.bz==cg.bz)&&((bR.1.Stats.bx==cg.bx)&&((bR.1.Stats.bE==cg.bE)&&((bR.1.Stats.bC==cg.bC)&&true)))))))) else(some false))).bind λjC=>if jC=true then(some (Sum.inl false)) else((if iz=true then(if(0<=(List.length x8:Int)/\(List.length x8:Int)<=1099511627776) then(some (List.replicate (Int.toNat (List.length x8:Int)) false)) else none) else(some x8)).bind λgj=>((if(bR.1.Code==0)=true then(if(0<=x9/\x9<(List.length v2:Int)) then(some ((rd v2 x9).Kind==1)) else none) else(some false)).bind λkH=>if kH=true then((vX.f v17.W v17.H).bind λv35=>if(0<=v35/\v35<=1099511627776) then(dB.l2 fuel (List.replicate (Int.toNat v35) false) 0) else none) else(some gj)).bind λnX=>((if(bR.1.Code==0)=true then(if(0<=x9/\x9<(List.length v2:Int)) then(some ((rd v2 x9).Kind==2)) else none) else(some false)).bind λeH=>if eH=true then(if(0<=x9/\x9<(List.length v2:Int)) then((gi.f v17.W v17.H ((rd v2 x9).A)).bind λv45=>if((decide (v45<0))||(decide (v45≥(List.length nX:Int))))=true then(some (Sum.inl false)) else(if(0<=v45/\v45<(List.length nX:Int)) then(some (Sum.inr (List.set nX (Int.toNat v45) true))) else none)) else none) else(some (Sum.inr nX))).bind λzz=>match zz with |Sum.inl q=>some (Sum.inl q) |Sum.inr dW=>(uI.f bR.2).bind λv46=>dB.l3 fuel dW bR v46 0 0))
def dB.l0:Nat->(List cV)->bI->List Bool->Int->Option Bool
 |0,_,_,_,_=>none
 |qH+1,v2,x7,x8,x9=>if x9<(List.length v2:Int) then(((tu.f x7).bind λcg=>(tv.f x7).bind λcS=>if(0<=x9/\x9<(List.length v2:Int)) then((ma.f x7 (rd v2 x9)).bind λbR=>(xR.f bR.2).bind λv17=>dB.l1 fuel v2 x8 x9 cg cS bR v17 0 0) else none).bind λzz=>match zz with |Sum.inl q=>some q |Sum.inr (bf,bo)=>dB.l0 qH v2 bf bo (aa (x9+1))) else((EN.f).bind λv54=>some v54)
def dB.f (w:Int) (h:Int) (p2:(List Int)) (l:(List sK)):Option Bool:=(wv.f l 50).bind λv1=>(nL.f w h p2 (aA l 0 v1)).bind λv2=>(tr.f 2 5).bind λv3=>dm v3 (some false) (λtG=>dB.l0 fuel v2 tG [] 0)
theorem dB.c (H:dB.f w h p2 l=some r) (hG:fM 414 fc gY el F) (B4:aT (Fl.int .u8) p2 Fg F) (FE:List.length p2<=G7) (df:aT GK l ik F) (gu:List.length l<=gZ):
 QU 5 [(ii w),(ii h),(ll Fg p2 G7),(ll ik l gZ)] [] F (bb r):=by
 unfold dB.f at H;refine aD Tryz.func5 J J (λW=>rc T 11 ?_);obtain⟨v1,V1,H⟩:=f_ H;have c2:=wv.b V1;refine aX (tP (B:=λ_=>[]) [] J J J J acs J J (wv.c V1 (rO df 0) gu) (λ_=>kr nL.R [] [] J acY H (nL.c · (rO B4 0) FE (mW (rO df 0) c2 gu) (mz c2 gu)) (λv2 H=>?_)));rintro _ _ ⟨a1,n1,H1,s1,rfl,rfl⟩;refine fz J (ro T 5 (kr tr.R [] [] J Tj H (tr.c ·) (λv3 H=>?_)));rintro _ _ ⟨_,_,O5,rfl,rfl⟩;rcases v3 with _ |tG
 ·replace H:=eV J H;obtain⟨rfl,rfl⟩:=O5;refine ro T 10 (nh J (rc T 7 ?_))
  cases H;exact p0 T J [0] J
 replace H:=eW J H;obtain⟨b2,H2,s2,rfl,rfl⟩:=O5;refine ro T 10 (eN J (rc T 14 (bw (lq [9,10] [0,0] (λ(⟨qH,x7,x8,x9,H5,a6,n6,H6⟩:Nat×bI×List Bool×Int×Hp×Option Addr×Nat×Hp)=>(dB.l0 qH v2 x7 x8 x9=some r/\fO x7 b2 H5/\aj Fl.bool 4 x8 a6 n6 H6,[(11,(ll a6 x8 n6)),(12,(ii x9))],[H5,H6])) J J (fuel,tG,[],0,H2,none,0,[]) [0,0,0,0] ⟨H,s2,aj.nil⟩ J J ?_))));rintro qH ⟨x7,x8,x9,H5,a6,n6,H6⟩ ⟨Z6,s5,s6⟩;rw[dB.l0] at Z6;refine rc T 9 (cd J Z6 (λZ6=>?_) (λZ6=>?_))
 ·refine rc T 2 (mq Z6 [9,10,12] [0,0] (λtI (⟨bf,bo,H7,a8,n8,H8⟩:bI×List Bool×Hp×Option Addr×Nat×Hp)=>((Sum.inr (bf,bo))=tI/\fO bf b2 H7/\aj Fl.bool 4 bo a8 n8 H8,[(11,(ll a8 bo n8))],[H7,H8])) J J (λtI Z8 Z6=>?_) ?_)
  ·refine rc T 4 (k [2] J Ni Z8 (tu.c · s5) (λcg Z8=>ro T 1 (kr tv.R [2] [2] J Tq Z8 (tv.c · s5) (λcS Z8=>?_))));rintro _ _ ⟨a9,n9,H9,s9,rfl,rfl⟩;refine fz J (ro T 1 (nc T J (λfJ=>sg T 5 J (ro T 8 ?_))));obtain⟨dG,Z8⟩:=az Z8;obtain⟨VW,Vt,tV⟩:=s1.r.addr dG.1 dG.2;refine ix T J tV dG ?_;obtain⟨_,PR,⟨a12,n12,⟨Wz,m12⟩,rfl⟩⟩:=lz.view s1.r dG;refine br J (fQ T (cs:=[(ii (rd v2 x9).Kind),(ii (rd v2 x9).A),(ii (rd v2 x9).B),(ll a12 (rd v2 x9).Map n12)]) J J J J J J (Of (j:=1) J PR tV 0 J)) (kr (ma.R el b2) [] [4] J F5 Z8 (ma.c · (dH hG (j:=0) J) s5 (rO Wz 1) m12) (λbR Z8=>?_));rintro _ _ ⟨iE,n14,fI,jE,n15,dE,fN,gh,dN,fj,rfl,rfl⟩;refine fz J (nc T J (λz7=>sg T 8 J (ro T 5 (kr xR.R [7] [7] J acu Z8 (xR.c · fj) (λv17 Z8=>?_)))));rintro _ _ ⟨iQ,n18,e_,fk,rfl,rfl⟩;refine fz J (nc T J (λQP=>sg T 10 J (ro T 1 (ke [9,10,11,12,13,14,15,16] [0,0,0,1,1,1,1,1,1,1] J J (rx T 13 (lq [9,10,11,12,13,14,15,16] [0,0,6,0,0,2,0,0,1,0] (λ(⟨GG,hJ,di⟩:Nat×Int×Int)=>(dB.l1 GG v2 x8 x9 cg cS bR v17 hJ di=some tI,[(17,(ii hJ)),(18,(ii di))],[])) J J (fuel,0,0) [0,0,6,0,0,2,0,0,1,0] Z8 J J ?_))))));rintro GG ⟨hJ,di⟩ bD;replace bD:dB.l1 (GG+1) v2 x8 x9 cg cS bR v17 hJ di=some tI:=bD;rw[dB.l1] at bD;refine rc T 9 (cd J bD (λbD=>?_) (λbD=>?_))
   ·refine rc T 2 (mq bD [9,10,11,12,13,14,15,16,18] [0,0,0,0,0,0,0,0,0,0] (λz24 (dy:Int)=>(dy=z24,[(17,(ii dy))],[])) J J (λz24 kK _=>?_) ?_)
    ·refine rc T 5 ?_;obtain⟨jq,kK⟩:=az kK;obtain⟨Wi,Vv,vh⟩:=s6.r.addr jq.1 jq.2;refine ix T J vh jq (le T 0 (oO s6 3) vh jq J J (ro T 2 (cb J kK (λkK=>?_) (λkK=>?_))))
     ·refine rc T 7 (am _ [0,0,0,0,0,0,0,0,0,0] (oi kK) J J)
     refine rc T 3 (am _ [0,0,0,0,0,0,0,0,0,0] (oi kK) J J)
    rintro _ dy rfl bD;refine rc T 6 (ar (_,_) [0,0,0,0,0,0,0,0,0,0] bD J J)
   refine rc T 5 (mq bD [9,10,11,12,13,15,16,17] [0,0,0,0,0,0,0,0,0,0] (λz26 (iz:Bool)=>(iz=z26,[(19,(bb iz))],[])) J J (λz26 cY _=>?_) ?_)
   ·refine rc T 2 (lf T 5 J (ro T 2 (ab 68 J cY (λcY=>?_) (λcY=>?_))))
    ·refine ro T 2 ?_;obtain⟨lE,cY⟩:=az cY;obtain⟨CT,Vw,w8⟩:=s1.r.addr lE.1 lE.2;refine ix T J w8 lE (ro T 1 ?_);obtain⟨_,XB,⟨a22,n22,⟨r22,m22⟩,rfl⟩⟩:=lz.view s1.r lE;refine lg T J (uj (j:=1) J XB w8 0 J) (ro T 2 (ab 75 J cY (λcY=>?_) (λcY=>?_)))
     ·refine ro T 15 (am _ [0,0,0,0,0,0,0,0,0,0] (oi cY) J J)
     refine ro T 2 (ix T J w8 lE (ro T 1 (lg T J (uj (j:=1) J XB w8 0 J) (ro T 2 (ab 82 J cY (λcY=>?_) (λcY=>?_))))))
     ·refine ro T 8 (am _ [0,0,0,0,0,0,0,0,0,0] (oi cY) J J)
     refine ro T 8 (am _ [0,0,0,0,0,0,0,0,0,0] (oi cY) J J)
    refine ro T 22 (am _ [0,0,0,0,0,0,0,0,0,0] (oi cY) J J)
   rintro _ iz rfl bD;refine rc T 1 (mq bD [9,10,11,12,15,16,19] [0,0,0,0,1,1,1,1,1] (λz28 (jC:Bool)=>(jC=z28,[(109,(bb jC))],[])) J J (λz28 oR _=>?_) ?_)
   ·refine rc T 3 (ab 89 J oR (λoR=>?_) (λoR=>?_))
    ·refine ro T 2 (lf T 5 J (ro T 1 (lf T 4 J (ro T 6 (ab 100 J oR (λoR=>?_) (λoR=>?_))))))
     ·refine ro T 11 (am _ [0,0,0,0,1,1,1,1,1] (oi oR) J J)
     refine ro T 3 (ab 103 J oR (λoR=>?_) (λoR=>?_))
     ·refine ro T 1 (lm T 5 J (lm T 4 J (br J (FQ T ((bR.1.Stats.bn==cg.bn)&&((bR.1.Stats.bB==cg.bB)&&((bR.1.Stats.bz==cg.bz)&&((bR.1.Stats.bx==cg.bx)&&((bR.1.Stats.bE==cg.bE)&&((bR.1.Stats.bC==cg.bC)&&true)))))) J J J J W_ ay J) (ro T 4 (am _ [0,0,0,0,1,1,1,1,1] (oi oR) J J)))))
     refine ro T 8 (am _ [0,0,0,0,1,1,1,1,1] (oi oR) J J)
    refine ro T 14 (ab 103 J oR (λoR=>?_) (λoR=>?_))
    ·refine ro T 1 (lm T 5 J (lm T 4 J (br J (FQ T ((bR.1.Stats.bn==cg.bn)&&((bR.1.Stats.bB==cg.bB)&&((bR.1.Stats.bz==cg.bz)&&((bR.1.Stats.bx==cg.bx)&&((bR.1.Stats.bE==cg.bE)&&((bR.1.Stats.bC==cg.bC)&&true)))))) J J J J W_ ay J) (ro T 4 (am _ [0,0,0,0,1,1,1,1,1] (oi oR) J J)))))
    refine ro T 8 (am _ [0,0,0,0,1,1,1,1,1] (oi oR) J J)
   rintro _ jC rfl bD;refine cb J bD (λbD=>?_) (λbD=>?_)
   ·refine rc T 12 ?_;obtain rfl:=Option.some.inj bD;obtain rfl:=Option.some.inj (show some false=some r from Z6)
    exact p0 T J [0] J
   refine rc T 2 (mq bD [9,10,12,15,16] [0,0,0,1,1,1,1,1] (λIp (⟨gj,a24,n24,oc⟩:List Bool×Option Addr×Nat×Hp)=>(gj=Ip/\aj Fl.bool 4 gj a24 n24 oc,[(11,(ll a24 gj n24))],[oc])) J J (λIp uV _=>?_) ?_)
   ·refine rc T 5 (cb J uV (λuV=>?_) (λuV=>?_))
    ·refine rc T 3 ?_;obtain⟨Md,uV⟩:=az uV;refine aX (u6 (k:=Fl.bool) T false J J J J J J J J Md J (λa25 n25 gL iW=>ro T 3 (am (_,_,_,_) [0,0,0,1,1,1,1,1,1] ⟨oi uV,iW⟩ J J)))
    refine rc T 2 (am (_,_,_,_) [0,0,0,1,1,1,1,1,0] ⟨oi uV,s6⟩ J J)
   rintro _ ⟨gj,a24,n24,oc⟩ ⟨rfl,lj⟩ bD;refine mq bD [9,10,12,15,16] [0,0,0,0,0,0,0,0] (λz32 (⟨nX,a26,n26,mg⟩:List Bool×Option Addr×Nat×Hp)=>(nX=z32/\aj Fl.bool 4 nX a26 n26 mg,[(11,(ll a26 nX n26))],[mg])) J J (λz32 uX _=>?_) ?_
   ·refine mq uX [9,10,11,12,15,16] [0,0,0,5,0,0,0,0,0] (λIq (kH:Bool)=>(kH=Iq,[(124,(bb kH))],[])) J J (λIq BD _=>?_) ?_
    ·refine rc T 2 (lf T 3 J (ro T 2 (ab 117 J BD (λBD=>?_) (λBD=>?_))))
     ·refine ro T 2 ?_;obtain⟨I5,BD⟩:=az BD;obtain⟨Et,o27,tX⟩:=s1.r.addr I5.1 I5.2;refine ix T J tX I5 (ro T 1 ?_);obtain⟨_,w29,⟨a28,n28,⟨r28,m28⟩,rfl⟩⟩:=lz.view s1.r I5;refine lg T J (uj (j:=1) J w29 tX 0 J) (ro T 4 (am _ [0,0,0,5,0,0,0,0,0] (oi BD) J J))
     refine ro T 9 (am _ [0,0,0,5,0,0,0,0,0] (oi BD) J J)
    rintro _ kH rfl uX;refine cb J uX (λuX=>?_) (λuX=>?_)
    ·refine rc T 3 (lf T 7 J (ro T 1 (lf T 7 J (k [] J Nq uX (vX.c ·) (λv35 uX=>?_)))));obtain⟨c39,uX⟩:=az uX;refine aX (u6 (k:=Fl.bool) T false J J J J J J J J c39 J (λyz n30 pL nM=>ro T 9 (lq [9,10,12,15,16] [0,0,0,1,1,1,1,1] (λ(⟨Kl,yj,fm,a32,n32,zP⟩:Nat×List Bool×Int×Option Addr×Nat×Hp)=>(dB.l2 Kl yj fm=some z32/\aj Fl.bool 4 yj a32 n32 zP,[(11,(ll a32 yj n32)),(20,(ii fm))],[zP])) J J (fuel,(List.replicate (Int.toNat v35) false),0,yz,n30,pL) [0,0,0,1,1,1,1,1,1] ⟨uX,nM⟩ J J ?_)));rintro Kl ⟨yj,fm,a32,n32,zP⟩ ⟨zX,s_⟩;rw[dB.l2] at zX;refine rc T 9 (cd J zX (λzX=>?_) (λzX=>?_))
     ·refine rc T 7 ?_;obtain⟨I6,zX⟩:=az zX;obtain⟨q33,o33,Rx⟩:=s_.r.addr I6.1 I6.2;refine ix T J Rx I6 (aX (jX (k:=Fl.bool) T 8 0 true J J J J J J s_ Rx I6 J J J (λtJ uC=>kf [9,10,12,15,16,20] [0,0,0,0,0,0,0,0,0] [(11,(ll a32 (List.set yj (Int.toNat fm) true) n32))] J J ⟨(by first |rfl |(simp only[ll,List.length_set];rfl)),trivial⟩ (ro T 9 ?_))))
      exact ar (_,_,_,_,_) [0,0,0,0,0,0,0,0,0] ⟨zX,uC⟩ J J
     refine rc T 5 (am (_,_,_,_) [0,0,0,0,0,0,0,0,0] ⟨oi zX,s_⟩ J J)
    refine rc T 2 (am (_,_,_,_) [0,0,0,1,1,1,1,1,0] ⟨oi uX,lj⟩ J J)
   rintro _ ⟨nX,a26,n26,mg⟩ ⟨rfl,lK⟩ bD;refine mq bD [9,10,12] [0,0,0] (λXI (⟨dW,a35,n35,zQ⟩:List Bool×Option Addr×Nat×Hp)=>((Sum.inr dW)=XI/\aj Fl.bool 4 dW a35 n35 zQ,[(11,(ll a35 dW n35))],[zQ])) J J (λXI oS bD=>?_) ?_
   ·refine mq oS [9,10,11,12,16] [0,0,0,5,3,3] (λz44 (eH:Bool)=>(eH=z44,[(150,(bb eH))],[])) J J (λz44 BE _=>?_) ?_
    ·refine rc T 2 (lf T 3 J (ro T 2 (ab 143 J BE (λBE=>?_) (λBE=>?_))))
     ·refine ro T 2 ?_;obtain⟨I7,BE⟩:=az BE;obtain⟨q36,o36,Ry⟩:=s1.r.addr I7.1 I7.2;refine ix T J Ry I7 (ro T 1 ?_);obtain⟨_,w38,⟨a37,n37,⟨r37,m37⟩,rfl⟩⟩:=lz.view s1.r I7;refine lg T J (uj (j:=1) J w38 Ry 0 J) (ro T 4 (am _ [0,0,0,5,3,3] (oi BE) J J))
     refine ro T 9 (am _ [0,0,0,5,3,3] (oi BE) J J)
    rintro _ eH rfl oS;refine cb J oS (λoS=>?_) (λoS=>?_)
    ·refine rc T 1 (du mix ay (au T J (aO J J J (aw T J J J J (aH (j:=4) J J)) (au T J (aO J J J (aw T J J J J (aH (j:=4) J J)) (au T J (au T J ?_)))))));obtain⟨FC,oS⟩:=az oS;obtain⟨q39,o39,FK⟩:=s1.r.addr FC.1 FC.2;refine aO J J J (cO T J J J J J FK FC.1 FC.2) (au T J ?_);obtain⟨_,w41,⟨a40,n40,⟨r40,m40⟩,rfl⟩⟩:=lz.view s1.r FC;refine aO J J J (aw T J J J J (uj (j:=1) J w41 FK 1 J)) ?_;obtain⟨v45,Yi,oS⟩:=f_ oS;refine tQ J J J J J J qA J (gi.c Yi) (au T J (cZ (rx T 7 (go T [3,4,5,6,7] 163 [9,10,11,12,21] 168 J J J J J J J (ro T 2 (cb J oS (λoS=>?_) (λoS=>?_)))))))
     ·refine rc T 13 ?_;obtain rfl:=Option.some.inj oS;obtain rfl:=Option.some.inj (show some (Sum.inl false)=some tI from bD)
      obtain rfl:=Option.some.inj (show some false=some r from Z6)
      exact p0 T J [0] J
     refine rc T 5 ?_;obtain⟨I8,oS⟩:=az oS;obtain⟨q42,o42,RC⟩:=lK.r.addr I8.1 I8.2;refine ix T J RC I8 (aX (jX (k:=Fl.bool) T 3 0 true J J J J J J lK RC I8 J J J (λgm qP=>kf [9,10,12] [0,0,0,0] [(11,(ll a26 (List.set nX (Int.toNat v45) true) n26))] J J ⟨(by first |rfl |(simp only[ll,List.length_set];rfl)),trivial⟩ (ro T 2 ?_))))
     exact am (_,_,_,_) [0,0,0,0] ⟨oi oS,qP⟩ J J
    refine rc T 2 (am (_,_,_,_) [0,0,0,0] ⟨oi oS,lK⟩ J J)
   rintro _ ⟨dW,a35,n35,zQ⟩ ⟨rfl,A6⟩ bD;refine rc T 3 (kr uI.R [2] [2] J adB bD (uI.c · fj) (λv46 bD=>?_));rintro _ _ ⟨a44,n44,P2,xN,rfl,rfl⟩;refine fz J (ro T 11 (lq [9,10,11,12,22] [0,0,2,0,0] (λ(⟨Ed,nY,mZ⟩:Nat×Int×Int)=>(dB.l3 Ed dW bR v46 nY mZ=some tI,[(23,(ii nY)),(24,(ii mZ))],[])) J J (fuel,0,0) [0,0,2,0,0] bD J J ?_));rintro Ed ⟨nY,mZ⟩ kM;replace kM:dB.l3 (Ed+1) dW bR v46 nY mZ=some tI:=kM;rw[dB.l3] at kM;refine rc T 9 (cd J kM (λkM=>?_) (λkM=>?_))
   ·refine rc T 8 ?_;obtain⟨I9,kM⟩:=az kM;obtain⟨q45,o45,RE⟩:=A6.r.addr I9.1 I9.2;refine ix T J RE I9 (le T 0 (oO A6 3) RE I9 J J (ro T 2 (cb J kM (λkM=>?_) (λkM=>?_))))
    ·refine rc T 1 (mq kM [9,10,11,12,22,23,24] [0,0,0,0,0] (λz53 (HY:Bool)=>(HY=z53,[(195,(bb HY))],[])) J J (λz53 BF _=>?_) ?_)
     ·refine rc T 6 (ad 188 J BF (λBF=>?_) (λBF=>?_))
      ·refine ro T 9 (am _ [0,0,0,0,0] (oi BF) J J)
      refine ro T 2 ?_;obtain⟨I_,BF⟩:=az BF;obtain⟨q46,o46,RF⟩:=xN.r.addr I_.1 I_.2;refine ix T J RF I_ (le T 0 (oO xN 4) RF I_ J J (ro T 5 (am _ [0,0,0,0,0] (oi BF) J J)))
     rintro _ HY rfl kM;refine cb J kM (λkM=>?_) (λkM=>?_)
     ·refine rc T 17 ?_;obtain rfl:=Option.some.inj kM;obtain rfl:=Option.some.inj (show some false=some r from Z6)
      exact p0 T J [0] J
     refine rc T 15 (ar (_,_) [0,0,0,0,0] kM J J)
    refine rc T 9 (ar (_,_) [0,0,0,0,0] kM J J)
   refine rc T 13 (cb J kM (λkM=>?_) (λkM=>?_))
   ·refine rc T 11 ?_;obtain rfl:=Option.some.inj kM;obtain rfl:=Option.some.inj (show some false=some r from Z6)
    exact p0 T J [0] J
   refine rc T 3 (am (_,_,_,_,_,_) [0,0,0,0] ⟨oi kM,fj,A6⟩ J J)
  rintro _ ⟨bf,bo,H7,a8,n8,H8⟩ ⟨rfl,s7,s8⟩ Z6;refine rc T 6 (ar (_,_,_,_,_,_,_) [0,0,0,0] ⟨Z6,s7,s8⟩ J J)
 refine rc T 7 (k [] J acM Z6 (EN.c · (dH hG (j:=0) J)) (λv54 Z6=>ro T 4 ?_))
 cases Z6;exact p0 T J [0] J
def dB.Pure:Prop:= ∀(w:Int) (h:Int) (p2:(List Int)) (l:(List sK)),xn w->xn h->(∀y∈p2,eP y)->(∀y∈l,(xn y.Kind/\xn y.A/\xn y.B))->List.length p2<=9223372036854775807->List.length l<=9223372036854775807->dB.f w h p2 l=some true
end
end Go.Proofs.YthodkonhneebbaaGreatDoor
