/- What the functions of some packages compute, each as a function of plain Lean, with its contract. No condition. -/
import Derived.Test.YthodkonhneebbaaGreatDoorKWT
import Derived.Test.YthodkonhneebbaaGreatDoorKW6
import Derived.Test.YthodkonhneebbaaGreatDoorKW7
import Derived.Test.YthodkonhneebbaaGreatDoorKW12
import Derived.Test.YthodkonhneebbaaGreatDoorKW5
import Derived.Test.YthodkonhneebbaaGreatDoorKW10
namespace Go.Proofs.YthodkonhneebbaaGreatDoor
open Go.Hx
set_option maxRecDepth 100000
set_option linter.unusedSimpArgs false
set_option linter.unusedVariables false
set_option maxHeartbeats 4000000
set_option autoImplicit true
set_option relaxedAutoImplicit true
noncomputable section
def tz.f (ag:Int) (most:Int):Option (Option bT):=if(((decide (ag<1))||(decide (most<1)))||(decide (most>65536)))=true then(some none) else((xB.f ag).bind λv1=>du v1 (none) (λfc=>some (some (bT.mk most fc none))))
def tz.R (r:(Option bT)):bm:=λu G=> ∃(u0:Value) (G0:List Hp),X7 r u0 G0/\u=u0/\G=G0
theorem tz.c (H:tz.f ag most=some r):
 QR 21 [(ii ag),(ii most)] [] [] F (tz.R r):=by
 unfold tz.f at H;refine aG Tryz.func21 J J (λW=>rc T 11 (go T [3,4,5] 7 [0,1] 10 J J J J J J J (ro T 1 (go T [7,8,9] 11 [0,1] 14 J J J J J J J (ro T 2 (cb J H (λH=>?_) (λH=>?_)))))))
 ·refine rc T 7 ?_
  cases H;exact p1 T J [0] ⟨_,_,⟨J,J⟩,J,J⟩ J
 refine rc T 6 (kr xB.R [] [] J adX H (xB.c ·) (λv1 H=>?_));rintro _ _ ⟨_,_,O3,rfl,rfl⟩;rcases v1 with _ |fc
 ·replace H:=fi J H
  cases H
 replace H:=fj J H;obtain⟨b1,H1,s1,rfl,rfl⟩:=O3;refine ro T 1 (nc T J (λb2=>fz J (ro T 4 ?_)))
 cases H;refine aq J (gq [2,1,1] J (p1 T J [1,0] ⟨_,_,⟨b2,(List.flatten [(cl b2 103 [(ii most),(pp b1),(.pointer none)]),H1,[]]),(show gv (bT.mk most fc none) b2 (List.flatten [(cl b2 103 [(ii most),(pp b1),(.pointer none)]),H1,[]]) from⟨b1,H1,(.pointer none),[],s1,(show BD none (.pointer none) [] from⟨J,J⟩),J⟩),J,J⟩,J,J⟩ J))
theorem Xi.c {b:Nat} {c0 c1 c2:Value} (F:Hp) (m:(b,Obj.cells #[c0,c1,c2] 103 (0,0))∈F):
 QU 42 [(pp b)] [] F c1:=by
 refine aG Tryz.func42 J J (λW=>rc T 12 (eY J (rc T 7 (lg T J (nM (j:=0) m J J) (ro T 4 (FF (T:=T) J (.tmp J .nil) (λw o=>⟨(),J,CP [0] J o⟩)))))))
def xN.f (s:bT):Option aM:=(vL.f s.nav).bind λv1=>some v1
def xN.R (r:aM):bm:=λu G=> ∃a0 n0 H0,aj (Fl.int .u8) 5 r.C a0 n0 H0/\u=(.agg #[(ii r.W),(ii r.H),(ll a0 r.C n0)])/\G=[H0]
theorem xN.c (H:xN.f s=some r) (cX:gv s bj eG):
 QR 14 [(pp bj)] [eG] [eG] F (xN.R r):=by
 unfold xN.f at H;refine aG Tryz.func14 J J (λW=>rc T 2 (nc T J (λb2=>fz J (ro T 3 ?_))));obtain⟨b4,H4,ya,H5,s4,s5,dt⟩:=(λx=>x) cX;refine bS 0 (congrArg some dt) (fz J (rc T 2 (aZ (uT (B:=λ_=>[]) [] J J J J Tx J J (Xi.c _ (Cz (j:=2) J)) (λ_=>kr vL.R [3] [3] J adU H (vL.c · s4) (λv1 H=>?_))))));rintro _ _ ⟨a6,n6,H6,s6,rfl,rfl⟩;refine fz J (jZ T 1 J (ro T 3 ?_))
 cases H;refine cq [2,4,2] J dt (pb T J (.cN (j:=1) [(ii r.W),(ii r.H),(ll a6 r.C n6)] J J J J J J J .nil) [2,2,0] ⟨(_,_),a6,n6,H6,s6,J,J⟩ J J)
theorem Xj.c {b:Nat} {c0 c1 c2:Value} (F:Hp) (m:(b,Obj.cells #[c0,c1,c2] 103 (0,0))∈F):
 QU 53 [(pp b)] [] F c2:=by
 refine aG Tryz.func53 J J (λW=>rc T 12 (eY J (rc T 7 (lg T J (nM (j:=0) m J J) (ro T 4 (FF (T:=T) J (.tmp J .nil) (λw o=>⟨(),J,CP [0] J o⟩)))))))
def tA.f (s:bT):Option (List aD):=du s.eZ ((Ao.f).bind λv2=>some v2) (λx1=>(ph.f x1).bind λv3=>some v3)
def tA.R (r:(List aD)):bm:=λu G=> ∃a0 n0 H0,aj lL 67 r a0 n0 H0/\u=(ll a0 r n0)/\G=[H0]
theorem tA.c (H:tA.f s=some r) (cX:gv s bj eG):
 QR 23 [(pp bj)] [eG] [eG] F (tA.R r):=by
 unfold tA.f at H;refine aG Tryz.func23 J J (λW=>rc T 6 ?_);obtain⟨b3,H3,uG,H4,s3,s4,cy⟩:=(λx=>x) cX;refine bS 0 (congrArg some cy) (fz J ?_);rcases q1:s.eZ with _ |x1
 ·replace H:=fi q1 H;rw[q1] at s4;obtain⟨rfl,rfl⟩:=s4;refine rc T 2 (aZ (uT (B:=λ_=>[]) [] J J J J TA J J (Xj.c _ (Cz (j:=1) J)) (λ_=>kr Ao.R [] [] J JI H (Ao.c ·) (λv2 H=>?_))));rintro _ _ ⟨a7,n7,H7,s7,rfl,rfl⟩;refine fz J (ro T 4 ?_)
  cases H;refine cq [1,1,1] J cy (p1 T J [1,1,0] ⟨a7,n7,H7,s7,J,J⟩ J)
 replace H:=fj q1 H;rw[q1] at s4;obtain⟨b6,H6,s6,rfl,xa⟩:=s4;refine bS 3 (congrArg some xa) (fz J (rc T 2 (aZ (uT (B:=λ_=>[]) [] J J J J TA J J (Xj.c _ (Cz (j:=1) J)) (λ_=>kr ph.R [3] [3] J JI H (ph.c · s6) (λv3 H=>?_))))));rintro _ _ ⟨a8,n8,H8,s8,rfl,rfl⟩;refine fz J (ro T 4 ?_)
 cases H;refine cq [4] J xa (cq [1,1,2] J cy (p1 T J [1,1,0] ⟨a8,n8,H8,s8,J,J⟩ J))
def qY.f (s:bT):Option fx:=(CH.f s.nav).bind λv1=>some v1
theorem qY.c (H:qY.f s=some r) (cX:gv s bj eG):
 QU 22 [(pp bj)] [eG] F (.agg #[(uu r.bB),(uu r.bw),(uu r.bk),(uu r.bn),(uu r.bF),(uu r.bE)]):=by
 unfold qY.f at H;refine aG Tryz.func22 J J (λW=>rc T 2 (nc T J (λb2=>fz J (ro T 3 ?_))));obtain⟨b4,H4,ya,H5,s4,s5,dt⟩:=(λx=>x) cX;refine bS 0 (congrArg some dt) (fz J (rc T 2 (aZ (uT (B:=λ_=>[]) [] J J J J Tx J J (Xi.c _ (Cz (j:=2) J)) (λ_=>k [3] J adY H (CH.c · s4) (λv1 H=>jZ T 1 J (ro T 3 ?_)))))))
 cases H;refine cq [2,2,2] J dt (pb T J (.cN (j:=1) [(uu r.bB),(uu r.bw),(uu r.bk),(uu r.bn),(uu r.bF),(uu r.bE)] J J J J J J J .nil) [2,0] () J J)
def rY.f (s:bT) (o:cS):Option Er:=if(o.Kind==3)=true then((sV.f s.nav o.B).bind λv1=>if(v1==0)=true then(some (Er.num 148 7)) else((sV.f s.nav o.A).bind λv2=>if(v2==0)=true then(some (Er.num 148 7)) else(some Er.nil))) else(if(o.Kind==2)=true then((sV.f s.nav o.A).bind λv3=>if(v3==0)=true then(some (Er.num 148 7)) else(some Er.nil)) else(some Er.nil))
def rY.R (el:Nat->Addr) (r:Er):bm:=λu G=> ∃(v0:Value) (H0:Hp),gj 414 el r v0 H0/\u=v0/\G=[H0]
theorem rY.c (H:rY.f s o=some r) (hG:fU 414 fh il el F) (cX:gv s bj eG) (Ay:aU (Fl.int .u8) o.Map BK F) (Aj:List.length o.Map<=CF):
 QR 83 [(pp bj),(.agg #[(ii o.Kind),(ii o.A),(ii o.B),(ll BK o.Map CF)])] [eG] [eG] F (rY.R el r):=by
 unfold rY.f at H;refine aG Tryz.func83 J J (λW=>rc T 2 (nc T J (λb2=>fz J (ro T 7 (lf T 2 J (ro T 15 (cb J H (λH=>?_) (λH=>?_))))))))
 ·refine rc T 6 ?_;obtain⟨b4,H4,ya,H5,s4,s5,dt⟩:=(λx=>x) cX;refine bS 0 (congrArg some dt) (fz J (dD mix az (au T J (au T J (au T J (aO J J J (aw T J J J J (aI (j:=2) J J)) (au T J (aO J J J (aw T J J J J (aI (j:=1) J J)) ?_))))))));obtain⟨v1,V2,H⟩:=gx H;refine wO [3] J J J J J J Jz J (sV.c V2 s4) (au T J (dg (rx T 1 (cb J H (λH=>?_) (λH=>?_)))))
  ·refine rc T 2 (bz J (hZ T J J J J) (ro T 8 ?_))
   cases H;refine cq [2,2,2] J dt (aq J (p1 T J [3,2,0] ⟨(.iface 148 (ii 7)),[],rC,J,J⟩ J))
  refine rc T 5 (dD mix az (au T J (au T J (au T J (aO J J J (aw T J J J J (aI (j:=2) J J)) (au T J (aO J J J (aw T J J J J (aI (j:=1) J J)) ?_)))))));obtain⟨v2,V4,H⟩:=gx H;refine wO [3] J J J J J J Jz J (sV.c V4 s4) (au T J (dg (rx T 1 (cb J H (λH=>?_) (λH=>?_)))))
  ·refine rc T 2 (bz J (hZ T J J J J) (ro T 7 ?_))
   cases H;refine cq [2,2,2] J dt (aq J (p1 T J [3,2,0] ⟨(.iface 148 (ii 7)),[],rC,J,J⟩ J))
  refine rc T 11 ?_
  cases H;refine cq [2,2,2] J dt (aq J (p1 T J [3,2,0] ⟨.nilIface,[],tU,J,J⟩ J))
 refine rc T 8 (cb J H (λH=>?_) (λH=>?_))
 ·refine rc T 8 ?_;obtain⟨fR,bZ,Lg,cB,bU,dj,F4⟩:=(λx=>x) cX;refine bS 0 (congrArg some F4) (fz J (dD mix az (au T J (au T J (au T J (aO J J J (aw T J J J J (aI (j:=2) J J)) (au T J (aO J J J (aw T J J J J (aI (j:=1) J J)) ?_))))))));obtain⟨v3,V7,H⟩:=gx H;refine wO [3] J J J J J J Jz J (sV.c V7 bU) (au T J (dg (rx T 1 (cb J H (λH=>?_) (λH=>?_)))))
  ·refine rc T 2 (bz J (hZ T J J J J) (ro T 7 ?_))
   cases H;refine cq [2,2,2] J F4 (aq J (p1 T J [3,2,0] ⟨(.iface 148 (ii 7)),[],rC,J,J⟩ J))
  refine rc T 11 ?_
  cases H;refine cq [2,2,2] J F4 (aq J (p1 T J [3,2,0] ⟨.nilIface,[],tU,J,J⟩ J))
 refine rc T 15 ?_
 cases H;refine aq J (p1 T J [3,0,0] ⟨.nilIface,[],tU,J,J⟩ J)
def fP.f (code:Int):Option Er:=if(code==0)=true then(some Er.nil) else(some (Er.num 148 code))
def fP.R (el:Nat->Addr) (r:Er):bm:=λu G=> ∃(v0:Value) (H0:Hp),gj 414 el r v0 H0/\u=v0/\G=[H0]
theorem fP.c (H:fP.f code=some r) (hG:fU 414 fh il el F):
 QR 88 [(ii code)] [] [] F (fP.R el r):=by
 unfold fP.f at H;refine aG Tryz.func88 J J (λW=>rc T 12 (cb J H (λH=>?_) (λH=>?_)))
 ·refine rc T 7 ?_
  cases H;refine aq J (p1 T J [1,0] ⟨.nilIface,[],tU,J,J⟩ J)
 refine rc T 5 (bz J (hZ T J J J J) (ro T 4 ?_))
 cases H;refine aq J (p1 T J [1,0] ⟨(.iface 148 (ii code)),[],rC,J,J⟩ J)
def xP.f (s:bT) (b:(List Int)):Option (Er×bT):=(wN.f b).bind λv1=>if(v1.2 !=0)=true then(some ((Er.num 148 6),s)) else((xz.f s.nav v1.1).bind λv2=>if(v2.1==0)=true then((vb.f v1.1.W v1.1.H s.most).bind λv3=>du v3 (none) (λtK=>(fP.f v2.1).bind λv4=>some (v4,(bT.mk s.most v2.2 (some tK))))) else((fP.f v2.1).bind λv5=>some (v5,(bT.mk s.most v2.2 s.eZ))))
def xP.R (el:Nat->Addr) (nC:Nat) (r:(Er×bT)):bm:=λu G=> ∃(v0:Value) (H0:Hp) (H1:Hp),gj 414 el r.1 v0 H0/\gv r.2 nC H1/\u=v0/\G=[H0,H1]
theorem xP.c (H:xP.f s b=some r) (hG:fU 414 fh il el F) (cX:gv s bj eG) (ic:aU (Fl.int .u8) b j7 F) (gy:List.length b<=jU):
 QR 84 [(pp bj),(ll j7 b jU)] [eG] [] F (xP.R el bj r):=by
 unfold xP.f at H;refine aG Tryz.func84 J J (λW=>rc T 8 (kr (wN.R el) [] [] J aci H (wN.c · (dI hG (j:=1) J) (rO ic 1) gy) (λv1 H=>?_)));rintro _ _ ⟨a2,n2,H2,s2,rfl,rfl⟩;refine fz J (ro T 3 (nc T J (λb3=>fz J (jZ T 3 J (ro T 10 (cb J H (λH=>?_) (λH=>?_)))))))
 ·refine rc T 2 (bz J (hZ T J J J J) (ro T 5 ?_))
  cases H;refine aq J (p1 T J [4,0,0] ⟨(.iface 148 (ii 6)),[],eG,rC,cX,J,J⟩ J)
 refine rc T 4 ?_;obtain⟨b6,H6,wv,H7,s6,s7,rG⟩:=(λx=>x) cX;refine bS 0 (congrArg some rG) (fz J (ks [0,5] J (fz J (rz [5] mix (bM bL) (λhg pf=>ha T 4 [0,1,2] sz hg pf J (av 3 sz hg pf J (aw T J J J J (aI (j:=3) J J)) (av 4 sz hg pf J (gA T 2 J J J J J J J) (ao 5 (kR (xz.R b6) [] [4] J acj H (xz.c · s6 (oO s2 1) s2.bW) (λv2 H=>?_))))))))));rintro _ _ ⟨H8,s8,rfl,rfl⟩;refine fz J (an sl (hb T 6 sl hg pf J (ae (rx T 7 (cb J H (λH=>?_) (λH=>?_))))))
 ·refine ks [0,5,6] J (fz J (rq [12] [0,0,0,0,0,0] J mix (bM bL) (λhg pf=>ha T 11 [0,1] sz hg pf J (av 2 sz hg pf J (aw T J J J J (aI (j:=2) J J)) (ha T 9 [3] sz hg pf J (av 4 sz hg pf J (aw T J J J J (aI (j:=2) J J)) (ha T 5 [5,6,7] sz hg pf J (av 8 sz hg pf J (aw T J J J J (aI (j:=3) J J)) (ao 9 (kR vb.R [] [] J ack H (vb.c ·) (λv3 H=>?_)))))))))));rintro _ _ ⟨_,_,O6,rfl,rfl⟩;rcases v3 with _ |tK
  ·replace H:=fi J H
   cases H
  replace H:=fj J H;obtain⟨b9,H9,s9,rfl,rfl⟩:=O6;refine an (so [0,0,0,0,0,0]) (ha T 1 [10,11] (so [0,0,0,0,0,0]) hg pf J (ao 12 (ja T 3 J (an sl (ae (rx T 4 (kr (fP.R el) [] [] J vp H (fP.c · (dI hG (j:=0) J)) (λv4 H=>?_))))))));rintro v10 _ ⟨v10,bZ,bU,rfl,rfl⟩;refine fz J (ro T 4 ?_)
  cases H;refine gq [6] J (gq [3,4,5] J (p1 T J [4,4,0] ⟨v10,bZ,(List.flatten [(cl bj 103 [(ii s.most),(pp b6),(pp b9)]),H8,(List.flatten [H9])]),bU,(show gv (bT.mk s.most v2.2 (some tK)) bj (List.flatten [(cl bj 103 [(ii s.most),(pp b6),(pp b9)]),H8,(List.flatten [H9])]) from⟨b6,H8,(pp b9),(List.flatten [H9]),s8,(show BD (some tK) (pp b9) (List.flatten [H9]) from⟨b9,H9,s9,J,J⟩),J⟩),J,J⟩ J))
 refine rc T 5 (kr (fP.R el) [] [] J vp H (fP.c · (dI hG (j:=0) J)) (λv5 H=>?_));rintro v12 _ ⟨v12,dz,dL,rfl,rfl⟩;refine fz J (ro T 4 ?_)
 cases H;refine gq [3,4,3] J (p1 T J [3,3,0] ⟨v12,dz,(List.flatten [(cl bj 103 [(ii s.most),(pp b6),wv]),H8,H7]),dL,(show gv (bT.mk s.most v2.2 s.eZ) bj (List.flatten [(cl bj 103 [(ii s.most),(pp b6),wv]),H8,H7]) from⟨b6,H8,wv,H7,s8,s7,J⟩),J,J⟩ J)
def xO.f (s:bT) (cell:Int) (cost:Int):Option (Er×bT):=if((decide (cost<1))||(decide (cost>255)))=true then(some ((Er.num 148 8),s)) else((du s.eZ (none) (λx3=>if(cost==255)=true then((Ap.f x3 cell).bind λv4=>some (decide (v4≥0))) else(some false))).bind λx1=>if x1=true then(some ((Er.num 148 10),s)) else((xx.f s.nav cell cost).bind λv5=>(fP.f v5.1).bind λv6=>some (v6,(bT.mk s.most v5.2 s.eZ))))
def xO.R (el:Nat->Addr) (nC:Nat) (r:(Er×bT)):bm:=λu G=> ∃(v0:Value) (H0:Hp) (H1:Hp),gj 414 el r.1 v0 H0/\gv r.2 nC H1/\u=v0/\G=[H0,H1]
theorem xO.c (H:xO.f s cell cost=some r) (hG:fU 414 fh il el F) (cX:gv s bj eG):
 QR 86 [(pp bj),(ii cell),(ii cost)] [eG] [] F (xO.R el bj r):=by
 unfold xO.f at H;refine aG Tryz.func86 J J (λW=>rc T 12 (go T [3,4,5] 10 [0,1,2] 13 J J J J J J J (ro T 3 (cb J H (λH=>?_) (λH=>?_)))))
 ·refine rc T 2 (bz J (hZ T J J J J) (ro T 6 ?_))
  cases H;refine aq J (p1 T J [2,0,0] ⟨(.iface 148 (ii 8)),[],eG,rC,cX,J,J⟩ J)
 refine mq H [0,1,2] [1,0] (λz2 (x1:Bool)=>(x1=z2,[(15,(bb x1))],[])) J J (λz2 Z2 _=>?_) ?_
 ·obtain⟨b4,H4,ya,H5,s4,s5,dt⟩:=(λx=>x) cX;refine bS 0 (congrArg some dt) (fz J ?_);rcases q3:s.eZ with _ |x3
  ·replace Z2:=fi q3 Z2
   cases Z2
  replace Z2:=fj q3 Z2;rw[q3] at s5;obtain⟨b7,H7,s7,rfl,oB⟩:=s5;refine bS 3 (congrArg some oB) (fz J (rc T 4 (ab 18 J Z2 (λZ2=>?_) (λZ2=>?_))))
  ·refine ro T 3 (lf T 1 J (ro T 1 (k [3] J acm Z2 (Ap.c · s7) (λv4 Z2=>ro T 5 (cq [3] J oB (cq [1,1,1] J dt (am _ [0,0] (oi Z2) J J)))))))
  refine ro T 11 (cq [3] J oB (cq [1,1,1] J dt (am _ [0,0] (oi Z2) J J)))
 rintro _ x1 rfl H;refine cb J H (λH=>?_) (λH=>?_)
 ·refine rc T 2 (bz J (hZ T J J J J) (ro T 6 ?_))
  cases H;refine aq J (p1 T J [2,1,0] ⟨(.iface 148 (ii 10)),[],eG,rC,cX,J,J⟩ J)
 refine rc T 4 ?_;obtain⟨fR,bZ,Lg,cB,bU,dj,F4⟩:=(λx=>x) cX;refine bS 1 (congrArg some F4) (fz J (rc T 4 (lf T 1 J (ro T 2 (kr (xx.R fR) [] [2] J acn H (xx.c · bU) (λv5 H=>?_))))));rintro _ _ ⟨dz,dL,rfl,rfl⟩;refine fz J (kr (fP.R el) [] [] J vp H (fP.c · (dI hG (j:=0) J)) (λv6 H=>?_));rintro lz _ ⟨lz,eJ,dm,rfl,rfl⟩;refine fz J (ro T 4 ?_)
 cases H;refine gq [1,2,1] J (p1 T J [1,1,0] ⟨lz,eJ,(List.flatten [(cl bj 103 [(ii s.most),(pp fR),Lg]),dz,cB]),dm,(show gv (bT.mk s.most v5.2 s.eZ) bj (List.flatten [(cl bj 103 [(ii s.most),(pp fR),Lg]),dz,cB]) from⟨fR,dz,Lg,cB,dL,dj,J⟩),J,J⟩ J)
def xR.f (s:bT) (cell:Int) (goal:Int):Option (Int×Er×bT):=(sV.f s.nav cell).bind λv1=>if(v1==255)=true then(some ((-1),(Er.num 148 9),s)) else(du s.eZ (none) (λx2=>(wV.f x2 cell goal).bind λv3=>(fP.f v3.2.1).bind λv4=>some (v3.1,v4,(bT.mk s.most s.nav (some v3.2.2)))))
def xR.R (el:Nat->Addr) (nC:Nat) (r:(Int×Er×bT)):bm:=λu G=> ∃(v0:Value) (H0:Hp) (H1:Hp),gj 414 el r.2.1 v0 H0/\gv r.2.2 nC H1/\u=(.tuple #[(ii r.1),v0])/\G=[H0,H1]
theorem xR.c (H:xR.f s cell goal=some r) (hG:fU 414 fh il el F) (cX:gv s bj eG):
 QR 87 [(pp bj),(ii cell),(ii goal)] [eG] [] F (xR.R el bj r):=by
 unfold xR.f at H;refine aG Tryz.func87 J J (λW=>rc T 8 ?_);obtain⟨b3,H3,uG,H4,s3,s4,cy⟩:=(λx=>x) cX;refine bS 0 (congrArg some cy) (fz J (rc T 4 (lf T 1 J (ro T 1 (k [2] J Jz H (sV.c · s3) (λv1 H=>ro T 3 (cb J H (λH=>?_) (λH=>?_))))))))
 ·refine rc T 2 (bz J (hZ T J J J J) (ro T 6 ?_))
  cases H;refine cq [1,1,1] J cy (aq J (p1 T J [2,1,0] ⟨(.iface 148 (ii 9)),[],eG,rC,cX,J,J⟩ J))
 refine rc T 3 ?_;rcases q3:s.eZ with _ |x2
 ·replace H:=fi q3 H
  cases H
 replace H:=fj q3 H;rw[q3] at s4;obtain⟨b7,H7,s7,rfl,oB⟩:=s4;refine bS 3 (congrArg some oB) (fz J (rc T 4 (lf T 1 J (ro T 2 (kr (wV.R b7) [] [3] J aco H (wV.c · s7) (λv3 H=>?_))))));rintro _ _ ⟨H8,s8,rfl,rfl⟩;refine fz J (ro T 11 (kr (fP.R el) [] [] J vp H (fP.c · (dI hG (j:=0) J)) (λv4 H=>?_)));rintro v9 _ ⟨v9,H9,s9,rfl,rfl⟩;refine fz J (ro T 5 ?_)
 cases H;refine gq [3] J (gq [1,1,2] J (p1 T J [1,1,0] ⟨v9,H9,(List.flatten [(cl bj 103 [(ii s.most),(pp b3),(pp b7)]),H3,(List.flatten [H8])]),s9,(show gv (bT.mk s.most s.nav (some v3.2.2)) bj (List.flatten [(cl bj 103 [(ii s.most),(pp b3),(pp b7)]),H3,(List.flatten [H8])]) from⟨b3,H3,(pp b7),(List.flatten [H8]),s3,(show BD (some v3.2.2) (pp b7) (List.flatten [H8]) from⟨b7,H8,s8,J,J⟩),J⟩),J,J⟩ J))
def xQ.f (s:bT) (a:iX) (goal:Int) (cell:Int):Option (Er×bT×iX):=(xA.f s.nav goal cell).bind λv1=>if(v1.2.2.1==0)=true then((fP.f v1.2.2.1).bind λv2=>some (v2,(bT.mk s.most v1.2.2.2 s.eZ),(iX.mk a.Code v1.1 v1.2.1 a.Id a.dQ a.gR a.Stats))) else((fP.f v1.2.2.1).bind λv3=>some (v3,(bT.mk s.most v1.2.2.2 s.eZ),a))
def xQ.R (el:Nat->Addr) (nC:Nat) (o_:Nat) (r:(Er×bT×iX)):bm:=λu G=> ∃(v0:Value) (H0:Hp) (H1:Hp) (a2 n2 H2:_) (a3 n3 H3:_),gj 414 el r.1 v0 H0/\gv r.2.1 nC H1/\aj jJ 94 r.2.2.dQ a2 n2 H2/\aj (Fl.int .i64) 3 r.2.2.gR a3 n3 H3/\u=v0/\G=[H0,H1,(cl o_ 52 [(ii r.2.2.Code),(ii r.2.2.D),(ii r.2.2.cx),(ii r.2.2.Id),(ll a2 r.2.2.dQ n2),(ll a3 r.2.2.gR n3),(uu r.2.2.Stats.bB),(uu r.2.2.Stats.bw),(uu r.2.2.Stats.bk),(uu r.2.2.Stats.bn),(uu r.2.2.Stats.bF),(uu r.2.2.Stats.bE)]),H2,H3]
theorem xQ.c (H:xQ.f s a goal cell=some r) (hG:fU 414 fh il el F) (cX:gv s bj eG) (nV:aj jJ 94 a.dQ uR vJ uK) (nU:aj (Fl.int .i64) 3 a.gR uQ vI uJ):
 QR 91 [(pp bj),(pp o_),(ii goal),(ii cell)] [eG,(cl o_ 52 [(ii a.Code),(ii a.D),(ii a.cx),(ii a.Id),(ll uR a.dQ vJ),(ll uQ a.gR vI),(uu a.Stats.bB),(uu a.Stats.bw),(uu a.Stats.bk),(uu a.Stats.bn),(uu a.Stats.bF),(uu a.Stats.bE)]),uK,uJ] [] F (xQ.R el bj o_ r):=by
 unfold xQ.f at H;refine aG Tryz.func91 J J (λW=>rc T 6 ?_);obtain⟨b6,H6,wv,H7,s6,s7,rG⟩:=(λx=>x) cX;refine bS 0 (congrArg some rG) (fz J (rc T 4 (lf T 4 J (ro T 2 (kr (xA.R el b6) [] [5] J acq H (xA.c · (dI hG (j:=3) J) s6) (λv1 H=>?_))))));rintro _ _ ⟨H8,s8,rfl,rfl⟩;refine fz J (ro T 16 (cb J H (λH=>?_) (λH=>?_)))
 ·refine rc T 7 (jZ T 0 J (ro T 2 (jZ T 0 J (ro T 5 (kr (fP.R el) [] [] J vp H (fP.c · (dI hG (j:=3) J)) (λv2 H=>?_))))));rintro v9 _ ⟨v9,H9,s9,rfl,rfl⟩;refine fz J (ro T 2 (ks [8] J (rx T 2 ?_)))
  cases H;refine gq [4,5,4] J (p1 T J [4,4,0,0,0,0] ⟨v9,H9,(List.flatten [(cl bj 103 [(ii s.most),(pp b6),wv]),H8,H7]),uR,vJ,uK,uQ,vI,uJ,s9,(show gv (bT.mk s.most v1.2.2.2 s.eZ) bj (List.flatten [(cl bj 103 [(ii s.most),(pp b6),wv]),H8,H7]) from⟨b6,H8,wv,H7,s8,s7,J⟩),nV,nU,J,J⟩ J)
 refine rc T 5 (kr (fP.R el) [] [] J vp H (fP.c · (dI hG (j:=3) J)) (λv3 H=>?_));rintro v10 _ ⟨v10,bZ,bU,rfl,rfl⟩;refine fz J (ro T 4 ?_)
 cases H;refine gq [4,5,4] J (p1 T J [4,4,0,0,0,0] ⟨v10,bZ,(List.flatten [(cl bj 103 [(ii s.most),(pp b6),wv]),H8,H7]),uR,vJ,uK,uQ,vI,uJ,bU,(show gv (bT.mk s.most v1.2.2.2 s.eZ) bj (List.flatten [(cl bj 103 [(ii s.most),(pp b6),wv]),H8,H7]) from⟨b6,H8,wv,H7,s8,s7,J⟩),nV,nU,J,J⟩ J)
def eN.l3:Nat->bT->(List aD)->bQ->(List (Int×Int))->List Int->Int->Option ((List Int)×Er×bT)
 |0,_,_,_,_,_,_=>none
 |Ki+1,s,l,bg,aS,od,r_=>if r_<(List.length l:Int) then(if(0<=r_/\r_<(List.length l:Int)) then(if(List.length od+1<=1099511627776) then(eN.l3 Ki s l bg aS (od++[(aQ aS ((rd l r_).Id))]) (aa (r_+1))) else none) else none) else(some (od,Er.nil,(bT.mk s.most bg s.eZ)))
def eN.l2:Nat->(List (Int×Int))->Int->(List b_)->bQ->List Int->(List (Int×Int))->Int->Option (Sum ((List Int)×Er×bT) (bQ×(List (Int×Int))))
 |0,_,_,_,_,_,_,_=>none
 |Kh+1,x4,bf,v8,dC,dM,nk,jc=>if jc<(List.length ((rd v8 bf).cU):Int) then(if(0<=jc/\jc<(List.length ((rd v8 bf).cU):Int)) then(if(0<=(aQ x4 (rd ((rd v8 bf).cU) jc))/\(aQ x4 (rd ((rd v8 bf).cU) jc))<(List.length dM:Int)) then(eN.l2 Kh x4 bf v8 dC dM (cE nk (rd ((rd v8 bf).cU) jc) (rd dM (aQ x4 (rd ((rd v8 bf).cU) jc)))) (aa (jc+1))) else none) else none) else(some (Sum.inr (dC,nk)))
def eN.l1:Nat->bT->(List aD)->(List (Int×Int))->(List b_)->bQ->(List (Int×Int))->Int->Option ((List Int)×Er×bT)
 |0,_,_,_,_,_,_,_=>none
 |lK+1,s,l,x4,v8,bg,aS,bf=>if bf<(List.length v8:Int) then((if(0<=bf/\bf<(List.length v8:Int)) then(((uo.f bg ((rd v8 bf).Goal) ((rd v8 bf).eX)).bind λv24=>some (v24.2.2,v24.1.eW,v24.1.cx,v24.2.1)).bind λ(dC,lA,dM,bX)=>if(bX !=0)=true then(some (Sum.inl ([],(Er.num 148 bX),(bT.mk s.most dC s.eZ)))) else(eN.l2 fuel x4 bf v8 dC dM aS 0)) else none).bind λzz=>match zz with |Sum.inl q=>some q |Sum.inr (dR,cZ)=>eN.l1 lK s l x4 v8 dR cZ (aa (bf+1))) else(eN.l3 fuel s l bg aS [] 0)
def eN.l0:Nat->bT->(List aD)->(Int×Int)->(List (Int×Int))->Int->Option ((List Int)×Er×bT)
 |0,_,_,_,_,_=>none
 |k6+1,s,l,v1,x4,x5=>if x5<(List.length l:Int) then(if(0<=x5/\x5<(List.length l:Int)) then((ra.f v1.1 v1.2 ((rd l x5).Cell)).bind λv7=>eN.l0 k6 s l v1 (cE x4 ((rd l x5).Id) v7) (aa (x5+1))) else none) else((ir.f v1.1 v1.2 l).bind λv8=>eN.l1 fuel s l x4 v8 s.nav ([]:(List (Int×Int))) 0)
def eN.f (s:bT) (l:(List aD)):Option ((List Int)×Er×bT):=(zi.f s.nav).bind λv1=>eN.l0 fuel s l v1 ([]:(List (Int×Int))) 0
def eN.R (el:Nat->Addr) (nC:Nat) (r:((List Int)×Er×bT)):bm:=λu G=> ∃(a0 n0 H0:_) (v1:Value) (H1:Hp) (H2:Hp),aj (Fl.int .i64) 3 r.1 a0 n0 H0/\gj 414 el r.2.1 v1 H1/\gv r.2.2 nC H2/\u=(.tuple #[(ll a0 r.1 n0),v1])/\G=[H0,H1,H2]
theorem eN.c (H:eN.f s l=some r) (hG:fU 414 fh il el F) (cX:gv s bj eG) (dh:aU lL l iy F) (gz:List.length l<=iq):
 QR 128 [(pp bj),(ll iy l iq)] [eG] [] F (eN.R el bj r):=by
 unfold eN.f at H;refine aG Tryz.func128 J J (λW=>rc T 7 ?_);obtain⟨b3,H3,uG,H4,s3,s4,cy⟩:=(λx=>x) cX;refine bS 0 (congrArg some cy) (fz J (rc T 4 (lf T 1 J (k [2] J S3 H (zi.c · s3) (λv1 H=>ro T 9 (aZ (uU T (Ky.int .i64 u3) (λx:Int=>Value.int .i64 x) J J J trivial (λa5 H5 s5=>ro T 12 (lq [0,1,6,7,30,31] [0,0,1,0] (λ(⟨k6,x4,x5,a7,H7⟩:Nat×(List (Int×Int))×Int×Nat×Hp)=>(eN.l0 k6 s l v1 x4 x5=some r/\cQ (Ky.int .i64 u3) (λx:Int=>Value.int .i64 x) x4 a7 H7,[(8,(.map (some a7))),(32,(ii x5))],[H7])) J J (fuel,([]:(List (Int×Int))),0,a5,H5) [0,0,1,0,0] ⟨H,s5⟩ J J ?_)))))))));rintro k6 ⟨x4,x5,a7,H7⟩ ⟨Z2,s7⟩;rw[eN.l0] at Z2;refine rc T 6 (cd J Z2 (λZ2=>?_) (λZ2=>?_))
 ·refine rc T 6 ?_;obtain⟨c4,Z2⟩:=aA Z2;obtain⟨q8,o8,e8⟩:=dh.addr c4.1 c4.2;refine ix T J e8 c4 (bz J (fX T (cs:=[(ii (rd l x5).Id),(ii (rd l x5).Cell),(ii (rd l x5).Goal)]) J J J J J J (ig (k:=lL) (rO dh 0) e8 c4 J)) (nc T J (λb9=>fz J (jZ T 5 J (ro T 2 (ks [0,1,6,7,8,10,30,31,32] J (fz J (rz [8] mix (bM bL) (λhg pf=>ha T 7 [0,1] sz hg pf J (av 2 sz hg pf J (aw T J J J J (aI (j:=5) J J)) (ha T 3 [3,4,5] sz hg pf J (av 6 sz hg pf J (aw T J J J J (aI (j:=5) J J)) (ao 7 (kh [] J F9 Z2 (ra.c ·) (λv7 Z2=>an sz (ao 8 (pU (g:=4) (m:=x4) (k:=(rd l x5).Id) (v:=v7) T (Ky.int .i64 u3) (λx:Int=>Value.int .i64 x) J J J J J J J s7 (λbZ bU=>an sl (ae (rx T 7 (ar (_,_,_,_) [0,0,0,0,0] ⟨Z2,bU⟩ J J)))))))))))))))))))))
 refine rc T 7 (aZ (uU T (Ky.int .i64 u3) (λx:Int=>Value.int .i64 x) J J J trivial (λdA cB dj=>ro T 9 (kr ir.R [] [] J Tr Z2 (ir.c · (rO dh 0) gz) (λv8 Z2=>?_)))));rintro _ _ ⟨a12,n12,dz,dL,rfl,rfl⟩;refine fz J (ro T 5 (lq [0,1,8,49,50] [0,0,0,1,2] (λ(⟨lK,bg,aS,bf,dP,j6,gk⟩:Nat×bQ×(List (Int×Int))×Int×Hp×Nat×Hp)=>(eN.l1 lK s l x4 v8 bg aS bf=some r/\gT bg b3 dP/\cQ (Ky.int .i64 u3) (λx:Int=>Value.int .i64 x) aS j6 gk,[(11,(.map (some j6))),(51,(ii bf))],[dP,gk])) J J (fuel,s.nav,([]:(List (Int×Int))),0,H3,dA,cB) [0,0,0,1,2,0,0] ⟨Z2,s3,dj⟩ J J ?_));rintro lK ⟨bg,aS,bf,dP,j6,gk⟩ ⟨Z7,dV,gd⟩;rw[eN.l1] at Z7;refine rc T 6 (cd J Z7 (λZ7=>?_) (λZ7=>?_))
 ·refine rc T 2 (mq Z7 [0,1,8,49,50,51] [0,0,0,0,0] (λPW (⟨dR,cZ,eF,iU,fe⟩:bQ×(List (Int×Int))×Hp×Nat×Hp)=>((Sum.inr (dR,cZ))=PW/\gT dR b3 eF/\cQ (Ky.int .i64 u3) (λx:Int=>Value.int .i64 x) cZ iU fe,[(11,(.map (some iU)))],[eF,fe])) J J (λPW Z9 Z7=>?_) ?_)
  ·refine rc T 3 ?_;obtain⟨iI,Z9⟩:=aA Z9;obtain⟨q19,o19,FU⟩:=dL.r.addr iI.1 iI.2;refine ix T J FU iI ?_;obtain⟨_,w21,⟨a20,n20,⟨Wv,m20⟩,rfl⟩⟩:=mo.view dL.r iI;refine bz J (fX T (cs:=[(ii (rd v8 bf).Goal),(ii (rd v8 bf).eX),(ll a20 (rd v8 bf).cU n20)]) J J J J J J (Oc (j:=4) J w21 FU 0 J)) (nc T J (λkA=>fz J (jZ T 7 J (ro T 2 (mq Z9 [0,1,8,11,13,49,50,51] [0,0,0,0,2,2,0] (λz23 (⟨dC,lA,dM,bX,jQ,FH,a25,n25,gS,a26,n26,oo⟩:bQ×List Int×List Int×Int×Hp×Nat×Option Addr×Nat×Hp×Option Addr×Nat×Hp)=>((dC,lA,dM,bX)=z23/\gT dC b3 jQ/\aj (Fl.int .i64) 3 lA a25 n25 gS/\aj (Fl.int .i64) 3 dM a26 n26 oo,[(14,(pp FH)),(15,(ii bX))],[jQ,(cl FH 79 [(ll a25 lA n25),(ll a26 dM n26)]),gS,oo])) J J (λz23 aW _=>?_) ?_)))))
   ·refine ks [0,1,8,11,13,49,50,51] J (fz J (rz [8] mix (bM bL) (λhg pf=>ha T 12 [0,1,2] sz hg pf J (av 3 sz hg pf J (aw T J J J J (aI (j:=1) J J)) (ha T 10 [4] sz hg pf J (av 5 sz hg pf J (aw T J J J J (aI (j:=7) J J)) (ha T 8 [6] sz hg pf J (av 7 sz hg pf J (aw T J J J J (aI (j:=7) J J)) (fk 8 12 ?_ ?_)))))))))
    ·refine kR (uo.R el b3) [] [5] J TC aW (uo.c · (dI hG (j:=0) J) dV) (λv24 aW=>?_);rintro _ _ ⟨IL,n27,E9,a28,n28,uH,rk,vX,ki,qQ,rfl,rfl⟩;refine fz J (an sl (hb T 9 sl hg pf J (hb T 10 sl hg pf J (hb T 11 sl hg pf J (ao 12 (nw T J (λb30=>fz J (an sl (ao 13 (ja T 10 J (an sl (hb T 14 sl hg pf J (ae (rx T 1 (am (_,_,_,_,_,_,_,_,_,_,_,_) [0,0,0,0,1,1,0,2,2,0,0] ⟨oi aW,qQ,vX,ki⟩ J J)))))))))))))))
    refine nw T J (λZP=>fz J (an (so [0,0,0,0,0,0,0,0]) (ao 8 (kR (uo.R el b3) [] [5] J TC aW (uo.c · (dI hG (j:=0) J) dV) (λv25 aW=>?_)))));rintro _ _ ⟨a32,n32,Ix,a33,n33,Iy,uI,zy,vY,xK,rfl,rfl⟩;refine fz J (an sl (hb T 9 sl hg pf J (hb T 10 sl hg pf J (hb T 11 sl hg pf J (ao 13 (ja T 7 J (an sl (hb T 14 sl hg pf J (ae (rx T 1 (am (_,_,_,_,_,_,_,_,_,_,_,_) [0,0,0,0,1,1,0,3,0,0,0] ⟨oi aW,xK,zy,vY⟩ J J)))))))))))
   rintro _ ⟨dC,lA,dM,bX,jQ,FH,a25,n25,gS,a26,n26,oo⟩ ⟨rfl,g_,jt,mF⟩ Z9;refine rc T 7 (cb J Z9 (λZ9=>?_) (λZ9=>?_))
   ·refine rc T 3 (bz J (hZ T J J J J) (ro T 11 ?_));obtain rfl:=Option.some.inj Z9;obtain rfl:=Option.some.inj (show some ([],(Er.num 148 bX),(bT.mk s.most dC s.eZ))=some r from Z7)
    refine gq [1,6,1] J (aq J (aq J (p1 T J [9,9,8,0] ⟨none,0,[],(.iface 148 (ii bX)),[],(List.flatten [(cl bj 103 [(ii s.most),(pp b3),uG]),jQ,H4]),aj.nil,rC,(show gv (bT.mk s.most dC s.eZ) bj (List.flatten [(cl bj 103 [(ii s.most),(pp b3),uG]),jQ,H4]) from⟨b3,jQ,uG,H4,g_,s4,J⟩),J,J⟩ J)))
   refine rc T 5 (lf T 5 J (ro T 5 (lq [0,1,8,14,49,50,51,72,73] [0,0,0,4,0,3,3,3,2] (λ(⟨Kh,nk,jc,IM,zU⟩:Nat×(List (Int×Int))×Int×Nat×Hp)=>(eN.l2 Kh x4 bf v8 dC dM nk jc=some PW/\cQ (Ky.int .i64 u3) (λx:Int=>Value.int .i64 x) nk IM zU,[(11,(.map (some IM))),(74,(ii jc))],[zU])) J J (fuel,aS,0,j6,gk) [0,0,0,4,0,3,3,3,2,0] ⟨Z9,gd⟩ J J ?_)));rintro Kh ⟨nk,jc,IM,zU⟩ ⟨dp,A9⟩;rw[eN.l2] at dp;refine rc T 6 (cd J dp (λdp=>?_) (λdp=>?_))
   ·refine rc T 6 ?_;obtain⟨jD,dp⟩:=aA dp;obtain⟨q39,o39,Rs⟩:=Wv.addr jD.1 jD.2;refine ix T J Rs jD (le T 0 (rO Wv 8) Rs jD J J (ro T 7 (lf T 5 J (ro T 2 (bz J (p9 (k:=(rd ((rd v8 bf).cU) jc)) T (Ky.int .i64 u3) (λx:Int=>Value.int .i64 x) J J J J J (oE s7 (j:=4) J)) ?_)))));obtain⟨lI,dp⟩:=aA dp;obtain⟨q40,o40,Ru⟩:=mF.r.addr lI.1 lI.2;refine ix T J Ru lI (le T 0 (oO mF 7) Ru lI J J (aZ (pU (g:=9) (m:=nk) (k:=(rd ((rd v8 bf).cU) jc)) (v:=(rd dM (aQ x4 (rd ((rd v8 bf).cU) jc)))) T (Ky.int .i64 u3) (λx:Int=>Value.int .i64 x) J J J J J J J A9 (λFa zA=>ro T 8 (ar (_,_,_,_) [0,0,0,0,0,0,0,0,0,0] ⟨dp,zA⟩ J J)))))
   refine rc T 6 (am (_,_,_,_,_) [0,0,0,1,4,0,3] ⟨oi dp,g_,A9⟩ J J)
  rintro _ ⟨dR,cZ,eF,iU,fe⟩ ⟨rfl,fq,ft⟩ Z7;refine rc T 5 (ar (_,_,_,_,_,_) [0,0,0,0,0,0,0] ⟨Z7,fq,ft⟩ J J)
 refine rc T 19 (aq J (lq [11,89,90] [0,5,0,0,2] (λ(⟨Ki,od,r_,IP,n43,gD⟩:Nat×List Int×Int×Option Addr×Nat×Hp)=>(eN.l3 Ki s l bg aS od r_=some r/\aj (Fl.int .i64) 3 od IP n43 gD,[(18,(ll IP od n43)),(91,(ii r_))],[gD])) J J (fuel,[],0,none,0,[]) [0,5,0,0,2,2] ⟨Z7,aj.nil⟩ J J ?_));rintro Ki ⟨od,r_,IP,n43,gD⟩ ⟨c_,tg⟩;rw[eN.l3] at c_;refine rc T 6 (cd J c_ (λc_=>?_) (λc_=>?_))
 ·refine rc T 6 ?_;obtain⟨mQ,c_⟩:=aA c_;obtain⟨q44,o44,Rv⟩:=dh.addr mQ.1 mQ.2;refine ix T J Rv mQ (bz J (fX T (cs:=[(ii (rd l r_).Id),(ii (rd l r_).Cell),(ii (rd l r_).Goal)]) J J J J J J (ig (k:=lL) (rO dh 0) Rv mQ J)) (nc T J (λb45=>fz J (jZ T 6 J (ro T 6 (lf T 6 J (bz J (p9 (k:=(rd l r_).Id) T (Ky.int .i64 u3) (λx:Int=>Value.int .i64 x) J J J J J (oE gd (j:=1) J)) (aZ (cV (k:=(Fl.int .i64)) T [(aQ aS ((rd l r_).Id))] J J J J J J J J J (λa46 XK Ph=>?_))))))))));obtain⟨Ai,c_⟩:=aA c_;refine aZ (ez (k:=(Fl.int .i64)) (xs:=od) T (g:=5) J J J J J J J J J J tg (oO Ph 7) Ai J (λIQ n47 Fb HE=>ro T 9 (ar (_,_,_,_,_) [0,0,0,0,0,0] ⟨c_,HE⟩ J J)))
 refine rc T 13 ?_
 cases c_;refine gq [2,3,2] J (aq J (p1 T J [2,3,2,0] ⟨IP,n43,gD,.nilIface,[],(List.flatten [(cl bj 103 [(ii s.most),(pp b3),uG]),dP,H4]),tg,tU,(show gv (bT.mk s.most bg s.eZ) bj (List.flatten [(cl bj 103 [(ii s.most),(pp b3),uG]),dP,H4]) from⟨b3,dP,uG,H4,dV,s4,J⟩),J,J⟩ J))
def wk.f (s:bT) (a:iX):Option (Er×bT×iX):=du s.eZ (none) (λx1=>(ph.f x1).bind λv2=>(eN.f s v2).bind λv3=>if(!(Er.isNil v3.2.1))=true then(some (v3.2.1,v3.2.2,a)) else(du v3.2.2.eZ (none) (λx4=>(nD.f x4 v3.1).bind λv5=>(fP.f v5.2.2.1).bind λv6=>some (v6,(bT.mk v3.2.2.most v3.2.2.nav (some v5.2.2.2)),(iX.mk a.Code a.D a.cx a.Id v5.1 v5.2.1 a.Stats)))))
def wk.R (el:Nat->Addr) (nC:Nat) (o_:Nat) (r:(Er×bT×iX)):bm:=λu G=> ∃(v0:Value) (H0:Hp) (H1:Hp) (a2 n2 H2:_) (a3 n3 H3:_),gj 414 el r.1 v0 H0/\gv r.2.1 nC H1/\aj jJ 94 r.2.2.dQ a2 n2 H2/\aj (Fl.int .i64) 3 r.2.2.gR a3 n3 H3/\u=v0/\G=[H0,H1,(cl o_ 52 [(ii r.2.2.Code),(ii r.2.2.D),(ii r.2.2.cx),(ii r.2.2.Id),(ll a2 r.2.2.dQ n2),(ll a3 r.2.2.gR n3),(uu r.2.2.Stats.bB),(uu r.2.2.Stats.bw),(uu r.2.2.Stats.bk),(uu r.2.2.Stats.bn),(uu r.2.2.Stats.bF),(uu r.2.2.Stats.bE)]),H2,H3]
theorem wk.c (H:wk.f s a=some r) (hG:fU 414 fh il el F) (cX:gv s bj eG) (nV:aj jJ 94 a.dQ uR vJ uK) (nU:aj (Fl.int .i64) 3 a.gR uQ vI uJ):
 QR 92 [(pp bj),(pp o_)] [eG,(cl o_ 52 [(ii a.Code),(ii a.D),(ii a.cx),(ii a.Id),(ll uR a.dQ vJ),(ll uQ a.gR vI),(uu a.Stats.bB),(uu a.Stats.bw),(uu a.Stats.bk),(uu a.Stats.bn),(uu a.Stats.bF),(uu a.Stats.bE)]),uK,uJ] [] F (wk.R el bj o_ r):=by
 unfold wk.f at H;refine aG Tryz.func92 J J (λW=>rc T 6 ?_);obtain⟨b6,H6,wv,H7,s6,s7,rG⟩:=(λx=>x) cX;refine bS 0 (congrArg some rG) (fz J ?_);rcases q1:s.eZ with _ |x1
 ·replace H:=fi q1 H
  cases H
 replace H:=fj q1 H;rw[q1] at s7;obtain⟨b9,H9,s9,rfl,Sw⟩:=s7;refine bS 6 (congrArg some Sw) (fz J (rc T 5 (lf T 4 J (kr ph.R [6] [6] J JI H (ph.c · s9) (λv2 H=>?_)))));rintro _ _ ⟨cw,n10,bZ,bU,rfl,rfl⟩;refine fz J (cq [7] J Sw (cq [4,4,5] J rG (kr (eN.R el bj) [] [5] J acr H (eN.c · (dI hG (j:=3) J) cX (oO bU 4) bU.bW) (λv3 H=>?_))));rintro _ _ ⟨dA,n11,cB,v12,dz,eJ,dj,dL,dm,rfl,rfl⟩;refine fz J (ro T 11 (bz J (DR T J J J (rD dL (j:=6) J)) (ro T 2 (cb J H (λH=>?_) (λH=>?_)))))
 ·refine rc T 8 ?_
  cases H;exact p1 T J [6,6,0,0,0,0] ⟨v12,dz,eJ,uR,vJ,uK,uQ,vI,uJ,dL,dm,nV,nU,J,J⟩ J
 refine rc T 3 ?_;obtain⟨nt,dP,aj6,gk,dV,gd,DW⟩:=(λx=>x) dm;refine bS 7 (congrArg some DW) (fz J ?_);rcases q5:v3.2.2.eZ with _ |x4
 ·replace H:=fi q5 H
  cases H
 replace H:=fj q5 H;rw[q5] at gd;obtain⟨pW,fe,ft,rfl,ab_⟩:=gd;refine bS 9 (congrArg some ab_) (fz J (rc T 4 (lf T 7 J (ro T 1 (kr (nD.R pW) [] [9] J acs H (nD.c · ft (oO dj 5) dj.bW) (λv5 H=>?_))))));rintro _ _ ⟨mr,n19,kn,a20,n20,oh,lC,gp,me,jY,rfl,rfl⟩;refine fz J (ro T 17 (jZ T 0 J (ro T 2 (jZ T 0 J (ro T 1 (ke [9] [0,2,5,5,5,5,5] J J (rx T 1 (rc T 3 (kr (fP.R el) [] [] J vp H (fP.c · (dI hG (j:=1) J)) (λv6 H=>?_))))))))));rintro v22 _ ⟨v22,mN,iO,rfl,rfl⟩;refine fz J (ro T 4 ?_)
 cases H;refine gq [6] J (gq [2,2,5] J (p1 T J [4,4,0,1,1,0] ⟨v22,mN,(List.flatten [(cl bj 103 [(ii v3.2.2.most),(pp nt),(pp pW)]),dP,(List.flatten [lC])]),mr,n19,kn,a20,n20,oh,iO,(show gv (bT.mk v3.2.2.most v3.2.2.nav (some v5.2.2.2)) bj (List.flatten [(cl bj 103 [(ii v3.2.2.most),(pp nt),(pp pW)]),dP,(List.flatten [lC])]) from⟨nt,dP,(pp pW),(List.flatten [lC]),dV,(show BD (some v5.2.2.2) (pp pW) (List.flatten [lC]) from⟨pW,lC,jY,J,J⟩),J⟩),gp,me,J,J⟩ J))
def uC.f (s:bT) (o:cS) (a:iX):Option (Er×bT×iX):=(if(o.Kind==0)=true then(some true) else((CM.f o).bind λv3=>some (!v3))).bind λx1=>if x1=true then(some ((Er.eB 0),s,a)) else((du s.eZ (if(o.Kind !=1)=true then(some (o.Kind !=8)) else(some false)) (λx6=>some false)).bind λx4=>if x4=true then(some ((Er.num 148 4),s,a)) else((rY.f s o).bind λv7=>if(!(Er.isNil v7))=true then(some (v7,s,a)) else((if(o.Kind==1)=true then((xP.f s o.Map).bind λv23=>some (v23.1,a.Code,a.D,a.cx,a.Id,a.dQ,a.gR,a.Stats.bB,a.Stats.bw,a.Stats.bk,a.Stats.bn,a.Stats.bF,a.Stats.bE,v23.2)) else(if(o.Kind==8)=true then((xy.f s.nav).bind λv24=>some (v7,a.Code,a.D,a.cx,a.Id,a.dQ,a.gR,a.Stats.bB,a.Stats.bw,a.Stats.bk,a.Stats.bn,a.Stats.bF,a.Stats.bE,(bT.mk s.most v24 s.eZ))) else(if(o.Kind==2)=true then((xO.f s o.A o.B).bind λv25=>some (v25.1,a.Code,a.D,a.cx,a.Id,a.dQ,a.gR,a.Stats.bB,a.Stats.bw,a.Stats.bk,a.Stats.bn,a.Stats.bF,a.Stats.bE,v25.2)) else(if(o.Kind==3)=true then((xR.f s o.A o.B).bind λv26=>some (v26.2.1,a.Code,a.D,a.cx,v26.1,a.dQ,a.gR,a.Stats.bB,a.Stats.bw,a.Stats.bk,a.Stats.bn,a.Stats.bF,a.Stats.bE,v26.2.2)) else(if(o.Kind==4)=true then(du s.eZ ((FR.f o.A o.B).bind λv28=>(fP.f v28).bind λq_=>some (q_,a.Code,a.D,a.cx,a.Id,a.dQ,a.gR,a.Stats.bB,a.Stats.bw,a.Stats.bk,a.Stats.bn,a.Stats.bF,a.Stats.bE,s)) (λmj=>(wU.f mj o.A o.B).bind λv30=>(fP.f v30.1).bind λv31=>some (v31,a.Code,a.D,a.cx,a.Id,a.dQ,a.gR,a.Stats.bB,a.Stats.bw,a.Stats.bk,a.Stats.bn,a.Stats.bF,a.Stats.bE,(bT.mk s.most s.nav (some v30.2))))) else(if(o.Kind==5)=true then(du s.eZ ((FQ.f o.A).bind λv33=>(fP.f v33).bind λPN=>some (PN,a.Code,a.D,a.cx,a.Id,a.dQ,a.gR,a.Stats.bB,a.Stats.bw,a.Stats.bk,a.Stats.bn,a.Stats.bF,a.Stats.bE,s)) (λwz=>(wT.f wz o.A).bind λv35=>(fP.f v35.1).bind λXw=>some (Xw,a.Code,a.D,a.cx,a.Id,a.dQ,a.gR,a.Stats.bB,a.Stats.bw,a.Stats.bk,a.Stats.bn,a.Stats.bF,a.Stats.bE,(bT.mk s.most s.nav (some v35.2))))) else(if(o.Kind==6)=true then((xQ.f s a o.A o.B).bind λv37=>some (v37.1,v37.2.2.Code,v37.2.2.D,v37.2.2.cx,v37.2.2.Id,v37.2.2.dQ,v37.2.2.gR,v37.2.2.Stats.bB,v37.2.2.Stats.bw,v37.2.2.Stats.bk,v37.2.2.Stats.bn,v37.2.2.Stats.bF,v37.2.2.Stats.bE,v37.2.1)) else(if(o.Kind==7)=true then((wk.f s a).bind λoQ=>some (oQ.1,oQ.2.2.Code,oQ.2.2.D,oQ.2.2.cx,oQ.2.2.Id,oQ.2.2.dQ,oQ.2.2.gR,oQ.2.2.Stats.bB,oQ.2.2.Stats.bw,oQ.2.2.Stats.bk,oQ.2.2.Stats.bn,oQ.2.2.Stats.bF,oQ.2.2.Stats.bE,oQ.2.1)) else(some (v7,a.Code,a.D,a.cx,a.Id,a.dQ,a.gR,a.Stats.bB,a.Stats.bw,a.Stats.bk,a.Stats.bn,a.Stats.bF,a.Stats.bE,s)))))))))).bind λ(x8,x9,aN,bd,bg,aS,bf,cm,dR,cZ,dw,dC,lA,dM)=>some (x8,dM,(iX.mk x9 aN bd bg aS bf (fx.mk cm dR cZ dw dC lA))))))
def uC.R (el:Nat->Addr) (nC:Nat) (o_:Nat) (r:(Er×bT×iX)):bm:=λu G=> ∃(v0:Value) (H0:Hp) (H1:Hp) (a2 n2 H2:_) (a3 n3 H3:_),gj 414 el r.1 v0 H0/\gv r.2.1 nC H1/\aj jJ 94 r.2.2.dQ a2 n2 H2/\aj (Fl.int .i64) 3 r.2.2.gR a3 n3 H3/\u=v0/\G=[H0,H1,(cl o_ 52 [(ii r.2.2.Code),(ii r.2.2.D),(ii r.2.2.cx),(ii r.2.2.Id),(ll a2 r.2.2.dQ n2),(ll a3 r.2.2.gR n3),(uu r.2.2.Stats.bB),(uu r.2.2.Stats.bw),(uu r.2.2.Stats.bk),(uu r.2.2.Stats.bn),(uu r.2.2.Stats.bF),(uu r.2.2.Stats.bE)]),H2,H3]
theorem uC.c (H:uC.f s o a=some r) (hG:fU 414 fh il el F) (cX:gv s bj eG) (Ay:aU (Fl.int .u8) o.Map BK F) (Aj:List.length o.Map<=CF) (nV:aj jJ 94 a.dQ uR vJ uK) (nU:aj (Fl.int .i64) 3 a.gR uQ vI uJ):
 QR 55 [(pp bj),(.agg #[(ii o.Kind),(ii o.A),(ii o.B),(ll BK o.Map CF)]),(pp o_)] [eG,(cl o_ 52 [(ii a.Code),(ii a.D),(ii a.cx),(ii a.Id),(ll uR a.dQ vJ),(ll uQ a.gR vI),(uu a.Stats.bB),(uu a.Stats.bw),(uu a.Stats.bk),(uu a.Stats.bn),(uu a.Stats.bF),(uu a.Stats.bE)]),uK,uJ] [] F (uC.R el bj o_ r):=by
 unfold uC.f at H;refine aG Tryz.func55 J J (λW=>rc T 2 (nc T J (λb5=>fz J (ro T 5 (mq H [0,2,4] [4,0,0,0,0,0] (λz2 (x1:Bool)=>(x1=z2,[(7,(bb x1))],[])) J J (λz2 Z1 _=>?_) ?_)))))
 ·refine rc T 2 (lf T 5 J (ro T 2 (ab 11 J Z1 (λZ1=>?_) (λZ1=>?_))))
  ·refine ro T 7 (am _ [4,0,0,0,0,0] (oi Z1) J J)
  refine lm T 5 J (k [] J ad8 Z1 (CM.c · (rO Ay 4) Aj) (λv3 Z1=>ro T 5 (am _ [4,0,0,0,0,0] (oi Z1) J J)))
 rintro _ x1 rfl H;refine cb J H (λH=>?_) (λH=>?_)
 ·refine rc T 2 (lg T J (rM (j:=0) J hG (g:=0) (by decide)) (ro T 6 ?_))
  cases H;refine aq J (p1 T J [6,1,1,1,1,0] ⟨(.iface 414 (.pointer (some (el 0)))),[],eG,uR,vJ,uK,uQ,vI,uJ,oA,cX,nV,nU,J,J⟩ J)
 refine mq H [0,2,4] [0,0,0,0,0,0] (λz5 (x4:Bool)=>(x4=z5,[(17,(bb x4))],[])) J J (λz5 Z5 _=>?_) ?_
 ·obtain⟨b8,H8,aka,H9,s8,s9,rH⟩:=(λx=>x) cX;refine bS 1 (congrArg some rH) (fz J ?_);rcases q6:s.eZ with _ |x6
  ·replace Z5:=fi q6 Z5;rw[q6] at s9;obtain⟨rfl,rfl⟩:=s9;refine rc T 4 (lf T 5 J (ro T 3 (lf T 4 J (ro T 3 (ab 28 J Z5 (λZ5=>?_) (λZ5=>?_))))))
   ·refine ro T 1 (lf T 4 J (ro T 5 (cq [5,5,5] J rH (am _ [0,4,0,0,0,0] (oi Z5) J J))))
   refine ro T 7 (cq [5,5,5] J rH (am _ [0,4,0,0,0,0] (oi Z5) J J))
  replace Z5:=fj q6 Z5;rw[q6] at s9;obtain⟨jC,cB,dj,rfl,Su⟩:=s9;refine bS 7 (congrArg some Su) (fz J (rc T 4 (lf T 5 J (ro T 14 (cq [7] J Su (cq [5,5,5] J rH (am _ [0,4,0,0,0,0] (oi Z5) J J)))))))
 rintro _ x4 rfl H;refine cb J H (λH=>?_) (λH=>?_)
 ·refine rc T 2 (bz J (hZ T J J J J) (ro T 6 ?_))
  cases H;refine aq J (p1 T J [6,1,1,1,1,0] ⟨(.iface 148 (ii 4)),[],eG,uR,vJ,uK,uQ,vI,uJ,rC,cX,nV,nU,J,J⟩ J)
 refine rc T 7 (lm T 5 J (kr (rY.R el) [1] [1] J ad9 H (rY.c · (dI hG (j:=0) J) cX (rO Ay 0) Aj) (λv7 H=>?_)));rintro lz _ ⟨lz,eJ,dm,rfl,rfl⟩;refine fz J (ro T 6 (bz J (DR T J J J (rD dm (j:=5) J)) (ro T 2 (cb J H (λH=>?_) (λH=>?_)))))
 ·refine rc T 8 ?_
  cases H;exact p1 T J [5,5,1,1,1,0] ⟨lz,eJ,eG,uR,vJ,uK,uQ,vI,uJ,dm,cX,nV,nU,J,J⟩ J
 refine rc T 2 (mq H [] [0] (λz22 (⟨x8,x9,aN,bd,bg,aS,bf,cm,dR,cZ,dw,dC,lA,dM,Lb,fV,jz,n15,dP,j6,n16,gk,eF⟩:Er×Int×Int×Int×Int×List ff×List Int×Int×Int×Int×Int×Int×Int×bT×Value×Hp×Option Addr×Nat×Hp×Option Addr×Nat×Hp×Hp)=>((x8,x9,aN,bd,bg,aS,bf,cm,dR,cZ,dw,dC,lA,dM)=z22/\gj 414 el x8 Lb fV/\aj jJ 94 aS jz n15 dP/\aj (Fl.int .i64) 3 bf j6 n16 gk/\gv dM bj eF,[(6,Lb)],[fV,(cl o_ 52 [(ii x9),(ii aN),(ii bd),(ii bg),(ll jz aS n15),(ll j6 bf n16),(uu cm),(uu dR),(uu cZ),(uu dw),(uu dC),(uu lA)]),dP,gk,eF])) J J (λz22 aW _=>?_) ?_)
 ·refine rc T 3 (lf T 4 J (ro T 9 (cb J aW (λaW=>?_) (λaW=>?_))))
  ·refine rc T 3 (lf T 4 J (kr (xP.R el bj) [] [6] J ad_ aW (xP.c · (dI hG (j:=0) J) cX (rO Ay 0) Aj) (λv23 aW=>?_)));rintro fG _ ⟨fG,fe,kn,ft,gp,rfl,rfl⟩;refine fz J (ro T 4 (am (_,_,_,_,_,_,_,_,_,_,_,_,_,_,_,_,_,_,_,_,_,_,_) [0,5,0,0,0,2] ⟨oi aW,ft,nV,nU,gp⟩ J J))
  refine rc T 6 (cb J aW (λaW=>?_) (λaW=>?_))
  ·obtain⟨Ac,lC,Xv,mN,jY,iO,ab8⟩:=(λx=>x) cX;refine bS 6 (congrArg some ab8) (fz J (rc T 4 (lf T 6 J (kr (xy.R Ac) [] [7] J ad' aW (xy.c · jY) (λv24 aW=>?_)))));rintro _ _ ⟨jQ,g_,rfl,rfl⟩;refine fz J (ro T 3 (gq [6,7,6] J (am (_,_,_,_,_,_,_,_,_,_,_,_,_,_,_,_,_,_,_,_,_,_,_) [0,4,0,0,0,1] ⟨oi aW,dm,nV,nU,(show gv (bT.mk s.most v24 s.eZ) bj (List.flatten [(cl bj 103 [(ii s.most),(pp Ac),Xv]),jQ,mN]) from⟨Ac,jQ,Xv,mN,g_,iO,J⟩)⟩ J J)))
  refine rc T 6 (cb J aW (λaW=>?_) (λaW=>?_))
  ·refine rc T 3 (lf T 4 J (ro T 1 (lf T 4 J (kr (xO.R el bj) [] [6] J aea aW (xO.c · (dI hG (j:=0) J) cX) (λv25 aW=>?_)))));rintro v24 _ ⟨v24,qx,gS,lO,jt,rfl,rfl⟩;refine fz J (ro T 4 (am (_,_,_,_,_,_,_,_,_,_,_,_,_,_,_,_,_,_,_,_,_,_,_) [0,5,0,0,0,2] ⟨oi aW,lO,nV,nU,jt⟩ J J))
  refine rc T 6 (cb J aW (λaW=>?_) (λaW=>?_))
  ·refine rc T 4 (lf T 4 J (ro T 1 (lf T 4 J (kr (xR.R el bj) [] [6] J aeb aW (xR.c · (dI hG (j:=0) J) cX) (λv26 aW=>?_)))));rintro _ _ ⟨v26,oo,E9,mF,vX,rfl,rfl⟩;refine fz J (ro T 5 (jZ T 1 J (ro T 4 (am (_,_,_,_,_,_,_,_,_,_,_,_,_,_,_,_,_,_,_,_,_,_,_) [0,5,0,0,0,2] ⟨oi aW,mF,nV,nU,vX⟩ J J))))
  refine rc T 6 (cb J aW (λaW=>?_) (λaW=>?_))
  ·obtain⟨Ad,rk,aj_,rl,qQ,pH,Jx⟩:=(λx=>x) cX;refine bS 6 (congrArg some Jx) (fz J ?_);rcases CX:s.eZ with _ |mj
   ·replace aW:=fi CX aW;rw[CX] at pH;obtain⟨rfl,rfl⟩:=pH;refine ke [0,4] [0,0,0,0,0,1,1,1] J J (fz J (rq [] [0,0,0,0,0,0,0,0] J mix (bM bL) (λhg pf=>ha T 8 [0,1,2] sz hg pf J (av 3 sz hg pf J (aw T J J J J (aI (j:=5) J J)) (ha T 6 [4] sz hg pf J (av 5 sz hg pf J (aw T J J J J (aI (j:=4) J J)) (ha T 4 [6] sz hg pf J (av 7 sz hg pf J (aw T J J J J (aI (j:=4) J J)) (ao 8 (kh [] J TI aW (FR.c ·) (λv28 aW=>an sz (ao 9 (kR (fP.R el) [] [] J vp aW (fP.c · (dI hG (j:=0) J)) (λq_ aW=>?_))))))))))))));rintro v33 _ ⟨v33,Iy,vY,rfl,rfl⟩;refine fz J (an (so [0,0,0,0,0,0,0,0]) (ha T 0 [10] (so [0,0,0,0,0,0,0,0]) hg pf J (ae (rx T 2 (cq [5,5,5] J Jx (am (_,_,_,_,_,_,_,_,_,_,_,_,_,_,_,_,_,_,_,_,_,_,_) [0,4,0,0,0,1] ⟨oi aW,vY,nV,nU,cX⟩ J J))))))
   replace aW:=fj CX aW;rw[CX] at pH;obtain⟨wP,Ix,zy,rfl,ab'⟩:=pH;refine bS 8 (congrArg some ab') (fz J (ke [0,4] [0,0,0,0,0,1,1,1] J J (fz J (rq [8] [0,0,0,0,0,0,0,0] J mix (bM bL) (λhg pf=>ha T 8 [0,1,2] sz hg pf J (av 3 sz hg pf J (aw T J J J J (aI (j:=5) J J)) (ha T 6 [4] sz hg pf J (av 5 sz hg pf J (aw T J J J J (aI (j:=4) J J)) (ha T 4 [6] sz hg pf J (av 7 sz hg pf J (aw T J J J J (aI (j:=4) J J)) (ao 8 (kR (wU.R wP) [] [7] J TI aW (wU.c · zy) (λv30 aW=>?_)))))))))))));rintro _ _ ⟨uI,xK,rfl,rfl⟩;refine fz J (an sl (ao 9 (kR (fP.R el) [] [] J vp aW (fP.c · (dI hG (j:=0) J)) (λv31 aW=>?_))));rintro v35 _ ⟨v35,Iz,KQ,rfl,rfl⟩;refine fz J (an sl (hb T 10 sl hg pf J (ae (rx T 2 (gq [7] J (gq [5,5,6] J (am (_,_,_,_,_,_,_,_,_,_,_,_,_,_,_,_,_,_,_,_,_,_,_) [0,4,0,0,0,1] ⟨oi aW,KQ,nV,nU,(show gv (bT.mk s.most s.nav (some v30.2)) bj (List.flatten [(cl bj 103 [(ii s.most),(pp Ad),(pp wP)]),rk,(List.flatten [uI])]) from⟨Ad,rk,(pp wP),(List.flatten [uI]),qQ,(show BD (some v30.2) (pp wP) (List.flatten [uI]) from⟨wP,uI,xK,J,J⟩),J⟩)⟩ J J)))))))
  refine rc T 6 (cb J aW (λaW=>?_) (λaW=>?_))
  ·obtain⟨QO,zU,aj',Lq,A9,A_,Sr⟩:=(λx=>x) cX;refine bS 6 (congrArg some Sr) (fz J ?_);rcases Hm:s.eZ with _ |wz
   ·replace aW:=fi Hm aW;rw[Hm] at A_;obtain⟨rfl,rfl⟩:=A_;refine ke [0,4] [0,0,0,0,0,1,1,1] J J (fz J (rq [] [0,0,0,0,0,0,0,0] J mix (bM bL) (λhg pf=>ha T 6 [0,1,2] sz hg pf J (av 3 sz hg pf J (aw T J J J J (aI (j:=5) J J)) (ha T 4 [4] sz hg pf J (av 5 sz hg pf J (aw T J J J J (aI (j:=4) J J)) (ao 6 (kh [] J TJ aW (FQ.c ·) (λv33 aW=>an sz (ao 7 (kR (fP.R el) [] [] J vp aW (fP.c · (dI hG (j:=0) J)) (λPN aW=>?_))))))))))));rintro Le _ ⟨Le,lD,Pg,rfl,rfl⟩;refine fz J (an (so [0,0,0,0,0,0,0,0]) (ha T 0 [8] (so [0,0,0,0,0,0,0,0]) hg pf J (ae (rx T 2 (cq [5,5,5] J Sr (am (_,_,_,_,_,_,_,_,_,_,_,_,_,_,_,_,_,_,_,_,_,_,_) [0,4,0,0,0,1] ⟨oi aW,Pg,nV,nU,cX⟩ J J))))))
   replace aW:=fj Hm aW;rw[Hm] at A_;obtain⟨FI,Fa,zA,rfl,aca⟩:=A_;refine bS 8 (congrArg some aca) (fz J (ke [0,4] [0,0,0,0,0,1,1,1] J J (fz J (rq [6] [0,0,0,0,0,0,0,0] J mix (bM bL) (λhg pf=>ha T 6 [0,1,2] sz hg pf J (av 3 sz hg pf J (aw T J J J J (aI (j:=5) J J)) (ha T 4 [4] sz hg pf J (av 5 sz hg pf J (aw T J J J J (aI (j:=4) J J)) (ao 6 (kR (wT.R FI) [] [7] J TJ aW (wT.c · zA) (λv35 aW=>?_)))))))))));rintro _ _ ⟨gD,tg,rfl,rfl⟩;refine fz J (an sl (ao 7 (kR (fP.R el) [] [] J vp aW (fP.c · (dI hG (j:=0) J)) (λXw aW=>?_))));rintro v44 _ ⟨v44,XJ,C5,rfl,rfl⟩;refine fz J (an sl (hb T 8 sl hg pf J (ae (rx T 2 (gq [7] J (gq [5,5,6] J (am (_,_,_,_,_,_,_,_,_,_,_,_,_,_,_,_,_,_,_,_,_,_,_) [0,4,0,0,0,1] ⟨oi aW,C5,nV,nU,(show gv (bT.mk s.most s.nav (some v35.2)) bj (List.flatten [(cl bj 103 [(ii s.most),(pp QO),(pp FI)]),zU,(List.flatten [gD])]) from⟨QO,zU,(pp FI),(List.flatten [gD]),A9,(show BD (some v35.2) (pp FI) (List.flatten [gD]) from⟨FI,gD,tg,J,J⟩),J⟩)⟩ J J)))))))
  refine rc T 6 (cb J aW (λaW=>?_) (λaW=>?_))
  ·refine rc T 4 (lf T 4 J (ro T 1 (lf T 4 J (kr (xQ.R el bj o_) [] [6,1,1,1] J aec aW (xQ.c · (dI hG (j:=0) J) cX nV nU) (λv37 aW=>?_)))));rintro v46 _ ⟨v46,XK,Fb,Fm,n48,Fc,a49,n49,XL,Ph,HE,KR,s49,rfl,rfl⟩;refine fz J (ro T 4 (am (_,_,_,_,_,_,_,_,_,_,_,_,_,_,_,_,_,_,_,_,_,_,_) [0,2,3,3,3,2] ⟨oi aW,Ph,KR,s49,HE⟩ J J))
  refine rc T 6 (cb J aW (λaW=>?_) (λaW=>?_))
  ·refine rc T 3 (kr (wk.R el bj o_) [] [6,1,1,1] J aed aW (wk.c · (dI hG (j:=0) J) cX nV nU) (λoQ aW=>?_));rintro v50 _ ⟨v50,XM,XN,Ly,n52,Ls,a53,n53,XO,Pj,KS,EH,Pk,rfl,rfl⟩;refine fz J (ro T 4 (am (_,_,_,_,_,_,_,_,_,_,_,_,_,_,_,_,_,_,_,_,_,_,_) [0,2,3,3,3,2] ⟨oi aW,Pj,EH,Pk,KS⟩ J J))
  refine rc T 3 (am (_,_,_,_,_,_,_,_,_,_,_,_,_,_,_,_,_,_,_,_,_,_,_) [0,4,0,0,0,1] ⟨oi aW,dm,nV,nU,cX⟩ J J)
 rintro _ ⟨x8,x9,aN,bd,bg,aS,bf,cm,dR,cZ,dw,dC,lA,dM,Lb,fV,jz,n15,dP,j6,n16,gk,eF⟩ ⟨rfl,gC,dV,gd,fq⟩ H;refine rc T 7 ?_
 cases H;exact p1 T J [1,4,1,1,1,0] ⟨Lb,fV,eF,jz,n15,dP,j6,n16,gk,gC,fq,dV,gd,J,J⟩ J
def Di.f (err:Er):Option Int:=(vc.f err (Er.eB 0)).bind λv1=>if v1=true then(some 5) else((FW.f err).bind λv2=>if(Option.isSome v2)=true then(some (Option.getD v2 0)) else(some 0))
theorem Di.c (H:Di.f err=some r) (hG:fU 414 fh il el F) (DN:lU 414 el err PO F):
 QU 56 [PO] [] F (ii r):=by
 unfold Di.f at H;refine aG Tryz.func56 J J (λW=>rc T 7 (nc T J (λb1=>fz J (ro T 7 (lg T J (rM (j:=0) J hG (g:=0) (by decide)) (k [] J JJ H (vc.c err (Er.eB 0) _ _ · (dI hG (j:=0) J) (FX DN (j:=0) J) Jb) (λv1 H=>ro T 3 (cb J H (λH=>?_) (λH=>?_)))))))))
 ·refine rc T 8 ?_
  cases H;exact p0 T J [0] J
 refine rc T 3 (bz J (hZ T J J J J) ?_);obtain⟨v2,V3,H⟩:=gx H;refine aZ (uT (As:=[(cl b1 148 [(ii 0)])]) (R:=[F]) (B:=λ_=>[(cl b1 148 [(ii (Option.getD v2 0))])]) [1] J J J J JK J J (FW.c err v2 _ V3 (dI hG (j:=0) J) (FX DN (j:=0) J)) (λ_=>ro T 3 (cb J H (λH=>?_) (λH=>?_))))
 ·refine rc T 2 (lf T 1 J (ro T 6 ?_))
  cases H;exact p0 T J [0] J
 refine rc T 9 ?_
 cases H;exact p0 T J [0] J
def jv.f (s:bT) (o:cS):Option (iX×bT):=(uC.f s o (iX.mk 0 0 5 (-1) ([]:List ff) ([]:List Int) (fx.mk 0 0 0 0 0 0))).bind λv1=>if(!(Er.isNil v1.1))=true then((Di.f (Er.wrap 110 [o.Kind] v1.1)).bind λv2=>(qY.f v1.2.1).bind λv3=>some ((iX.mk v2 v1.2.2.D v1.2.2.cx v1.2.2.Id v1.2.2.dQ v1.2.2.gR v3),v1.2.1)) else((qY.f v1.2.1).bind λv4=>some ((iX.mk v1.2.2.Code v1.2.2.D v1.2.2.cx v1.2.2.Id v1.2.2.dQ v1.2.2.gR v4),v1.2.1))
def jv.R (el:Nat->Addr) (nC:Nat) (r:(iX×bT)):bm:=λu G=> ∃(a0 n0 H0:_) (a1 n1 H1:_) (H2:Hp),aj jJ 94 r.1.dQ a0 n0 H0/\aj (Fl.int .i64) 3 r.1.gR a1 n1 H1/\gv r.2 nC H2/\u=(.agg #[(ii r.1.Code),(ii r.1.D),(ii r.1.cx),(ii r.1.Id),(ll a0 r.1.dQ n0),(ll a1 r.1.gR n1),(uu r.1.Stats.bB),(uu r.1.Stats.bw),(uu r.1.Stats.bk),(uu r.1.Stats.bn),(uu r.1.Stats.bF),(uu r.1.Stats.bE)])/\G=[H0,H1,H2]
theorem jv.c (H:jv.f s o=some r) (hG:fU 414 fh il el F) (cX:gv s bj eG) (Ay:aU (Fl.int .u8) o.Map BK F) (Aj:List.length o.Map<=CF):
 QR 24 [(pp bj),(.agg #[(ii o.Kind),(ii o.A),(ii o.B),(ll BK o.Map CF)])] [eG] [] F (jv.R el bj r):=by
 unfold jv.f at H;refine aG Tryz.func24 J J (λW=>rc T 2 (nc T J (λb2=>fz J (nc T J (λb3=>fz J (ro T 5 (nc T J (λb4=>fz J (jZ T 4 J (ro T 9 (eY J (rc T 5 (jZ T 4 J (ro T 1 (ks [0,3,4,5] J (rx T 1 (rc T 4 (lm T 2 J (aq J (aq J (kr (uC.R el bj b4) [] [0,3,3,3] J adZ H (uC.c (a:=(iX.mk 0 0 5 (-1) ([]:List ff) ([]:List Int) (fx.mk 0 0 0 0 0 0))) · (dI hG (j:=0) J) cX (rO Ay 0) Aj (aj.nil (k:=jJ) (E:=94)) (aj.nil (k:=(Fl.int .i64)) (E:=3))) (λv1 H=>?_))))))))))))))))))))));rintro v7 _ ⟨v7,H7,H8,a9,n9,H9,cw,n10,bZ,s7,s8,s9,bU,rfl,rfl⟩;refine fz J (ro T 6 (bz J (DR T J J J (rD s7 (j:=3) J)) (ro T 2 (cb J H (λH=>?_) (λH=>?_)))))
 ·refine rc T 2 (lf T 1 J (ro T 1 (bz J (R5 (vs:=[(0,(ii o.Kind)),(1,v7)]) T [(0,[(ii o.Kind)]),(1,[v7])] J J J J J (by simp only[List.map,RH s7];rfl) J) ?_)))
  refine nc T J (λjC=>fz J (gq [8,3] J (bz J (hZ T J J J J) (k [] J ad0 H (Di.c · (dI hG (j:=0) J) (rD (p7 s7) (j:=7) J)) (λv2 H=>ro T 1 (jZ T 4 J (ro T 5 (k [3] J Ng H (qY.c · s8) (λv3 H=>ro T 1 (jZ T 4 J (ro T 1 (ke [4,5] [0,1,1,1,1,1] J J (rx T 3 (lm T 3 J (jZ T 1 J (ro T 1 (rx T 2 ?_)))))))))))))))))
  cases H;exact pb T J (.cN (j:=1) [(ii v2),(ii v1.2.2.D),(ii v1.2.2.cx),(ii v1.2.2.Id),(ll a9 v1.2.2.dQ n9),(ll cw v1.2.2.gR n10),(uu v3.bB),(uu v3.bw),(uu v3.bk),(uu v3.bn),(uu v3.bF),(uu v3.bE)] J J J J J J J .nil) [4,4,2,0] ⟨(_,_),a9,n9,H9,cw,n10,bZ,H8,s9,bU,s8,J,J⟩ J J
 refine rc T 5 (k [4] J Ng H (qY.c · s8) (λv4 H=>ro T 1 (jZ T 5 J (ro T 4 (lm T 5 J (jZ T 2 J (ro T 1 (ke [4] [0,1,2,3,3] J J (rx T 1 (rc T 1 ?_))))))))))
 cases H;exact pb T J (.cN (j:=1) [(ii v1.2.2.Code),(ii v1.2.2.D),(ii v1.2.2.cx),(ii v1.2.2.Id),(ll a9 v1.2.2.dQ n9),(ll cw v1.2.2.gR n10),(uu v4.bB),(uu v4.bw),(uu v4.bk),(uu v4.bn),(uu v4.bF),(uu v4.bE)] J J J J J J J .nil) [3,3,2,0] ⟨(_,_),a9,n9,H9,cw,n10,bZ,H8,s9,bU,s8,J,J⟩ J J
end
noncomputable section
def vU.l0:Nat->(List ff)->(List ff)->Int->Option Bool
 |0,_,_,_=>none
 |k3+1,a,b,x2=>if x2<(List.length a:Int) then(if(0<=x2/\x2<(List.length a:Int)) then(if(0<=x2/\x2<(List.length b:Int)) then(if(!(((rd a x2).Id==(rd b x2).Id)&&(((rd a x2).To==(rd b x2).To)&&true)))=true then(some false) else(vU.l0 k3 a b (aa (x2+1)))) else none) else none) else(some true)
def vU.f (a:(List ff)) (b:(List ff)):Option Bool:=if((List.length a:Int)!=(List.length b:Int))=true then(some false) else(vU.l0 fuel a b 0)
theorem vU.c (H:vU.f a b=some r) (DY:aU jJ a Fs F) (Ma:List.length a<=Hb) (ic:aU jJ b j7 F) (gy:List.length b<=jU):
 QU 46 [(ll Fs a Hb),(ll j7 b jU)] [] F (bb r):=by
 unfold vU.f at H;refine aG Tryz.func46 J J (λW=>rc T 15 (cb J H (λH=>?_) (λH=>?_)))
 ·refine rc T 7 ?_
  cases H;exact p0 T J [0] J
 refine rc T 9 (lq [0,1] [0] (λ(⟨k3,x2⟩:Nat×Int)=>(vU.l0 k3 a b x2=some r,[(5,(ii x2))],[])) J J (fuel,0) [0] H J J ?_);rintro k3 x2 Z2;replace Z2:vU.l0 (k3+1) a b x2=some r:=Z2;rw[vU.l0] at Z2;refine rc T 9 (cd J Z2 (λZ2=>?_) (λZ2=>?_))
 ·refine rc T 5 (dD mix az (au T J (au T J ?_)));obtain⟨c4,Z2⟩:=aA Z2;obtain⟨q1,o1,e1⟩:=DY.addr c4.1 c4.2;refine aO J J J (cT T J J J J J e1 c4.1 c4.2) (aO J J J (fX T (cs:=[(ii (rd a x2).Id),(ii (rd a x2).To)]) J J J J J J (ig (k:=jJ) (rO DY 0) e1 c4 J)) (au T J (au T J ?_)));obtain⟨c5,Z2⟩:=aA Z2;obtain⟨q2,o2,e2⟩:=ic.addr c5.1 c5.2;refine aO J J J (cT T J J J J J e2 c5.1 c5.2) (aO J J J (fX T (cs:=[(ii (rd b x2).Id),(ii (rd b x2).To)]) J J J J J J (ig (k:=jJ) (rO ic 0) e2 c5 J)) (aO J J J (MI T (((rd a x2).Id==(rd b x2).Id)&&(((rd a x2).To==(rd b x2).To)&&true)) J J J J aiN az J) (dg (rx T 1 (cb J Z2 (λZ2=>?_) (λZ2=>?_))))))
  ·refine rc T 11 ?_
   cases Z2;exact p0 T J [0] J
  refine rc T 9 (ar _ [0] Z2 J J)
 refine rc T 11 ?_
 cases Z2;exact p0 T J [0] J
end
noncomputable section
def wm.f (l:(List sL)) (n:Int):Option Int:=if(0<=(0:Int)/\(0:Int)<=(if n<(List.length l:Int) then n else(List.length l:Int))/\(if n<(List.length l:Int) then n else(List.length l:Int))<=(List.length l:Int)) then(some (if n<(List.length l:Int) then n else(List.length l:Int))) else none
theorem wm.c (H:wm.f l n=some r) (dh:aU GQ l iy F) (gz:List.length l<=iq):
 QU 13 [(ll iy l iq),(ii n)] [] F (ll (gi iy iq (Int.toNat 0) 3) (aB l 0 r) (iq-Int.toNat 0)):=by
 unfold wm.f at H;refine aG Tryz.func13 J J (λW=>rc T 12 ?_);obtain⟨c1,H⟩:=aA H;refine bz J (kF T J J J J J J c1 gz) (ro T 4 ?_);obtain rfl:=Option.some.inj H;exact FF (T:=T) J (.tmp J .nil) (λw o=>⟨(),J,CP [0] J o⟩)
theorem wm.b {l:(List sL)} {n:Int} {r:Int} (H:wm.f l n=some r):(0<=(0:Int)/\(0:Int)<=r/\r<=(List.length l:Int)):=by
 unfold wm.f at H;obtain⟨c,H⟩:=aA H;obtain rfl:=Option.some.inj H;exact c
def EW.f:Option Bool:=(tz.f 1 2).bind λv1=>du v1 (some false) (λfc=>(lr.f (aM.mk 3 1 [5,2,9])).bind λv2=>(jv.f fc (cS.mk 1 0 0 v2)).bind λv3=>(jv.f v3.2 (cS.mk 3 0 2 [])).bind λv4=>(jv.f v4.2 (cS.mk 6 2 0 [])).bind λv5=>(jv.f v5.2 (cS.mk 7 0 0 [])).bind λv6=>(if(v3.1.Code==0)=true then(if(v4.1.Id==0)=true then(if(v5.1.D==11)=true then(if(v5.1.cx==1)=true then((vU.f v6.1.dQ [(ff.mk 0 1)]).bind λv9=>if v9=true then((tA.f v6.2).bind λv10=>some ((List.length v10:Int)==1)) else(some false)) else(some false)) else(some false)) else(some false)) else(some false)).bind λx7=>some x7)
theorem EW.c (H:EW.f=some r) (hG:fU 414 fh il el F):
 QU 18 [] [] F (bb r):=by
 unfold EW.f at H;refine aG Tryz.func18 J J (λW=>rc T 7 (kr tz.R [] [] J Tc H (tz.c ·) (λv1 H=>?_)));rintro _ _ ⟨_,_,O2,rfl,rfl⟩;rcases v1 with _ |fc
 ·replace H:=fi J H;obtain⟨rfl,rfl⟩:=O2;refine ro T 10 (ov J (rc T 7 ?_))
  cases H;exact p0 T J [0] J
 replace H:=fj J H;obtain⟨b1,H1,s1,rfl,rfl⟩:=O2;refine ro T 10 (eY J (rc T 4 (aZ (cV (k:=(Fl.int .u8)) T [5,2,9] J J J J J J J J J (λa2 H2 s2=>ro T 1 (nc T J (λb3=>sg T 3 J (ro T 5 (lm T 3 J (kr lr.R [] [] J Ns H (lr.c (m:=(aM.mk 3 1 [5,2,9])) · (oO s2 2) s2.bW) (λv2 H=>?_)))))))))));rintro _ _ ⟨a4,n4,H4,s4,rfl,rfl⟩;refine fz J (ro T 1 (kr (jv.R el b1) [] [1] J D2 H (jv.c (o:=(cS.mk 1 0 0 v2)) · (dI hG (j:=0) J) s1 (oO s4 3) s4.bW) (λv3 H=>?_)));rintro _ _ ⟨a5,n5,H5,a6,n6,H6,H7,s5,s6,s7,rfl,rfl⟩;refine fz J (nc T J (λb8=>sg T 7 J (ro T 1 (ke [1,3] [0,3,3,3,3] J J (rx T 5 (kr (jv.R el b1) [] [3] J D2 H (jv.c (o:=(cS.mk 3 0 2 [])) · (dI hG (j:=0) J) s7 (.inl J) (Nat.le_refl _)) (λv4 H=>?_)))))));rintro _ _ ⟨a9,n9,H9,cw,n10,bZ,cB,s9,bU,dj,rfl,rfl⟩;refine fz J (nc T J (λkz=>sg T 7 J (ro T 6 (kr (jv.R el b1) [] [6] J D2 H (jv.c (o:=(cS.mk 6 2 0 [])) · (dI hG (j:=0) J) dj (.inl J) (Nat.le_refl _)) (λv5 H=>?_)))));rintro _ _ ⟨dH,n13,eJ,iT,n14,fV,dP,dm,gC,dV,rfl,rfl⟩;refine fz J (nc T J (λpV=>sg T 10 J (ro T 6 (kr (jv.R el b1) [] [9] J D2 H (jv.c (o:=(cS.mk 7 0 0 [])) · (dI hG (j:=0) J) dV (.inl J) (Nat.le_refl _)) (λv6 H=>?_)))));rintro _ _ ⟨a17,n17,eF,iU,n18,fe,kn,fq,ft,gp,rfl,rfl⟩;refine fz J (nc T J (λDH=>sg T 13 J (ro T 1 (ks [1,3,4,5,6] J (rx T 1 (mq H [] [0] (λz8 (x7:Bool)=>(x7=z8,[(0,(bb x7))],[])) J J (λz8 Z8 _=>?_) ?_))))))
 ·refine rc T 2 (lf T 3 J (ro T 2 (ab 29 J Z8 (λZ8=>?_) (λZ8=>?_))))
  ·refine ro T 1 (lf T 6 J (ro T 3 (ab 34 J Z8 (λZ8=>?_) (λZ8=>?_))))
   ·refine ro T 1 (lf T 9 J (ro T 3 (ab 39 J Z8 (λZ8=>?_) (λZ8=>?_))))
    ·refine ro T 1 (lf T 9 J (ro T 3 (ab 44 J Z8 (λZ8=>?_) (λZ8=>?_))))
     ·refine ro T 1 (lf T 13 J (ro T 1 (aZ (cV (k:=jJ) T [(ff.mk 0 1)] J J J J J J J J J (λa21 lC jY=>k [] J adV Z8 (vU.c (b:=[(ff.mk 0 1)]) · (oO fq 10) fq.bW (oO jY 14) jY.bW) (λv9 Z8=>ro T 2 (ab 51 J Z8 (λZ8=>?_) (λZ8=>?_))))))))
      ·refine ro T 1 (kr tA.R [12] [12] J Th Z8 (tA.c · gp) (λv10 Z8=>?_));rintro _ _ ⟨a22,n22,mN,iO,rfl,rfl⟩;refine fz J (ro T 6 (am _ [0] (oi Z8) J J))
      refine ro T 8 (am _ [0] (oi Z8) J J)
     refine ro T 15 (am _ [0] (oi Z8) J J)
    refine ro T 20 (am _ [0] (oi Z8) J J)
   refine ro T 25 (am _ [0] (oi Z8) J J)
  refine ro T 30 (am _ [0] (oi Z8) J J)
 rintro _ x7 rfl H;refine rc T 1 ?_
 cases H;exact p0 T J [0] J
end
noncomputable section
def ni.l0:Nat->(List cS)->bT->Int->Option Bool
 |0,_,_,_=>none
 |k8+1,v2,x6,x7=>if x7<(List.length v2:Int) then((xN.f x6).bind λv9=>(tA.f x6).bind λv10=>(qY.f x6).bind λv11=>(if(0<=x7/\x7<(List.length v2:Int)) then(if((rd v2 x7).Kind==7)=true then((ir.f v9.W v9.H v10).bind λcD=>(lN.f v10).bind λdG=>some ((cY (List.length cD:Int)),(cY (List.length dG:Int)))) else(if((rd v2 x7).Kind==6)=true then(some ((1:Int),(1:Int))) else(some ((0:Int),(0:Int))))) else none).bind λ(bg,aS)=>if(0<=x7/\x7<(List.length v2:Int)) then((jv.f x6 (rd v2 x7)).bind λv17=>(if v17.1.Stats.bw>(cY (v11.bw+aS)) then(some true) else(if v17.1.Stats.bk>(cY (v11.bk+bg)) then(some true) else(if(cY (v17.1.Stats.bk+v17.1.Stats.bn))>(cY ((cY (v11.bk+v11.bn))+bg)) then(some true) else((pP.f v11 v17.1.Stats).bind λv20=>some (!v20))))).bind λdw=>if dw=true then(some false) else((if(0<=x7/\x7<(List.length v2:Int)) then(if((rd v2 x7).Kind !=7)=true then(some true) else(some (((List.length v17.1.dQ:Int)!=0)||((List.length v10:Int)==0)))) else none).bind λdM=>if dM=true then(ni.l0 k8 v2 v17.2 (aa (x7+1))) else((jv.f v17.2 (cS.mk 7 0 0 [])).bind λv23=>(if(v23.1.Stats.bk !=v17.1.Stats.bk)=true then(some true) else(if(v23.1.Stats.bB !=v17.1.Stats.bB)=true then(some true) else(if(v23.1.Stats.bn !=(cY (v17.1.Stats.bn+bg)))=true then(some true) else(some ((List.length v23.1.dQ:Int)!=0))))).bind λmi=>if mi=true then(some false) else(ni.l0 k8 v2 v23.2 (aa (x7+1)))))) else none) else((EW.f).bind λv26=>some v26)
def ni.f (w:Int) (h:Int) (p2:(List Int)) (l:(List sL)):Option Bool:=(wm.f l 40).bind λv1=>(nT.f w h p2 (aB l 0 v1)).bind λv2=>(tz.f 50 6).bind λv3=>du v3 (some false) (λtK=>ni.l0 fuel v2 tK 0)
theorem ni.c (H:ni.f w h p2 l=some r) (hG:fU 414 fh il el F) (B4:aU (Fl.int .u8) p2 Ft F) (FN:List.length p2<=Hc) (dh:aU GQ l iy F) (gz:List.length l<=iq):
 QU 6 [(ii w),(ii h),(ll Ft p2 Hc),(ll iy l iq)] [] F (bb r):=by
 unfold ni.f at H;refine aG Tryz.func6 J J (λW=>rc T 11 ?_);obtain⟨v1,V1,H⟩:=gx H;have c2:=wm.b V1;refine aZ (uT (B:=λ_=>[]) [] J J J J acu J J (wm.c V1 (rO dh 0) gz) (λ_=>kr nT.R [] [] J acZ H (nT.c · (rO B4 0) FN (ng (rO dh 0) c2 gz) (mL c2 gz)) (λv2 H=>?_)));rintro _ _ ⟨a1,n1,H1,s1,rfl,rfl⟩;refine fz J (ro T 5 (kr tz.R [] [] J Tc H (tz.c ·) (λv3 H=>?_)));rintro _ _ ⟨_,_,O5,rfl,rfl⟩;rcases v3 with _ |tK
 ·replace H:=fi J H;obtain⟨rfl,rfl⟩:=O5;refine ro T 10 (ov J (rc T 7 ?_))
  cases H;exact p0 T J [0] J
 replace H:=fj J H;obtain⟨b2,H2,s2,rfl,rfl⟩:=O5;refine ro T 10 (eY J (rc T 9 (lq [9,10] [0,0] (λ(⟨k8,x6,x7,H4⟩:Nat×bT×Int×Hp)=>(ni.l0 k8 v2 x6 x7=some r/\gv x6 b2 H4,[(11,(ii x7))],[H4])) J J (fuel,tK,0,H2) [0,0,0] ⟨H,s2⟩ J J ?_)));rintro k8 ⟨x6,x7,H4⟩ ⟨Z6,s4⟩;rw[ni.l0] at Z6;refine rc T 9 (cd J Z6 (λZ6=>?_) (λZ6=>?_))
 ·refine rc T 7 (kr xN.R [2] [2] J acv Z6 (xN.c · s4) (λv9 Z6=>?_));rintro _ _ ⟨a5,n5,H5,s5,rfl,rfl⟩;refine fz J (ro T 1 (kr tA.R [3] [3] J Th Z6 (tA.c · s4) (λv10 Z6=>?_)));rintro _ _ ⟨a6,n6,H6,s6,rfl,rfl⟩;refine fz J (ro T 1 (k [4] J Ng Z6 (qY.c · s4) (λv11 Z6=>nc T J (λb7=>nc T J (λb8=>sg T 5 J (ro T 1 (sg T 6 J (ro T 8 (mq Z6 [9,10,11,13,14] [0,0,2,1,2] (λBw (⟨bg,aS⟩:Int×Int)=>((bg,aS)=Bw,[(15,(uu bg)),(16,(uu aS))],[])) J J (λBw aW _=>?_) ?_)))))))))
  ·refine rc T 4 ?_;obtain⟨fW,aW⟩:=aA aW;obtain⟨q9,o9,e9⟩:=s1.r.addr fW.1 fW.2;refine ix T J e9 fW (ro T 1 ?_);obtain⟨_,Lh,⟨cw,n10,⟨KM,m10⟩,rfl⟩⟩:=mo.view s1.r fW;refine lg T J (zb (j:=1) J Lh e9 0 J) (ro T 9 (cb J aW (λaW=>?_) (λaW=>?_)))
   ·refine rc T 2 (lf T 5 J (ro T 1 (lf T 5 J (ro T 1 (kr ir.R [] [] J Tr aW (ir.c · (oO s6 3) s6.bW) (λcD aW=>?_))))));rintro _ _ ⟨a12,n12,dz,dL,rfl,rfl⟩;refine fz J (ro T 3 (kr lN.R [] [] J Tt aW (lN.c · (oO s6 3) s6.bW) (λdG aW=>?_)));rintro _ _ ⟨dH,n13,eJ,dm,rfl,rfl⟩;refine fz J (ro T 7 (am (_,_) [0,0,2,1,2] (oi aW) J J))
   refine rc T 6 (cb J aW (λaW=>?_) (λaW=>?_))
   ·refine rc T 6 (am (_,_) [0,0,2,1,2] (oi aW) J J)
   refine rc T 3 (am (_,_) [0,0,2,1,2] (oi aW) J J)
  rintro _ ⟨bg,aS⟩ rfl Z6;refine rc T 5 ?_;obtain⟨jD,Z6⟩:=aA Z6;obtain⟨VU,Vr,wX⟩:=s1.r.addr jD.1 jD.2;refine ix T J wX jD ?_;obtain⟨_,w16,⟨jz,n15,⟨r15,m15⟩,rfl⟩⟩:=mo.view s1.r jD;refine bz J (fX T (cs:=[(ii (rd v2 x7).Kind),(ii (rd v2 x7).A),(ii (rd v2 x7).B),(ll jz (rd v2 x7).Map n15)]) J J J J J J (Oc (j:=1) J w16 wX 0 J)) (kr (jv.R el b2) [] [2] J D2 Z6 (jv.c · (dI hG (j:=0) J) s4 (rO r15 1) m15) (λv17 Z6=>?_));rintro _ _ ⟨a17,n17,eF,iU,n18,fe,kn,fq,ft,gp,rfl,rfl⟩;refine fz J (nc T J (λDH=>sg T 7 J (ro T 3 (mq Z6 [9,10,11,13,15,17] [0,0,4,0,3,1,1] (λE6 (dw:Bool)=>(dw=E6,[(108,(bb dw))],[])) J J (λE6 c_ _=>?_) ?_))))
  ·refine rc T 3 (lf T 7 J (ro T 1 (lf T 3 J (ro T 4 (ad 75 J c_ (λc_=>?_) (λc_=>?_))))))
   ·refine ro T 35 (am _ [0,0,4,0,3,1,1] (oi c_) J J)
   refine ro T 2 (lf T 7 J (ro T 1 (lf T 3 J (ro T 5 (ad 85 J c_ (λc_=>?_) (λc_=>?_))))))
   ·refine ro T 25 (am _ [0,0,4,0,3,1,1] (oi c_) J J)
   refine ro T 2 (lf T 7 J (ro T 2 (lf T 7 J (ro T 2 (lf T 3 J (ro T 1 (lf T 3 J (ro T 6 (ad 102 J c_ (λc_=>?_) (λc_=>?_))))))))))
   ·refine ro T 8 (am _ [0,0,4,0,3,1,1] (oi c_) J J)
   refine lm T 3 J (ro T 1 (lm T 7 J (k [] J adO c_ (pP.c ·) (λv20 c_=>ro T 4 (am _ [0,0,4,0,3,1,1] (oi c_) J J)))))
  rintro _ dw rfl Z6;refine cb J Z6 (λZ6=>?_) (λZ6=>?_)
  ·refine rc T 12 ?_
   cases Z6;exact p0 T J [0] J
  refine rc T 3 (mq Z6 [9,10,11,15,17] [0,0,0,1,1,1] (λz22 (dM:Bool)=>(dM=z22,[(125,(bb dM))],[])) J J (λz22 kT _=>?_) ?_)
  ·refine rc T 3 ?_;obtain⟨DL,kT⟩:=aA kT;obtain⟨CX,Vs,Av⟩:=s1.r.addr DL.1 DL.2;refine ix T J Av DL (ro T 1 ?_);obtain⟨_,w23,⟨a22,n22,⟨r22,m22⟩,rfl⟩⟩:=mo.view s1.r DL;refine lg T J (zb (j:=1) J w23 Av 0 J) (ro T 2 (ab 115 J kT (λkT=>?_) (λkT=>?_)))
   ·refine ro T 12 (am _ [0,0,0,1,1,1] (oi kT) J J)
   refine ro T 1 (lf T 4 J (ro T 4 (go T [13,14,15,16] 121 [9,10,11,15,17] 125 J J J J J J J (ro T 2 (am _ [0,0,0,1,1,1] (oi kT) J J)))))
  rintro _ dM rfl Z6;refine cb J Z6 (λZ6=>?_) (λZ6=>?_)
  ·refine rc T 10 (ar (_,_,_) [0,0,0] ⟨Z6,gp⟩ J J)
  refine rc T 6 (kr (jv.R el b2) [] [2] J D2 Z6 (jv.c (o:=(cS.mk 7 0 0 [])) · (dI hG (j:=0) J) gp (.inl J) (Nat.le_refl _)) (λv23 Z6=>?_));rintro _ _ ⟨a24,n24,qx,a25,n25,gS,oo,lO,jt,mF,rfl,rfl⟩;refine fz J (nc T J (λlG=>sg T 8 J (ro T 2 (mq Z6 [9,10,11] [0,0,5] (λz25 (mi:Bool)=>(mi=z25,[(161,(bb mi))],[])) J J (λz25 oV _=>?_) ?_))))
  ·refine rc T 3 (lf T 8 J (ro T 2 (lf T 2 J (ro T 2 (ab 136 J oV (λoV=>?_) (λoV=>?_))))))
   ·refine ro T 27 (am _ [0,0,5] (oi oV) J J)
   refine ro T 2 (lf T 8 J (ro T 2 (lf T 2 J (ro T 3 (ab 145 J oV (λoV=>?_) (λoV=>?_))))))
   ·refine ro T 18 (am _ [0,0,5] (oi oV) J J)
   refine ro T 2 (lf T 8 J (ro T 2 (lf T 2 J (ro T 5 (ab 156 J oV (λoV=>?_) (λoV=>?_))))))
   ·refine ro T 7 (am _ [0,0,5] (oi oV) J J)
   refine ro T 1 (lf T 8 J (ro T 5 (am _ [0,0,5] (oi oV) J J)))
  rintro _ mi rfl Z6;refine cb J Z6 (λZ6=>?_) (λZ6=>?_)
  ·refine rc T 11 ?_
   cases Z6;exact p0 T J [0] J
  refine rc T 9 (ar (_,_,_) [0,0,0] ⟨Z6,mF⟩ J J)
 refine rc T 7 (k [] J acN Z6 (EW.c · (dI hG (j:=0) J)) (λv26 Z6=>ro T 4 ?_))
 cases Z6;exact p0 T J [0] J
def ni.Pure:Prop:= ∀(w:Int) (h:Int) (p2:(List Int)) (l:(List sL)),xi w->xi h->(∀y∈p2,eU y)->(∀y∈l,(xi y.Kind/\xi y.A/\xi y.B))->List.length p2<=9223372036854775807->List.length l<=9223372036854775807->ni.f w h p2 l=some true
end
end Go.Proofs.YthodkonhneebbaaGreatDoor
