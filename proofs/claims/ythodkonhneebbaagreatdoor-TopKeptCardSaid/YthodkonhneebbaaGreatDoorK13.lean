/- What the functions of some packages compute, each as a function of plain Lean, with its contract. No condition. -/
import Derived.Test.YthodkonhneebbaaGreatDoorKT
import Derived.Test.YthodkonhneebbaaGreatDoorK6
import Derived.Test.YthodkonhneebbaaGreatDoorK7
import Derived.Test.YthodkonhneebbaaGreatDoorK12
import Derived.Test.YthodkonhneebbaaGreatDoorK5
namespace Go.Proofs.YthodkonhneebbaaGreatDoor
open Go.Hx
set_option maxRecDepth 100000
set_option linter.unusedSimpArgs false
set_option linter.unusedVariables false
set_option maxHeartbeats 4000000
set_option autoImplicit true
set_option relaxedAutoImplicit true
noncomputable section
def tm.f (ag:Int) (most:Int):Option (Option bJ):=if(((decide (ag<1))||(decide (most<1)))||(decide (most>65536)))=true then(some none) else((xq.f ag).bind λv1=>c_ v1 (none) (λeW=>some (some (bJ.mk most eW none))))
def tm.R (r:(Option bJ)) (u:Value) (G:List Hp):Prop:= ∃(u0:Value) (G0:List Hp),Xz r u0 G0/\u=u0/\G=G0
theorem tm.c (H:tm.f ag most=some r):
 QR 21 [(ii ag),(ii most)] [] [] F (tm.R r):=by
 unfold tm.f at H;refine aB Tryz.func21 J J (λW=>rc T 11 (go T [3,4,5] 7 [0,1] 10 J J J J J J J (ro T 1 (go T [7,8,9] 11 [0,1] 14 J J J J J J J (ro T 2 (cb J H (λH=>?_) (λH=>?_)))))))
 ·refine rc T 7 ?_
  cases H;exact p1 T J [0] ⟨_,_,⟨J,J⟩,J,J⟩ J
 refine rc T 6 (kr xq.R [] [] J adz H (xq.c ·) (λv1 H=>?_));rintro _ _ ⟨_,_,O3,rfl,rfl⟩;rcases v1 with _ |eW
 ·replace H:=eJ J H
  cases H
 replace H:=eK J H;obtain⟨b1,H1,s1,rfl,rfl⟩:=O3;refine ro T 1 (nc T J (λb2=>fz J (ro T 4 ?_)))
 cases H;refine aq J (gq [2,1,1] J (p1 T J [1,0] ⟨_,_,⟨b2,(List.flatten [(cl b2 103 [(ii most),(pp b1),(.pointer none)]),H1,[]]),(show fG (bJ.mk most eW none) b2 (List.flatten [(cl b2 103 [(ii most),(pp b1),(.pointer none)]),H1,[]]) from⟨b1,H1,(.pointer none),[],s1,(show Bj none (.pointer none) [] from⟨J,J⟩),J⟩),J,J⟩,J,J⟩ J))
def ur.f (s:bJ) (o:dn):Option Er:=if(o.Kind==3)=true then((sP.f s.nav o.B).bind λv1=>if(v1==0)=true then(some (Er.num 148 7)) else((sP.f s.nav o.A).bind λv2=>if(v2==0)=true then(some (Er.num 148 7)) else(some Er.nil))) else(if(o.Kind==2)=true then((sP.f s.nav o.A).bind λv3=>if(v3==0)=true then(some (Er.num 148 7)) else(some Er.nil)) else(some Er.nil))
def ur.R (el:Nat->Addr) (r:Er) (u:Value) (G:List Hp):Prop:= ∃(v0:Value) (H0:Hp),fU 414 el r v0 H0/\u=v0/\G=[H0]
theorem ur.c (H:ur.f s o=some r) (hG:fK 414 eZ hU el F) (cF:fG s bd dr) (Ac:aS (Fl.int .u8) o.Map Bs F) (zV:List.length o.Map<=Cl):
 QR 83 [(pp bd),(.agg #[(ii o.Kind),(ii o.A),(ii o.B),(ll Bs o.Map Cl)])] [dr] [dr] F (ur.R el r):=by
 unfold ur.f at H;refine aB Tryz.func83 J J (λW=>rc T 2 (nc T J (λb2=>fz J (ro T 7 (lf T 2 J (ro T 15 (cb J H (λH=>?_) (λH=>?_))))))))
 ·refine rc T 6 ?_;obtain⟨b4,H4,xW,H5,s4,s5,dp⟩:=(λx=>x) cF;refine bz 0 (congrArg some dp) (fz J (dj mix ay (au T J (au T J (au T J (aN J J J (aw T J J J J (aD (j:=2) J J)) (au T J (aN J J J (aw T J J J J (aD (j:=1) J J)) ?_))))))));obtain⟨v1,V2,H⟩:=fY H;refine wC [3] J J J J J J Jk J (sP.c V2 s4) (au T J (cR (rx T 1 (cb J H (λH=>?_) (λH=>?_)))))
  ·refine rc T 2 (bp J (g_ T J J J J) (ro T 8 ?_))
   cases H;refine cq [2,2,2] J dp (aq J (p1 T J [3,2,0] ⟨(.iface 148 (ii 7)),[],rp,J,J⟩ J))
  refine rc T 5 (dj mix ay (au T J (au T J (au T J (aN J J J (aw T J J J J (aD (j:=2) J J)) (au T J (aN J J J (aw T J J J J (aD (j:=1) J J)) ?_)))))));obtain⟨v2,V4,H⟩:=fY H;refine wC [3] J J J J J J Jk J (sP.c V4 s4) (au T J (cR (rx T 1 (cb J H (λH=>?_) (λH=>?_)))))
  ·refine rc T 2 (bp J (g_ T J J J J) (ro T 7 ?_))
   cases H;refine cq [2,2,2] J dp (aq J (p1 T J [3,2,0] ⟨(.iface 148 (ii 7)),[],rp,J,J⟩ J))
  refine rc T 11 ?_
  cases H;refine cq [2,2,2] J dp (aq J (p1 T J [3,2,0] ⟨.nilIface,[],tK,J,J⟩ J))
 refine rc T 8 (cb J H (λH=>?_) (λH=>?_))
 ·refine rc T 8 ?_;obtain⟨fL,bV,K0,cA,bS,cS,FG⟩:=(λx=>x) cF;refine bz 0 (congrArg some FG) (fz J (dj mix ay (au T J (au T J (au T J (aN J J J (aw T J J J J (aD (j:=2) J J)) (au T J (aN J J J (aw T J J J J (aD (j:=1) J J)) ?_))))))));obtain⟨v3,V7,H⟩:=fY H;refine wC [3] J J J J J J Jk J (sP.c V7 bS) (au T J (cR (rx T 1 (cb J H (λH=>?_) (λH=>?_)))))
  ·refine rc T 2 (bp J (g_ T J J J J) (ro T 7 ?_))
   cases H;refine cq [2,2,2] J FG (aq J (p1 T J [3,2,0] ⟨(.iface 148 (ii 7)),[],rp,J,J⟩ J))
  refine rc T 11 ?_
  cases H;refine cq [2,2,2] J FG (aq J (p1 T J [3,2,0] ⟨.nilIface,[],tK,J,J⟩ J))
 refine rc T 15 ?_
 cases H;refine aq J (p1 T J [3,0,0] ⟨.nilIface,[],tK,J,J⟩ J)
def fE.f (code:Int):Option Er:=if(code==0)=true then(some Er.nil) else(some (Er.num 148 code))
def fE.R (el:Nat->Addr) (r:Er) (u:Value) (G:List Hp):Prop:= ∃(v0:Value) (H0:Hp),fU 414 el r v0 H0/\u=v0/\G=[H0]
theorem fE.c (H:fE.f code=some r) (hG:fK 414 eZ hU el F):
 QR 88 [(ii code)] [] [] F (fE.R el r):=by
 unfold fE.f at H;refine aB Tryz.func88 J J (λW=>rc T 12 (cb J H (λH=>?_) (λH=>?_)))
 ·refine rc T 7 ?_
  cases H;refine aq J (p1 T J [1,0] ⟨.nilIface,[],tK,J,J⟩ J)
 refine rc T 5 (bp J (g_ T J J J J) (ro T 4 ?_))
 cases H;refine aq J (p1 T J [1,0] ⟨(.iface 148 (ii code)),[],rp,J,J⟩ J)
def xJ.f (s:bJ) (b:(List Int)):Option (Er×bJ):=(wB.f b).bind λv1=>if(v1.2 !=0)=true then(some ((Er.num 148 6),s)) else((xo.f s.nav v1.1).bind λv2=>if(v2.1==0)=true then((uS.f v1.1.W v1.1.H s.most).bind λv3=>c_ v3 (none) (λzH=>(fE.f v2.1).bind λv4=>some (v4,(bJ.mk s.most v2.2 (some zH))))) else((fE.f v2.1).bind λv5=>some (v5,(bJ.mk s.most v2.2 s.eY))))
def xJ.R (el:Nat->Addr) (nf:Nat) (r:(Er×bJ)) (u:Value) (G:List Hp):Prop:= ∃(v0:Value) (H0:Hp) (H1:Hp),fU 414 el r.1 v0 H0/\fG r.2 nf H1/\u=v0/\G=[H0,H1]
theorem xJ.c (H:xJ.f s b=some r) (hG:fK 414 eZ hU el F) (cF:fG s bd dr) (hJ:aS (Fl.int .u8) b jV F) (gm:List.length b<=jK):
 QR 84 [(pp bd),(ll jV b jK)] [dr] [] F (xJ.R el bd r):=by
 unfold xJ.f at H;refine aB Tryz.func84 J J (λW=>rc T 8 (kr (wB.R el) [] [] J abQ H (wB.c · (dB hG (j:=1) J) (rO hJ 1) gm) (λv1 H=>?_)));rintro _ _ ⟨a2,n2,H2,s2,rfl,rfl⟩;refine fz J (ro T 3 (nc T J (λb3=>fz J (jP T 3 J (ro T 10 (cb J H (λH=>?_) (λH=>?_)))))))
 ·refine rc T 2 (bp J (g_ T J J J J) (ro T 5 ?_))
  cases H;refine aq J (p1 T J [4,0,0] ⟨(.iface 148 (ii 6)),[],dr,rp,cF,J,J⟩ J)
 refine rc T 4 ?_;obtain⟨b6,H6,wa,H7,s6,s7,rA⟩:=(λx=>x) cF;refine bz 0 (congrArg some rA) (fz J (ks [0,5] J (fz J (rz [5] mix (bO bN) (λhg pf=>ha T 4 [0,1,2] sz hg pf J (av 3 sz hg pf J (aw T J J J J (aD (j:=3) J J)) (av 4 sz hg pf J (gA T 2 J J J J J J J) (ao 5 (kR (xo.R b6) [] [4] J abR H (xo.c · s6 (oO s2 1) s2.bW) (λv2 H=>?_))))))))));rintro _ _ ⟨H8,s8,rfl,rfl⟩;refine fz J (an sl (hb T 6 sl hg pf J (ae (rx T 7 (cb J H (λH=>?_) (λH=>?_))))))
 ·refine ks [0,5,6] J (fz J (rq [12] [0,0,0,0,0,0] J mix (bO bN) (λhg pf=>ha T 11 [0,1] sz hg pf J (av 2 sz hg pf J (aw T J J J J (aD (j:=2) J J)) (ha T 9 [3] sz hg pf J (av 4 sz hg pf J (aw T J J J J (aD (j:=2) J J)) (ha T 5 [5,6,7] sz hg pf J (av 8 sz hg pf J (aw T J J J J (aD (j:=3) J J)) (ao 9 (kR uS.R [] [] J abS H (uS.c ·) (λv3 H=>?_)))))))))));rintro _ _ ⟨_,_,O6,rfl,rfl⟩;rcases v3 with _ |zH
  ·replace H:=eJ J H
   cases H
  replace H:=eK J H;obtain⟨b9,H9,s9,rfl,rfl⟩:=O6;refine an (so [0,0,0,0,0,0]) (ha T 1 [10,11] (so [0,0,0,0,0,0]) hg pf J (ao 12 (iT T 3 J (an sl (ae (rx T 4 (kr (fE.R el) [] [] J u_ H (fE.c · (dB hG (j:=0) J)) (λv4 H=>?_))))))));rintro v10 _ ⟨v10,bV,bS,rfl,rfl⟩;refine fz J (ro T 4 ?_)
  cases H;refine gq [6] J (gq [3,4,5] J (p1 T J [4,4,0] ⟨v10,bV,(List.flatten [(cl bd 103 [(ii s.most),(pp b6),(pp b9)]),H8,(List.flatten [H9])]),bS,(show fG (bJ.mk s.most v2.2 (some zH)) bd (List.flatten [(cl bd 103 [(ii s.most),(pp b6),(pp b9)]),H8,(List.flatten [H9])]) from⟨b6,H8,(pp b9),(List.flatten [H9]),s8,(show Bj (some zH) (pp b9) (List.flatten [H9]) from⟨b9,H9,s9,J,J⟩),J⟩),J,J⟩ J))
 refine rc T 5 (kr (fE.R el) [] [] J u_ H (fE.c · (dB hG (j:=0) J)) (λv5 H=>?_));rintro v12 _ ⟨v12,dw,dD,rfl,rfl⟩;refine fz J (ro T 4 ?_)
 cases H;refine gq [3,4,3] J (p1 T J [3,3,0] ⟨v12,dw,(List.flatten [(cl bd 103 [(ii s.most),(pp b6),wa]),H8,H7]),dD,(show fG (bJ.mk s.most v2.2 s.eY) bd (List.flatten [(cl bd 103 [(ii s.most),(pp b6),wa]),H8,H7]) from⟨b6,H8,wa,H7,s8,s7,J⟩),J,J⟩ J)
def xI.f (s:bJ) (cell:Int) (cost:Int):Option (Er×bJ):=if((decide (cost<1))||(decide (cost>255)))=true then(some ((Er.num 148 8),s)) else((c_ s.eY (none) (λx3=>if(cost==255)=true then((z7.f x3 cell).bind λv4=>some (decide (v4≥0))) else(some false))).bind λx1=>if x1=true then(some ((Er.num 148 10),s)) else((xk.f s.nav cell cost).bind λv5=>(fE.f v5.1).bind λv6=>some (v6,(bJ.mk s.most v5.2 s.eY))))
def xI.R (el:Nat->Addr) (nf:Nat) (r:(Er×bJ)) (u:Value) (G:List Hp):Prop:= ∃(v0:Value) (H0:Hp) (H1:Hp),fU 414 el r.1 v0 H0/\fG r.2 nf H1/\u=v0/\G=[H0,H1]
theorem xI.c (H:xI.f s cell cost=some r) (hG:fK 414 eZ hU el F) (cF:fG s bd dr):
 QR 86 [(pp bd),(ii cell),(ii cost)] [dr] [] F (xI.R el bd r):=by
 unfold xI.f at H;refine aB Tryz.func86 J J (λW=>rc T 12 (go T [3,4,5] 10 [0,1,2] 13 J J J J J J J (ro T 3 (cb J H (λH=>?_) (λH=>?_)))))
 ·refine rc T 2 (bp J (g_ T J J J J) (ro T 6 ?_))
  cases H;refine aq J (p1 T J [2,0,0] ⟨(.iface 148 (ii 8)),[],dr,rp,cF,J,J⟩ J)
 refine mq H [0,1,2] [1,0] (λz2 (x1:Bool)=>(x1=z2,[(15,(bb x1))],[])) J J (λz2 Z2 _=>?_) ?_
 ·obtain⟨b4,H4,xW,H5,s4,s5,dp⟩:=(λx=>x) cF;refine bz 0 (congrArg some dp) (fz J ?_);rcases q3:s.eY with _ |x3
  ·replace Z2:=eJ q3 Z2
   cases Z2
  replace Z2:=eK q3 Z2;rw[q3] at s5;obtain⟨b7,H7,s7,rfl,oa⟩:=s5;refine bz 3 (congrArg some oa) (fz J (rc T 4 (ab 18 J Z2 (λZ2=>?_) (λZ2=>?_))))
  ·refine ro T 3 (lf T 1 J (ro T 1 (k [3] J abT Z2 (z7.c · s7) (λv4 Z2=>ro T 5 (cq [3] J oa (cq [1,1,1] J dp (am _ [0,0] (oi Z2) J J)))))))
  refine ro T 11 (cq [3] J oa (cq [1,1,1] J dp (am _ [0,0] (oi Z2) J J)))
 rintro _ x1 rfl H;refine cb J H (λH=>?_) (λH=>?_)
 ·refine rc T 2 (bp J (g_ T J J J J) (ro T 6 ?_))
  cases H;refine aq J (p1 T J [2,1,0] ⟨(.iface 148 (ii 10)),[],dr,rp,cF,J,J⟩ J)
 refine rc T 4 ?_;obtain⟨fL,bV,K0,cA,bS,cS,FG⟩:=(λx=>x) cF;refine bz 1 (congrArg some FG) (fz J (rc T 4 (lf T 1 J (ro T 2 (kr (xk.R fL) [] [2] J abU H (xk.c · bS) (λv5 H=>?_))))));rintro _ _ ⟨dw,dD,rfl,rfl⟩;refine fz J (kr (fE.R el) [] [] J u_ H (fE.c · (dB hG (j:=0) J)) (λv6 H=>?_));rintro gT _ ⟨gT,eo,dh,rfl,rfl⟩;refine fz J (ro T 4 ?_)
 cases H;refine gq [1,2,1] J (p1 T J [1,1,0] ⟨gT,eo,(List.flatten [(cl bd 103 [(ii s.most),(pp fL),K0]),dw,cA]),dh,(show fG (bJ.mk s.most v5.2 s.eY) bd (List.flatten [(cl bd 103 [(ii s.most),(pp fL),K0]),dw,cA]) from⟨fL,dw,K0,cA,dD,cS,J⟩),J,J⟩ J)
def xL.f (s:bJ) (cell:Int) (goal:Int):Option (Int×Er×bJ):=(sP.f s.nav cell).bind λv1=>if(v1==255)=true then(some ((-1),(Er.num 148 9),s)) else(c_ s.eY (none) (λx2=>(wJ.f x2 cell goal).bind λv3=>(fE.f v3.2.1).bind λv4=>some (v3.1,v4,(bJ.mk s.most s.nav (some v3.2.2)))))
def xL.R (el:Nat->Addr) (nf:Nat) (r:(Int×Er×bJ)) (u:Value) (G:List Hp):Prop:= ∃(v0:Value) (H0:Hp) (H1:Hp),fU 414 el r.2.1 v0 H0/\fG r.2.2 nf H1/\u=(.tuple #[(ii r.1),v0])/\G=[H0,H1]
theorem xL.c (H:xL.f s cell goal=some r) (hG:fK 414 eZ hU el F) (cF:fG s bd dr):
 QR 87 [(pp bd),(ii cell),(ii goal)] [dr] [] F (xL.R el bd r):=by
 unfold xL.f at H;refine aB Tryz.func87 J J (λW=>rc T 8 ?_);obtain⟨b3,H3,p_,H4,s3,s4,bT⟩:=(λx=>x) cF;refine bz 0 (congrArg some bT) (fz J (rc T 4 (lf T 1 J (ro T 1 (k [2] J Jk H (sP.c · s3) (λv1 H=>ro T 3 (cb J H (λH=>?_) (λH=>?_))))))))
 ·refine rc T 2 (bp J (g_ T J J J J) (ro T 6 ?_))
  cases H;refine cq [1,1,1] J bT (aq J (p1 T J [2,1,0] ⟨(.iface 148 (ii 9)),[],dr,rp,cF,J,J⟩ J))
 refine rc T 3 ?_;rcases q3:s.eY with _ |x2
 ·replace H:=eJ q3 H
  cases H
 replace H:=eK q3 H;rw[q3] at s4;obtain⟨b7,H7,s7,rfl,oa⟩:=s4;refine bz 3 (congrArg some oa) (fz J (rc T 4 (lf T 1 J (ro T 2 (kr (wJ.R b7) [] [3] J abV H (wJ.c · s7) (λv3 H=>?_))))));rintro _ _ ⟨H8,s8,rfl,rfl⟩;refine fz J (ro T 11 (kr (fE.R el) [] [] J u_ H (fE.c · (dB hG (j:=0) J)) (λv4 H=>?_)));rintro v9 _ ⟨v9,H9,s9,rfl,rfl⟩;refine fz J (ro T 5 ?_)
 cases H;refine gq [3] J (gq [1,1,2] J (p1 T J [1,1,0] ⟨v9,H9,(List.flatten [(cl bd 103 [(ii s.most),(pp b3),(pp b7)]),H3,(List.flatten [H8])]),s9,(show fG (bJ.mk s.most s.nav (some v3.2.2)) bd (List.flatten [(cl bd 103 [(ii s.most),(pp b3),(pp b7)]),H3,(List.flatten [H8])]) from⟨b3,H3,(pp b7),(List.flatten [H8]),s3,(show Bj (some v3.2.2) (pp b7) (List.flatten [H8]) from⟨b7,H8,s8,J,J⟩),J⟩),J,J⟩ J))
def xK.f (s:bJ) (a:iZ) (goal:Int) (cell:Int):Option (Er×bJ×iZ):=(xp.f s.nav goal cell).bind λv1=>if(v1.2.2.1==0)=true then((fE.f v1.2.2.1).bind λv2=>some (v2,(bJ.mk s.most v1.2.2.2 s.eY),(iZ.mk a.Code v1.1 v1.2.1 a.Id a.fi a.ik a.Stats))) else((fE.f v1.2.2.1).bind λv3=>some (v3,(bJ.mk s.most v1.2.2.2 s.eY),a))
def xK.R (el:Nat->Addr) (nf:Nat) (oH:Nat) (r:(Er×bJ×iZ)) (u:Value) (G:List Hp):Prop:= ∃(v0:Value) (H0:Hp) (H1:Hp) (a2:Option Addr) (n2:Nat) (H2:Hp) (a3:Option Addr) (n3:Nat) (H3:Hp),fU 414 el r.1 v0 H0/\fG r.2.1 nf H1/\aj jy 94 r.2.2.fi a2 n2 H2/\aj (Fl.int .i64) 3 r.2.2.ik a3 n3 H3/\u=v0/\G=[H0,H1,(cl oH 52 [(ii r.2.2.Code),(ii r.2.2.D),(ii r.2.2.cz),(ii r.2.2.Id),(ll a2 r.2.2.fi n2),(ll a3 r.2.2.ik n3),(uu r.2.2.Stats.bC),(uu r.2.2.Stats.bD),(uu r.2.2.Stats.bA),(uu r.2.2.Stats.bx),(uu r.2.2.Stats.bM),(uu r.2.2.Stats.bE)]),H2,H3]
theorem xK.c (H:xK.f s a goal cell=some r) (hG:fK 414 eZ hU el F) (cF:fG s bd dr) (nI:aj jy 94 a.fi uH vv uA) (nG:aj (Fl.int .i64) 3 a.ik uG vu uz):
 QR 91 [(pp bd),(pp oH),(ii goal),(ii cell)] [dr,(cl oH 52 [(ii a.Code),(ii a.D),(ii a.cz),(ii a.Id),(ll uH a.fi vv),(ll uG a.ik vu),(uu a.Stats.bC),(uu a.Stats.bD),(uu a.Stats.bA),(uu a.Stats.bx),(uu a.Stats.bM),(uu a.Stats.bE)]),uA,uz] [] F (xK.R el bd oH r):=by
 unfold xK.f at H;refine aB Tryz.func91 J J (λW=>rc T 6 ?_);obtain⟨b6,H6,wa,H7,s6,s7,rA⟩:=(λx=>x) cF;refine bz 0 (congrArg some rA) (fz J (rc T 4 (lf T 4 J (ro T 2 (kr (xp.R el b6) [] [5] J abX H (xp.c · (dB hG (j:=3) J) s6) (λv1 H=>?_))))));rintro _ _ ⟨H8,s8,rfl,rfl⟩;refine fz J (ro T 16 (cb J H (λH=>?_) (λH=>?_)))
 ·refine rc T 7 (jP T 0 J (ro T 2 (jP T 0 J (ro T 5 (kr (fE.R el) [] [] J u_ H (fE.c · (dB hG (j:=3) J)) (λv2 H=>?_))))));rintro v9 _ ⟨v9,H9,s9,rfl,rfl⟩;refine fz J (ro T 2 (ks [8] J (rx T 2 ?_)))
  cases H;refine gq [4,5,4] J (p1 T J [4,4,0,0,0,0] ⟨v9,H9,(List.flatten [(cl bd 103 [(ii s.most),(pp b6),wa]),H8,H7]),uH,vv,uA,uG,vu,uz,s9,(show fG (bJ.mk s.most v1.2.2.2 s.eY) bd (List.flatten [(cl bd 103 [(ii s.most),(pp b6),wa]),H8,H7]) from⟨b6,H8,wa,H7,s8,s7,J⟩),nI,nG,J,J⟩ J)
 refine rc T 5 (kr (fE.R el) [] [] J u_ H (fE.c · (dB hG (j:=3) J)) (λv3 H=>?_));rintro v10 _ ⟨v10,bV,bS,rfl,rfl⟩;refine fz J (ro T 4 ?_)
 cases H;refine gq [4,5,4] J (p1 T J [4,4,0,0,0,0] ⟨v10,bV,(List.flatten [(cl bd 103 [(ii s.most),(pp b6),wa]),H8,H7]),uH,vv,uA,uG,vu,uz,bS,(show fG (bJ.mk s.most v1.2.2.2 s.eY) bd (List.flatten [(cl bd 103 [(ii s.most),(pp b6),wa]),H8,H7]) from⟨b6,H8,wa,H7,s8,s7,J⟩),nI,nG,J,J⟩ J)
def eD.l3:Nat->bJ->(List aF)->bY->(List (Int×Int))->List Int->Int->Option ((List Int)×Er×bJ)
 |0,_,_,_,_,_,_=>none
 |J2+1,s,l,bq,aT,nQ,rU=>if rU<(List.length l:Int) then(if(0<=rU/\rU<(List.length l:Int)) then(if(List.length nQ+1<=1099511627776) then(eD.l3 J2 s l bq aT (nQ++[(aO aT ((rd l rU).Id))]) (aa (rU+1))) else none) else none) else(some (nQ,Er.nil,(bJ.mk s.most bq s.eY)))
def eD.l2:Nat->(List (Int×Int))->Int->(List cg)->bY->List Int->(List (Int×Int))->Int->Option (Sum ((List Int)×Er×bJ) (bY×(List (Int×Int))))
 |0,_,_,_,_,_,_,_=>none
 |J1+1,x4,bc,v8,b_,ei,mN,iV=>if iV<(List.length ((rd v8 bc).cW):Int) then(if(0<=iV/\iV<(List.length ((rd v8 bc).cW):Int)) then(if(0<=(aO x4 (rd ((rd v8 bc).cW) iV))/\(aO x4 (rd ((rd v8 bc).cW) iV))<(List.length ei:Int)) then(eD.l2 J1 x4 bc v8 b_ ei (cC mN (rd ((rd v8 bc).cW) iV) (rd ei (aO x4 (rd ((rd v8 bc).cW) iV)))) (aa (iV+1))) else none) else none) else(some (Sum.inr (b_,mN)))
def eD.l1:Nat->bJ->(List aF)->(List (Int×Int))->(List cg)->bY->(List (Int×Int))->Int->Option ((List Int)×Er×bJ)
 |0,_,_,_,_,_,_,_=>none
 |lC+1,s,l,x4,v8,bq,aT,bc=>if bc<(List.length v8:Int) then((if(0<=bc/\bc<(List.length v8:Int)) then(((ue.f bq ((rd v8 bc).Goal) ((rd v8 bc).eT)).bind λv24=>some (v24.2.2,v24.1.fa,v24.1.cz,v24.2.1)).bind λ(b_,lh,ei,bR)=>if(bR !=0)=true then(some (Sum.inl ([],(Er.num 148 bR),(bJ.mk s.most b_ s.eY)))) else(eD.l2 fuel x4 bc v8 b_ ei aT 0)) else none).bind λzz=>match zz with |Sum.inl q=>some q |Sum.inr (dm,db)=>eD.l1 lC s l x4 v8 dm db (aa (bc+1))) else(eD.l3 fuel s l bq aT [] 0)
def eD.l0:Nat->bJ->(List aF)->(Int×Int)->(List (Int×Int))->Int->Option ((List Int)×Er×bJ)
 |0,_,_,_,_,_=>none
 |k6+1,s,l,v1,x4,x5=>if x5<(List.length l:Int) then(if(0<=x5/\x5<(List.length l:Int)) then((qR.f v1.1 v1.2 ((rd l x5).Cell)).bind λv7=>eD.l0 k6 s l v1 (cC x4 ((rd l x5).Id) v7) (aa (x5+1))) else none) else((j3.f v1.1 v1.2 l).bind λv8=>eD.l1 fuel s l x4 v8 s.nav ([]:(List (Int×Int))) 0)
def eD.f (s:bJ) (l:(List aF)):Option ((List Int)×Er×bJ):=(yZ.f s.nav).bind λv1=>eD.l0 fuel s l v1 ([]:(List (Int×Int))) 0
def eD.R (el:Nat->Addr) (nf:Nat) (r:((List Int)×Er×bJ)) (u:Value) (G:List Hp):Prop:= ∃(a0:Option Addr) (n0:Nat) (H0:Hp) (v1:Value) (H1:Hp) (H2:Hp),aj (Fl.int .i64) 3 r.1 a0 n0 H0/\fU 414 el r.2.1 v1 H1/\fG r.2.2 nf H2/\u=(.tuple #[(ll a0 r.1 n0),v1])/\G=[H0,H1,H2]
theorem eD.c (H:eD.f s l=some r) (hG:fK 414 eZ hU el F) (cF:fG s bd dr) (dg:aS lD l iu F) (gn:List.length l<=ic):
 QR 128 [(pp bd),(ll iu l ic)] [dr] [] F (eD.R el bd r):=by
 unfold eD.f at H;refine aB Tryz.func128 J J (λW=>rc T 7 ?_);obtain⟨b3,H3,p_,H4,s3,s4,bT⟩:=(λx=>x) cF;refine bz 0 (congrArg some bT) (fz J (rc T 4 (lf T 1 J (k [2] J Sv H (yZ.c · s3) (λv1 H=>ro T 9 (aW (uJ T (Ky.int .i64 u3) (λx:Int=>Value.int .i64 x) J J J trivial (λa5 H5 s5=>ro T 12 (lq [0,1,6,7,30,31] [0,0,1,0] (λ(⟨k6,x4,x5,a7,H7⟩:Nat×(List (Int×Int))×Int×Nat×Hp)=>(eD.l0 k6 s l v1 x4 x5=some r/\cP (Ky.int .i64 u3) (λx:Int=>Value.int .i64 x) x4 a7 H7,[(8,(.map (some a7))),(32,(ii x5))],[H7])) J J (fuel,([]:(List (Int×Int))),0,a5,H5) [0,0,1,0,0] ⟨H,s5⟩ J J ?_)))))))));rintro k6 ⟨x4,x5,a7,H7⟩ ⟨Z2,s7⟩;rw[eD.l0] at Z2;refine rc T 6 (cd J Z2 (λZ2=>?_) (λZ2=>?_))
 ·refine rc T 6 ?_;obtain⟨c4,Z2⟩:=az Z2;obtain⟨q8,o8,e8⟩:=dg.addr c4.1 c4.2;refine ix T J e8 c4 (bp J (fm T (cs:=[(ii (rd l x5).Id),(ii (rd l x5).Cell),(ii (rd l x5).Goal)]) J J J J J J (gB (k:=lD) (rO dg 0) e8 c4 J)) (nc T J (λb9=>fz J (jP T 5 J (ro T 2 (ks [0,1,6,7,8,10,30,31,32] J (fz J (rz [8] mix (bO bN) (λhg pf=>ha T 7 [0,1] sz hg pf J (av 2 sz hg pf J (aw T J J J J (aD (j:=5) J J)) (ha T 3 [3,4,5] sz hg pf J (av 6 sz hg pf J (aw T J J J J (aD (j:=5) J J)) (ao 7 (kh [] J FN Z2 (qR.c ·) (λv7 Z2=>an sz (ao 8 (pE (g:=4) (m:=x4) (k:=(rd l x5).Id) (v:=v7) T (Ky.int .i64 u3) (λx:Int=>Value.int .i64 x) J J J J J J J s7 (λbV bS=>an sl (ae (rx T 7 (ar (_,_,_,_) [0,0,0,0,0] ⟨Z2,bS⟩ J J)))))))))))))))))))))
 refine rc T 7 (aW (uJ T (Ky.int .i64 u3) (λx:Int=>Value.int .i64 x) J J J trivial (λdt cA cS=>ro T 9 (kr j3.R [] [] J adf Z2 (j3.c · (rO dg 0) gn) (λv8 Z2=>?_)))));rintro _ _ ⟨a12,n12,dw,dD,rfl,rfl⟩;refine fz J (ro T 5 (lq [0,1,8,49,50] [0,0,0,1,2] (λ(⟨lC,bq,aT,bc,dF,jU,fV⟩:Nat×bY×(List (Int×Int))×Int×Hp×Nat×Hp)=>(eD.l1 lC s l x4 v8 bq aT bc=some r/\gi bq b3 dF/\cP (Ky.int .i64 u3) (λx:Int=>Value.int .i64 x) aT jU fV,[(11,(.map (some jU))),(51,(ii bc))],[dF,fV])) J J (fuel,s.nav,([]:(List (Int×Int))),0,H3,dt,cA) [0,0,0,1,2,0,0] ⟨Z2,s3,cS⟩ J J ?_));rintro lC ⟨bq,aT,bc,dF,jU,fV⟩ ⟨Z7,dK,fP⟩;rw[eD.l1] at Z7;refine rc T 6 (cd J Z7 (λZ7=>?_) (λZ7=>?_))
 ·refine rc T 2 (mq Z7 [0,1,8,49,50,51] [0,0,0,0,0] (λPs (⟨dm,db,dV,iY,fb⟩:bY×(List (Int×Int))×Hp×Nat×Hp)=>((Sum.inr (dm,db))=Ps/\gi dm b3 dV/\cP (Ky.int .i64 u3) (λx:Int=>Value.int .i64 x) db iY fb,[(11,(.map (some iY)))],[dV,fb])) J J (λPs Z9 Z7=>?_) ?_)
  ·refine rc T 3 ?_;obtain⟨gk,Z9⟩:=az Z9;obtain⟨VC,UY,rn⟩:=dD.r.addr gk.1 gk.2;refine ix T J rn gk ?_;obtain⟨_,w21,⟨a20,n20,⟨VV,m20⟩,rfl⟩⟩:=ml.view dD.r gk;refine bp J (fm T (cs:=[(ii (rd v8 bc).Goal),(ii (rd v8 bc).eT),(ll a20 (rd v8 bc).cW n20)]) J J J J J J (NV (j:=4) J w21 rn 0 J)) (nc T J (λkJ=>fz J (jP T 7 J (ro T 2 (mq Z9 [0,1,8,11,13,49,50,51] [0,0,0,0,2,2,0] (λz23 (⟨b_,lh,ei,bR,jF,Fi,a25,n25,gV,a26,n26,oB⟩:bY×List Int×List Int×Int×Hp×Nat×Option Addr×Nat×Hp×Option Addr×Nat×Hp)=>((b_,lh,ei,bR)=z23/\gi b_ b3 jF/\aj (Fl.int .i64) 3 lh a25 n25 gV/\aj (Fl.int .i64) 3 ei a26 n26 oB,[(14,(pp Fi)),(15,(ii bR))],[jF,(cl Fi 79 [(ll a25 lh n25),(ll a26 ei n26)]),gV,oB])) J J (λz23 ba _=>?_) ?_)))))
   ·refine ks [0,1,8,11,13,49,50,51] J (fz J (rz [8] mix (bO bN) (λhg pf=>ha T 12 [0,1,2] sz hg pf J (av 3 sz hg pf J (aw T J J J J (aD (j:=1) J J)) (ha T 10 [4] sz hg pf J (av 5 sz hg pf J (aw T J J J J (aD (j:=7) J J)) (ha T 8 [6] sz hg pf J (av 7 sz hg pf J (aw T J J J J (aD (j:=7) J J)) (gw 8 12 ?_ ?_)))))))))
    ·refine kR (ue.R el b3) [] [5] J S4 ba (ue.c · (dB hG (j:=0) J) dK) (λv24 ba=>?_);rintro _ _ ⟨Iv,n27,EM,a28,n28,ux,qY,vK,j4,qI,rfl,rfl⟩;refine fz J (an sl (hb T 9 sl hg pf J (hb T 10 sl hg pf J (hb T 11 sl hg pf J (ao 12 (nw T J (λb30=>fz J (an sl (ao 13 (iT T 10 J (an sl (hb T 14 sl hg pf J (ae (rx T 1 (am (_,_,_,_,_,_,_,_,_,_,_,_) [0,0,0,0,1,1,0,2,2,0,0] ⟨oi ba,qI,vK,j4⟩ J J)))))))))))))))
    refine nw T J (λZn=>fz J (an (so [0,0,0,0,0,0,0,0]) (ao 8 (kR (ue.R el b3) [] [5] J S4 ba (ue.c · (dB hG (j:=0) J) dK) (λv25 ba=>?_)))));rintro _ _ ⟨a32,n32,Ig,a33,n33,Ih,uy,zj,vL,xB,rfl,rfl⟩;refine fz J (an sl (hb T 9 sl hg pf J (hb T 10 sl hg pf J (hb T 11 sl hg pf J (ao 13 (iT T 7 J (an sl (hb T 14 sl hg pf J (ae (rx T 1 (am (_,_,_,_,_,_,_,_,_,_,_,_) [0,0,0,0,1,1,0,3,0,0,0] ⟨oi ba,xB,zj,vL⟩ J J)))))))))))
   rintro _ ⟨b_,lh,ei,bR,jF,Fi,a25,n25,gV,a26,n26,oB⟩ ⟨rfl,gR,jB,nF⟩ Z9;refine rc T 7 (cb J Z9 (λZ9=>?_) (λZ9=>?_))
   ·refine rc T 3 (bp J (g_ T J J J J) (ro T 11 ?_));obtain rfl:=Option.some.inj Z9;obtain rfl:=Option.some.inj (show some ([],(Er.num 148 bR),(bJ.mk s.most b_ s.eY))=some r from Z7)
    refine gq [1,6,1] J (aq J (aq J (p1 T J [9,9,8,0] ⟨none,0,[],(.iface 148 (ii bR)),[],(List.flatten [(cl bd 103 [(ii s.most),(pp b3),p_]),jF,H4]),aj.nil,rp,(show fG (bJ.mk s.most b_ s.eY) bd (List.flatten [(cl bd 103 [(ii s.most),(pp b3),p_]),jF,H4]) from⟨b3,jF,p_,H4,gR,s4,J⟩),J,J⟩ J)))
   refine rc T 5 (lf T 5 J (ro T 5 (lq [0,1,8,14,49,50,51,72,73] [0,0,0,4,0,3,3,3,2] (λ(⟨J1,mN,iV,Iw,zJ⟩:Nat×(List (Int×Int))×Int×Nat×Hp)=>(eD.l2 J1 x4 bc v8 b_ ei mN iV=some Ps/\cP (Ky.int .i64 u3) (λx:Int=>Value.int .i64 x) mN Iw zJ,[(11,(.map (some Iw))),(74,(ii iV))],[zJ])) J J (fuel,aT,0,jU,fV) [0,0,0,4,0,3,3,3,2,0] ⟨Z9,fP⟩ J J ?_)));rintro J1 ⟨mN,iV,Iw,zJ⟩ ⟨cm,AO⟩;rw[eD.l2] at cm;refine rc T 6 (cd J cm (λcm=>?_) (λcm=>?_))
   ·refine rc T 6 ?_;obtain⟨jc,cm⟩:=az cm;obtain⟨q39,o39,Q4⟩:=VV.addr jc.1 jc.2;refine ix T J Q4 jc (le T 0 (rO VV 8) Q4 jc J J (ro T 7 (lf T 5 J (ro T 2 (bp J (pO (k:=(rd ((rd v8 bc).cW) iV)) T (Ky.int .i64 u3) (λx:Int=>Value.int .i64 x) J J J J J (oh s7 (j:=4) J)) ?_)))));obtain⟨lz,cm⟩:=az cm;obtain⟨q40,o40,Q5⟩:=nF.r.addr lz.1 lz.2;refine ix T J Q5 lz (le T 0 (oO nF 7) Q5 lz J J (aW (pE (g:=9) (m:=mN) (k:=(rd ((rd v8 bc).cW) iV)) (v:=(rd ei (aO x4 (rd ((rd v8 bc).cW) iV)))) T (Ky.int .i64 u3) (λx:Int=>Value.int .i64 x) J J J J J J J AO (λEO zk=>ro T 8 (ar (_,_,_,_) [0,0,0,0,0,0,0,0,0,0] ⟨cm,zk⟩ J J)))))
   refine rc T 6 (am (_,_,_,_,_) [0,0,0,1,4,0,3] ⟨oi cm,gR,AO⟩ J J)
  rintro _ ⟨dm,db,dV,iY,fb⟩ ⟨rfl,fh,fq⟩ Z7;refine rc T 5 (ar (_,_,_,_,_,_) [0,0,0,0,0,0,0] ⟨Z7,fh,fq⟩ J J)
 refine rc T 19 (aq J (lq [11,89,90] [0,5,0,0,2] (λ(⟨J2,nQ,rU,Ix,n43,gr⟩:Nat×List Int×Int×Option Addr×Nat×Hp)=>(eD.l3 J2 s l bq aT nQ rU=some r/\aj (Fl.int .i64) 3 nQ Ix n43 gr,[(18,(ll Ix nQ n43)),(91,(ii rU))],[gr])) J J (fuel,[],0,none,0,[]) [0,5,0,0,2,2] ⟨Z7,aj.nil⟩ J J ?_));rintro J2 ⟨nQ,rU,Ix,n43,gr⟩ ⟨eU,sY⟩;rw[eD.l3] at eU;refine rc T 6 (cd J eU (λeU=>?_) (λeU=>?_))
 ·refine rc T 6 ?_;obtain⟨oK,eU⟩:=az eU;obtain⟨q44,o44,Q6⟩:=dg.addr oK.1 oK.2;refine ix T J Q6 oK (bp J (fm T (cs:=[(ii (rd l rU).Id),(ii (rd l rU).Cell),(ii (rd l rU).Goal)]) J J J J J J (gB (k:=lD) (rO dg 0) Q6 oK J)) (nc T J (λb45=>fz J (jP T 6 J (ro T 6 (lf T 6 J (bp J (pO (k:=(rd l rU).Id) T (Ky.int .i64 u3) (λx:Int=>Value.int .i64 x) J J J J J (oh fP (j:=1) J)) (aW (cU (k:=(Fl.int .i64)) T [(aO aT ((rd l rU).Id))] J J J J J J J J J (λa46 Xe OQ=>?_))))))))));obtain⟨zU,eU⟩:=az eU;refine aW (dM (k:=(Fl.int .i64)) (xs:=nQ) T (g:=5) J J J J J J J J J J sY (oO OQ 7) zU J (λIy n47 EP Hb=>ro T 9 (ar (_,_,_,_,_) [0,0,0,0,0,0] ⟨eU,Hb⟩ J J)))
 refine rc T 13 ?_
 cases eU;refine gq [2,3,2] J (aq J (p1 T J [2,3,2,0] ⟨Ix,n43,gr,.nilIface,[],(List.flatten [(cl bd 103 [(ii s.most),(pp b3),p_]),dF,H4]),sY,tK,(show fG (bJ.mk s.most bq s.eY) bd (List.flatten [(cl bd 103 [(ii s.most),(pp b3),p_]),dF,H4]) from⟨b3,dF,p_,H4,dK,s4,J⟩),J,J⟩ J))
def xM.f (s:bJ) (a:iZ):Option (Er×bJ×iZ):=c_ s.eY (none) (λx1=>(pI.f x1).bind λv2=>(eD.f s v2).bind λv3=>if(!(Er.isNil v3.2.1))=true then(some (v3.2.1,v3.2.2,a)) else(c_ v3.2.2.eY (none) (λx4=>(ng.f x4 v3.1).bind λv5=>(fE.f v5.2.2.1).bind λv6=>some (v6,(bJ.mk v3.2.2.most v3.2.2.nav (some v5.2.2.2)),(iZ.mk a.Code a.D a.cz a.Id v5.1 v5.2.1 a.Stats)))))
def xM.R (el:Nat->Addr) (nf:Nat) (oH:Nat) (r:(Er×bJ×iZ)) (u:Value) (G:List Hp):Prop:= ∃(v0:Value) (H0:Hp) (H1:Hp) (a2:Option Addr) (n2:Nat) (H2:Hp) (a3:Option Addr) (n3:Nat) (H3:Hp),fU 414 el r.1 v0 H0/\fG r.2.1 nf H1/\aj jy 94 r.2.2.fi a2 n2 H2/\aj (Fl.int .i64) 3 r.2.2.ik a3 n3 H3/\u=v0/\G=[H0,H1,(cl oH 52 [(ii r.2.2.Code),(ii r.2.2.D),(ii r.2.2.cz),(ii r.2.2.Id),(ll a2 r.2.2.fi n2),(ll a3 r.2.2.ik n3),(uu r.2.2.Stats.bC),(uu r.2.2.Stats.bD),(uu r.2.2.Stats.bA),(uu r.2.2.Stats.bx),(uu r.2.2.Stats.bM),(uu r.2.2.Stats.bE)]),H2,H3]
theorem xM.c (H:xM.f s a=some r) (hG:fK 414 eZ hU el F) (cF:fG s bd dr) (nI:aj jy 94 a.fi uH vv uA) (nG:aj (Fl.int .i64) 3 a.ik uG vu uz):
 QR 92 [(pp bd),(pp oH)] [dr,(cl oH 52 [(ii a.Code),(ii a.D),(ii a.cz),(ii a.Id),(ll uH a.fi vv),(ll uG a.ik vu),(uu a.Stats.bC),(uu a.Stats.bD),(uu a.Stats.bA),(uu a.Stats.bx),(uu a.Stats.bM),(uu a.Stats.bE)]),uA,uz] [] F (xM.R el bd oH r):=by
 unfold xM.f at H;refine aB Tryz.func92 J J (λW=>rc T 6 ?_);obtain⟨b6,H6,wa,H7,s6,s7,rA⟩:=(λx=>x) cF;refine bz 0 (congrArg some rA) (fz J ?_);rcases q1:s.eY with _ |x1
 ·replace H:=eJ q1 H
  cases H
 replace H:=eK q1 H;rw[q1] at s7;obtain⟨b9,H9,s9,rfl,FH⟩:=s7;refine bz 6 (congrArg some FH) (fz J (rc T 5 (lf T 4 J (kr pI.R [6] [6] J Ju H (pI.c · s9) (λv2 H=>?_)))));rintro _ _ ⟨cw,n10,bV,bS,rfl,rfl⟩;refine fz J (cq [7] J FH (cq [4,4,5] J rA (kr (eD.R el bd) [] [5] J abY H (eD.c · (dB hG (j:=3) J) cF (oO bS 4) bS.bW) (λv3 H=>?_))));rintro _ _ ⟨dt,n11,cA,v12,dw,eo,cS,dD,dh,rfl,rfl⟩;refine fz J (ro T 11 (bp J (Dz T J J J (ru dD (j:=6) J)) (ro T 2 (cb J H (λH=>?_) (λH=>?_)))))
 ·refine rc T 8 ?_
  cases H;exact p1 T J [6,6,0,0,0,0] ⟨v12,dw,eo,uH,vv,uA,uG,vu,uz,dD,dh,nI,nG,J,J⟩ J
 refine rc T 3 ?_;obtain⟨mX,dF,ajO,fV,dK,fP,DE⟩:=(λx=>x) dh;refine bz 7 (congrArg some DE) (fz J ?_);rcases q5:v3.2.2.eY with _ |x4
 ·replace H:=eJ q5 H
  cases H
 replace H:=eK q5 H;rw[q5] at fP;obtain⟨qm,fb,fq,rfl,abG⟩:=fP;refine bz 9 (congrArg some abG) (fz J (rc T 4 (lf T 7 J (ro T 1 (kr (ng.R qm) [] [9] J abZ H (ng.c · fq (oO cS 5) cS.bW) (λv5 H=>?_))))));rintro _ _ ⟨l9,n19,kF,a20,n20,nS,lj,gQ,lT,jO,rfl,rfl⟩;refine fz J (ro T 17 (jP T 0 J (ro T 2 (jP T 0 J (ro T 1 (ke [9] [0,2,5,5,5,5,5] J J (rx T 1 (rc T 3 (kr (fE.R el) [] [] J u_ H (fE.c · (dB hG (j:=1) J)) (λv6 H=>?_))))))))));rintro v22 _ ⟨v22,mj,iI,rfl,rfl⟩;refine fz J (ro T 4 ?_)
 cases H;refine gq [6] J (gq [2,2,5] J (p1 T J [4,4,0,1,1,0] ⟨v22,mj,(List.flatten [(cl bd 103 [(ii v3.2.2.most),(pp mX),(pp qm)]),dF,(List.flatten [lj])]),l9,n19,kF,a20,n20,nS,iI,(show fG (bJ.mk v3.2.2.most v3.2.2.nav (some v5.2.2.2)) bd (List.flatten [(cl bd 103 [(ii v3.2.2.most),(pp mX),(pp qm)]),dF,(List.flatten [lj])]) from⟨mX,dF,(pp qm),(List.flatten [lj]),dK,(show Bj (some v5.2.2.2) (pp qm) (List.flatten [lj]) from⟨qm,lj,jO,J,J⟩),J⟩),gQ,lT,J,J⟩ J))
def xH.f (s:bJ) (o:dn) (a:iZ):Option (Er×bJ×iZ):=(if(o.Kind==0)=true then(some true) else((Cs.f o).bind λv3=>some (!v3))).bind λx1=>if x1=true then(some ((Er.dS 0),s,a)) else((c_ s.eY (if(o.Kind !=1)=true then(some (o.Kind !=8)) else(some false)) (λx6=>some false)).bind λx4=>if x4=true then(some ((Er.num 148 4),s,a)) else((ur.f s o).bind λv7=>if(!(Er.isNil v7))=true then(some (v7,s,a)) else((if(o.Kind==1)=true then((xJ.f s o.Map).bind λv23=>some (v23.1,a.Code,a.D,a.cz,a.Id,a.fi,a.ik,a.Stats.bC,a.Stats.bD,a.Stats.bA,a.Stats.bx,a.Stats.bM,a.Stats.bE,v23.2)) else(if(o.Kind==8)=true then((xm.f s.nav).bind λv24=>some (v7,a.Code,a.D,a.cz,a.Id,a.fi,a.ik,a.Stats.bC,a.Stats.bD,a.Stats.bA,a.Stats.bx,a.Stats.bM,a.Stats.bE,(bJ.mk s.most v24 s.eY))) else(if(o.Kind==2)=true then((xI.f s o.A o.B).bind λv25=>some (v25.1,a.Code,a.D,a.cz,a.Id,a.fi,a.ik,a.Stats.bC,a.Stats.bD,a.Stats.bA,a.Stats.bx,a.Stats.bM,a.Stats.bE,v25.2)) else(if(o.Kind==3)=true then((xL.f s o.A o.B).bind λv26=>some (v26.2.1,a.Code,a.D,a.cz,v26.1,a.fi,a.ik,a.Stats.bC,a.Stats.bD,a.Stats.bA,a.Stats.bx,a.Stats.bM,a.Stats.bE,v26.2.2)) else(if(o.Kind==4)=true then(c_ s.eY ((Fv.f o.A o.B).bind λv28=>(fE.f v28).bind λrS=>some (rS,a.Code,a.D,a.cz,a.Id,a.fi,a.ik,a.Stats.bC,a.Stats.bD,a.Stats.bA,a.Stats.bx,a.Stats.bM,a.Stats.bE,s)) (λl6=>(wI.f l6 o.A o.B).bind λv30=>(fE.f v30.1).bind λv31=>some (v31,a.Code,a.D,a.cz,a.Id,a.fi,a.ik,a.Stats.bC,a.Stats.bD,a.Stats.bA,a.Stats.bx,a.Stats.bM,a.Stats.bE,(bJ.mk s.most s.nav (some v30.2))))) else(if(o.Kind==5)=true then(c_ s.eY ((Fu.f o.A).bind λv33=>(fE.f v33).bind λPm=>some (Pm,a.Code,a.D,a.cz,a.Id,a.fi,a.ik,a.Stats.bC,a.Stats.bD,a.Stats.bA,a.Stats.bx,a.Stats.bM,a.Stats.bE,s)) (λwg=>(wH.f wg o.A).bind λv35=>(fE.f v35.1).bind λWY=>some (WY,a.Code,a.D,a.cz,a.Id,a.fi,a.ik,a.Stats.bC,a.Stats.bD,a.Stats.bA,a.Stats.bx,a.Stats.bM,a.Stats.bE,(bJ.mk s.most s.nav (some v35.2))))) else(if(o.Kind==6)=true then((xK.f s a o.A o.B).bind λv37=>some (v37.1,v37.2.2.Code,v37.2.2.D,v37.2.2.cz,v37.2.2.Id,v37.2.2.fi,v37.2.2.ik,v37.2.2.Stats.bC,v37.2.2.Stats.bD,v37.2.2.Stats.bA,v37.2.2.Stats.bx,v37.2.2.Stats.bM,v37.2.2.Stats.bE,v37.2.1)) else(if(o.Kind==7)=true then((xM.f s a).bind λoA=>some (oA.1,oA.2.2.Code,oA.2.2.D,oA.2.2.cz,oA.2.2.Id,oA.2.2.fi,oA.2.2.ik,oA.2.2.Stats.bC,oA.2.2.Stats.bD,oA.2.2.Stats.bA,oA.2.2.Stats.bx,oA.2.2.Stats.bM,oA.2.2.Stats.bE,oA.2.1)) else(some (v7,a.Code,a.D,a.cz,a.Id,a.fi,a.ik,a.Stats.bC,a.Stats.bD,a.Stats.bA,a.Stats.bx,a.Stats.bM,a.Stats.bE,s)))))))))).bind λ(x8,x9,aM,bf,bq,aT,bc,cn,dm,db,dL,b_,lh,ei)=>some (x8,ei,(iZ.mk x9 aM bf bq aT bc (gv.mk cn dm db dL b_ lh))))))
def xH.R (el:Nat->Addr) (nf:Nat) (oH:Nat) (r:(Er×bJ×iZ)) (u:Value) (G:List Hp):Prop:= ∃(v0:Value) (H0:Hp) (H1:Hp) (a2:Option Addr) (n2:Nat) (H2:Hp) (a3:Option Addr) (n3:Nat) (H3:Hp),fU 414 el r.1 v0 H0/\fG r.2.1 nf H1/\aj jy 94 r.2.2.fi a2 n2 H2/\aj (Fl.int .i64) 3 r.2.2.ik a3 n3 H3/\u=v0/\G=[H0,H1,(cl oH 52 [(ii r.2.2.Code),(ii r.2.2.D),(ii r.2.2.cz),(ii r.2.2.Id),(ll a2 r.2.2.fi n2),(ll a3 r.2.2.ik n3),(uu r.2.2.Stats.bC),(uu r.2.2.Stats.bD),(uu r.2.2.Stats.bA),(uu r.2.2.Stats.bx),(uu r.2.2.Stats.bM),(uu r.2.2.Stats.bE)]),H2,H3]
theorem xH.c (H:xH.f s o a=some r) (hG:fK 414 eZ hU el F) (cF:fG s bd dr) (Ac:aS (Fl.int .u8) o.Map Bs F) (zV:List.length o.Map<=Cl) (nI:aj jy 94 a.fi uH vv uA) (nG:aj (Fl.int .i64) 3 a.ik uG vu uz):
 QR 55 [(pp bd),(.agg #[(ii o.Kind),(ii o.A),(ii o.B),(ll Bs o.Map Cl)]),(pp oH)] [dr,(cl oH 52 [(ii a.Code),(ii a.D),(ii a.cz),(ii a.Id),(ll uH a.fi vv),(ll uG a.ik vu),(uu a.Stats.bC),(uu a.Stats.bD),(uu a.Stats.bA),(uu a.Stats.bx),(uu a.Stats.bM),(uu a.Stats.bE)]),uA,uz] [] F (xH.R el bd oH r):=by
 unfold xH.f at H;refine aB Tryz.func55 J J (λW=>rc T 2 (nc T J (λb5=>fz J (ro T 5 (mq H [0,2,4] [4,0,0,0,0,0] (λz2 (x1:Bool)=>(x1=z2,[(7,(bb x1))],[])) J J (λz2 Z1 _=>?_) ?_)))))
 ·refine rc T 2 (lf T 5 J (ro T 2 (ab 11 J Z1 (λZ1=>?_) (λZ1=>?_))))
  ·refine ro T 7 (am _ [4,0,0,0,0,0] (oi Z1) J J)
  refine lm T 5 J (k [] J adM Z1 (Cs.c · (rO Ac 4) zV) (λv3 Z1=>ro T 5 (am _ [4,0,0,0,0,0] (oi Z1) J J)))
 rintro _ x1 rfl H;refine cb J H (λH=>?_) (λH=>?_)
 ·refine rc T 2 (lg T J (rG (j:=0) J hG (g:=0) (by decide)) (ro T 6 ?_))
  cases H;refine aq J (p1 T J [6,1,1,1,1,0] ⟨(.iface 414 (.pointer (some (el 0)))),[],dr,uH,vv,uA,uG,vu,uz,nZ,cF,nI,nG,J,J⟩ J)
 refine mq H [0,2,4] [0,0,0,0,0,0] (λz5 (x4:Bool)=>(x4=z5,[(17,(bb x4))],[])) J J (λz5 Z5 _=>?_) ?_
 ·obtain⟨b8,H8,ajU,H9,s8,s9,rB⟩:=(λx=>x) cF;refine bz 1 (congrArg some rB) (fz J ?_);rcases q6:s.eY with _ |x6
  ·replace Z5:=eJ q6 Z5;rw[q6] at s9;obtain⟨rfl,rfl⟩:=s9;refine rc T 4 (lf T 5 J (ro T 3 (lf T 4 J (ro T 3 (ab 28 J Z5 (λZ5=>?_) (λZ5=>?_))))))
   ·refine ro T 1 (lf T 4 J (ro T 5 (cq [5,5,5] J rB (am _ [0,4,0,0,0,0] (oi Z5) J J))))
   refine ro T 7 (cq [5,5,5] J rB (am _ [0,4,0,0,0,0] (oi Z5) J J))
  replace Z5:=eK q6 Z5;rw[q6] at s9;obtain⟨jG,cA,cS,rfl,RZ⟩:=s9;refine bz 7 (congrArg some RZ) (fz J (rc T 4 (lf T 5 J (ro T 14 (cq [7] J RZ (cq [5,5,5] J rB (am _ [0,4,0,0,0,0] (oi Z5) J J)))))))
 rintro _ x4 rfl H;refine cb J H (λH=>?_) (λH=>?_)
 ·refine rc T 2 (bp J (g_ T J J J J) (ro T 6 ?_))
  cases H;refine aq J (p1 T J [6,1,1,1,1,0] ⟨(.iface 148 (ii 4)),[],dr,uH,vv,uA,uG,vu,uz,rp,cF,nI,nG,J,J⟩ J)
 refine rc T 7 (lm T 5 J (kr (ur.R el) [1] [1] J adN H (ur.c · (dB hG (j:=0) J) cF (rO Ac 0) zV) (λv7 H=>?_)));rintro gT _ ⟨gT,eo,dh,rfl,rfl⟩;refine fz J (ro T 6 (bp J (Dz T J J J (ru dh (j:=5) J)) (ro T 2 (cb J H (λH=>?_) (λH=>?_)))))
 ·refine rc T 8 ?_
  cases H;exact p1 T J [5,5,1,1,1,0] ⟨gT,eo,dr,uH,vv,uA,uG,vu,uz,dh,cF,nI,nG,J,J⟩ J
 refine rc T 2 (mq H [] [0] (λz22 (⟨x8,x9,aM,bf,bq,aT,bc,cn,dm,db,dL,b_,lh,ei,KW,fx,jT,n15,dF,jU,n16,fV,dV⟩:Er×Int×Int×Int×Int×List fc×List Int×Int×Int×Int×Int×Int×Int×bJ×Value×Hp×Option Addr×Nat×Hp×Option Addr×Nat×Hp×Hp)=>((x8,x9,aM,bf,bq,aT,bc,cn,dm,db,dL,b_,lh,ei)=z22/\fU 414 el x8 KW fx/\aj jy 94 aT jT n15 dF/\aj (Fl.int .i64) 3 bc jU n16 fV/\fG ei bd dV,[(6,KW)],[fx,(cl oH 52 [(ii x9),(ii aM),(ii bf),(ii bq),(ll jT aT n15),(ll jU bc n16),(uu cn),(uu dm),(uu db),(uu dL),(uu b_),(uu lh)]),dF,fV,dV])) J J (λz22 ba _=>?_) ?_)
 ·refine rc T 3 (lf T 4 J (ro T 9 (cb J ba (λba=>?_) (λba=>?_))))
  ·refine rc T 3 (lf T 4 J (kr (xJ.R el bd) [] [6] J adO ba (xJ.c · (dB hG (j:=0) J) cF (rO Ac 0) zV) (λv23 ba=>?_)));rintro fF _ ⟨fF,fb,kF,fq,gQ,rfl,rfl⟩;refine fz J (ro T 4 (am (_,_,_,_,_,_,_,_,_,_,_,_,_,_,_,_,_,_,_,_,_,_,_) [0,5,0,0,0,2] ⟨oi ba,fq,nI,nG,gQ⟩ J J))
  refine rc T 6 (cb J ba (λba=>?_) (λba=>?_))
  ·obtain⟨BB,lj,WX,mj,jO,iI,abE⟩:=(λx=>x) cF;refine bz 6 (congrArg some abE) (fz J (rc T 4 (lf T 6 J (kr (xm.R BB) [] [7] J adP ba (xm.c · jO) (λv24 ba=>?_)))));rintro _ _ ⟨jF,gR,rfl,rfl⟩;refine fz J (ro T 3 (gq [6,7,6] J (am (_,_,_,_,_,_,_,_,_,_,_,_,_,_,_,_,_,_,_,_,_,_,_) [0,4,0,0,0,1] ⟨oi ba,dh,nI,nG,(show fG (bJ.mk s.most v24 s.eY) bd (List.flatten [(cl bd 103 [(ii s.most),(pp BB),WX]),jF,mj]) from⟨BB,jF,WX,mj,gR,iI,J⟩)⟩ J J)))
  refine rc T 6 (cb J ba (λba=>?_) (λba=>?_))
  ·refine rc T 3 (lf T 4 J (ro T 1 (lf T 4 J (kr (xI.R el bd) [] [6] J adQ ba (xI.c · (dB hG (j:=0) J) cF) (λv25 ba=>?_)))));rintro v24 _ ⟨v24,qX,gV,lU,jB,rfl,rfl⟩;refine fz J (ro T 4 (am (_,_,_,_,_,_,_,_,_,_,_,_,_,_,_,_,_,_,_,_,_,_,_) [0,5,0,0,0,2] ⟨oi ba,lU,nI,nG,jB⟩ J J))
  refine rc T 6 (cb J ba (λba=>?_) (λba=>?_))
  ·refine rc T 4 (lf T 4 J (ro T 1 (lf T 4 J (kr (xL.R el bd) [] [6] J adR ba (xL.c · (dB hG (j:=0) J) cF) (λv26 ba=>?_)))));rintro _ _ ⟨v26,oB,EM,nF,vK,rfl,rfl⟩;refine fz J (ro T 5 (jP T 1 J (ro T 4 (am (_,_,_,_,_,_,_,_,_,_,_,_,_,_,_,_,_,_,_,_,_,_,_) [0,5,0,0,0,2] ⟨oi ba,nF,nI,nG,vK⟩ J J))))
  refine rc T 6 (cb J ba (λba=>?_) (λba=>?_))
  ·obtain⟨zQ,qY,ajS,qZ,qI,pn,Ji⟩:=(λx=>x) cF;refine bz 6 (congrArg some Ji) (fz J ?_);rcases Ef:s.eY with _ |l6
   ·replace ba:=eJ Ef ba;rw[Ef] at pn;obtain⟨rfl,rfl⟩:=pn;refine ke [0,4] [0,0,0,0,0,1,1,1] J J (fz J (rq [] [0,0,0,0,0,0,0,0] J mix (bO bN) (λhg pf=>ha T 8 [0,1,2] sz hg pf J (av 3 sz hg pf J (aw T J J J J (aD (j:=5) J J)) (ha T 6 [4] sz hg pf J (av 5 sz hg pf J (aw T J J J J (aD (j:=4) J J)) (ha T 4 [6] sz hg pf J (av 7 sz hg pf J (aw T J J J J (aD (j:=4) J J)) (ao 8 (kh [] J S8 ba (Fv.c ·) (λv28 ba=>an sz (ao 9 (kR (fE.R el) [] [] J u_ ba (fE.c · (dB hG (j:=0) J)) (λrS ba=>?_))))))))))))));rintro v33 _ ⟨v33,Ih,vL,rfl,rfl⟩;refine fz J (an (so [0,0,0,0,0,0,0,0]) (ha T 0 [10] (so [0,0,0,0,0,0,0,0]) hg pf J (ae (rx T 2 (cq [5,5,5] J Ji (am (_,_,_,_,_,_,_,_,_,_,_,_,_,_,_,_,_,_,_,_,_,_,_) [0,4,0,0,0,1] ⟨oi ba,vL,nI,nG,cF⟩ J J))))))
   replace ba:=eK Ef ba;rw[Ef] at pn;obtain⟨wD,Ig,zj,rfl,abH⟩:=pn;refine bz 8 (congrArg some abH) (fz J (ke [0,4] [0,0,0,0,0,1,1,1] J J (fz J (rq [8] [0,0,0,0,0,0,0,0] J mix (bO bN) (λhg pf=>ha T 8 [0,1,2] sz hg pf J (av 3 sz hg pf J (aw T J J J J (aD (j:=5) J J)) (ha T 6 [4] sz hg pf J (av 5 sz hg pf J (aw T J J J J (aD (j:=4) J J)) (ha T 4 [6] sz hg pf J (av 7 sz hg pf J (aw T J J J J (aD (j:=4) J J)) (ao 8 (kR (wI.R wD) [] [7] J S8 ba (wI.c · zj) (λv30 ba=>?_)))))))))))));rintro _ _ ⟨uy,xB,rfl,rfl⟩;refine fz J (an sl (ao 9 (kR (fE.R el) [] [] J u_ ba (fE.c · (dB hG (j:=0) J)) (λv31 ba=>?_))));rintro v35 _ ⟨v35,Ii,Kx,rfl,rfl⟩;refine fz J (an sl (hb T 10 sl hg pf J (ae (rx T 2 (gq [7] J (gq [5,5,6] J (am (_,_,_,_,_,_,_,_,_,_,_,_,_,_,_,_,_,_,_,_,_,_,_) [0,4,0,0,0,1] ⟨oi ba,Kx,nI,nG,(show fG (bJ.mk s.most s.nav (some v30.2)) bd (List.flatten [(cl bd 103 [(ii s.most),(pp zQ),(pp wD)]),qY,(List.flatten [uy])]) from⟨zQ,qY,(pp wD),(List.flatten [uy]),qI,(show Bj (some v30.2) (pp wD) (List.flatten [uy]) from⟨wD,uy,xB,J,J⟩),J⟩)⟩ J J)))))))
  refine rc T 6 (cb J ba (λba=>?_) (λba=>?_))
  ·obtain⟨Qp,zJ,ajT,K_,AO,AP,RW⟩:=(λx=>x) cF;refine bz 6 (congrArg some RW) (fz J ?_);rcases GY:s.eY with _ |wg
   ·replace ba:=eJ GY ba;rw[GY] at AP;obtain⟨rfl,rfl⟩:=AP;refine ke [0,4] [0,0,0,0,0,1,1,1] J J (fz J (rq [] [0,0,0,0,0,0,0,0] J mix (bO bN) (λhg pf=>ha T 6 [0,1,2] sz hg pf J (av 3 sz hg pf J (aw T J J J J (aD (j:=5) J J)) (ha T 4 [4] sz hg pf J (av 5 sz hg pf J (aw T J J J J (aD (j:=4) J J)) (ao 6 (kh [] J S9 ba (Fu.c ·) (λv33 ba=>an sz (ao 7 (kR (fE.R el) [] [] J u_ ba (fE.c · (dB hG (j:=0) J)) (λPm ba=>?_))))))))))));rintro KY _ ⟨KY,ln,OP,rfl,rfl⟩;refine fz J (an (so [0,0,0,0,0,0,0,0]) (ha T 0 [8] (so [0,0,0,0,0,0,0,0]) hg pf J (ae (rx T 2 (cq [5,5,5] J RW (am (_,_,_,_,_,_,_,_,_,_,_,_,_,_,_,_,_,_,_,_,_,_,_) [0,4,0,0,0,1] ⟨oi ba,OP,nI,nG,cF⟩ J J))))))
   replace ba:=eK GY ba;rw[GY] at AP;obtain⟨Fj,EO,zk,rfl,abI⟩:=AP;refine bz 8 (congrArg some abI) (fz J (ke [0,4] [0,0,0,0,0,1,1,1] J J (fz J (rq [6] [0,0,0,0,0,0,0,0] J mix (bO bN) (λhg pf=>ha T 6 [0,1,2] sz hg pf J (av 3 sz hg pf J (aw T J J J J (aD (j:=5) J J)) (ha T 4 [4] sz hg pf J (av 5 sz hg pf J (aw T J J J J (aD (j:=4) J J)) (ao 6 (kR (wH.R Fj) [] [7] J S9 ba (wH.c · zk) (λv35 ba=>?_)))))))))));rintro _ _ ⟨gr,sY,rfl,rfl⟩;refine fz J (an sl (ao 7 (kR (fE.R el) [] [] J u_ ba (fE.c · (dB hG (j:=0) J)) (λWY ba=>?_))));rintro v44 _ ⟨v44,Xd,CJ,rfl,rfl⟩;refine fz J (an sl (hb T 8 sl hg pf J (ae (rx T 2 (gq [7] J (gq [5,5,6] J (am (_,_,_,_,_,_,_,_,_,_,_,_,_,_,_,_,_,_,_,_,_,_,_) [0,4,0,0,0,1] ⟨oi ba,CJ,nI,nG,(show fG (bJ.mk s.most s.nav (some v35.2)) bd (List.flatten [(cl bd 103 [(ii s.most),(pp Qp),(pp Fj)]),zJ,(List.flatten [gr])]) from⟨Qp,zJ,(pp Fj),(List.flatten [gr]),AO,(show Bj (some v35.2) (pp Fj) (List.flatten [gr]) from⟨Fj,gr,sY,J,J⟩),J⟩)⟩ J J)))))))
  refine rc T 6 (cb J ba (λba=>?_) (λba=>?_))
  ·refine rc T 4 (lf T 4 J (ro T 1 (lf T 4 J (kr (xK.R el bd oH) [] [6,1,1,1] J adS ba (xK.c · (dB hG (j:=0) J) cF nI nG) (λv37 ba=>?_)))));rintro v46 _ ⟨v46,Xe,EP,EZ,n48,ER,a49,n49,Xf,OQ,Hb,Kz,s49,rfl,rfl⟩;refine fz J (ro T 4 (am (_,_,_,_,_,_,_,_,_,_,_,_,_,_,_,_,_,_,_,_,_,_,_) [0,2,3,3,3,2] ⟨oi ba,OQ,Kz,s49,Hb⟩ J J))
  refine rc T 6 (cb J ba (λba=>?_) (λba=>?_))
  ·refine rc T 3 (kr (xM.R el bd oH) [] [6,1,1,1] J adT ba (xM.c · (dB hG (j:=0) J) cF nI nG) (λoA ba=>?_));rintro v50 _ ⟨v50,Xg,Xh,Li,n52,Lb,a53,n53,Xi,OR,KA,Em,OS,rfl,rfl⟩;refine fz J (ro T 4 (am (_,_,_,_,_,_,_,_,_,_,_,_,_,_,_,_,_,_,_,_,_,_,_) [0,2,3,3,3,2] ⟨oi ba,OR,Em,OS,KA⟩ J J))
  refine rc T 3 (am (_,_,_,_,_,_,_,_,_,_,_,_,_,_,_,_,_,_,_,_,_,_,_) [0,4,0,0,0,1] ⟨oi ba,dh,nI,nG,cF⟩ J J)
 rintro _ ⟨x8,x9,aM,bf,bq,aT,bc,cn,dm,db,dL,b_,lh,ei,KW,fx,jT,n15,dF,jU,n16,fV,dV⟩ ⟨rfl,dO,dK,fP,fh⟩ H;refine rc T 7 ?_
 cases H;exact p1 T J [1,4,1,1,1,0] ⟨KW,fx,dV,jT,n15,dF,jU,n16,fV,dO,fh,dK,fP,J,J⟩ J
def C1.f (err:Er):Option Int:=(uT.f err (Er.dS 0)).bind λv1=>if v1=true then(some 5) else((Fy.f err).bind λv2=>if(Option.isSome v2)=true then(some (Option.getD v2 0)) else(some 0))
theorem C1.c (H:C1.f err=some r) (hG:fK 414 eZ hU el F) (Du:lI 414 el err Pn F):
 QU 56 [Pn] [] F (ii r):=by
 unfold C1.f at H;refine aB Tryz.func56 J J (λW=>rc T 7 (nc T J (λb1=>fz J (ro T 7 (lg T J (rG (j:=0) J hG (g:=0) (by decide)) (k [] J Jv H (uT.c err (Er.dS 0) _ _ · (dB hG (j:=0) J) (Fz Du (j:=0) J) IX) (λv1 H=>ro T 3 (cb J H (λH=>?_) (λH=>?_)))))))))
 ·refine rc T 8 ?_
  cases H;exact p0 T J [0] J
 refine rc T 3 (bp J (g_ T J J J J) ?_);obtain⟨v2,V3,H⟩:=fY H;refine aW (si (As:=[(cl b1 148 [(ii 0)])]) (R:=[F]) (B:=λ_=>[(cl b1 148 [(ii (Option.getD v2 0))])]) [1] J J J J Jw J J (Fy.c err v2 _ V3 (dB hG (j:=0) J) (Fz Du (j:=0) J)) (λ_=>ro T 3 (cb J H (λH=>?_) (λH=>?_))))
 ·refine rc T 2 (lf T 1 J (ro T 6 ?_))
  cases H;exact p0 T J [0] J
 refine rc T 9 ?_
 cases H;exact p0 T J [0] J
theorem KN.c {b:Nat} {c0 c1 c2:Value} (F:Hp) (m:(b,Obj.cells #[c0,c1,c2] 103 (0,0))∈F):
 QU 42 [(pp b)] [] F c1:=by
 refine aB Tryz.func42 J J (λW=>rc T 12 (dW J (rc T 7 (lg T J (np (j:=0) m J J) (ro T 4 (Fh (T:=T) J (.tmp J .nil) (λw o=>⟨(),J,Cv [0] J o⟩)))))))
def zt.f (s:bJ):Option gv:=(Cn.f s.nav).bind λv1=>some v1
theorem zt.c (H:zt.f s=some r) (cF:fG s bd dr):
 QU 22 [(pp bd)] [dr] F (.agg #[(uu r.bC),(uu r.bD),(uu r.bA),(uu r.bx),(uu r.bM),(uu r.bE)]):=by
 unfold zt.f at H;refine aB Tryz.func22 J J (λW=>rc T 2 (nc T J (λb2=>fz J (ro T 3 ?_))));obtain⟨b4,H4,xW,H5,s4,s5,dp⟩:=(λx=>x) cF;refine bz 0 (congrArg some dp) (fz J (rc T 2 (aW (si (B:=λ_=>[]) [] J J J J Js J J (KN.c _ (yX (j:=2) J)) (λ_=>k [3] J adA H (Cn.c · s4) (λv1 H=>jP T 1 J (ro T 3 ?_)))))))
 cases H;refine cq [2,2,2] J dp (pb T J (.cQ (j:=1) [(uu r.bC),(uu r.bD),(uu r.bA),(uu r.bx),(uu r.bM),(uu r.bE)] J J J J J J J .nil) [2,0] () J J)
def lW.f (s:bJ) (o:dn):Option (iZ×bJ):=(xH.f s o (iZ.mk 0 0 5 (-1) ([]:List fc) ([]:List Int) (gv.mk 0 0 0 0 0 0))).bind λv1=>if(!(Er.isNil v1.1))=true then((C1.f (Er.wrap 110 [o.Kind] v1.1)).bind λv2=>(zt.f v1.2.1).bind λv3=>some ((iZ.mk v2 v1.2.2.D v1.2.2.cz v1.2.2.Id v1.2.2.fi v1.2.2.ik v3),v1.2.1)) else((zt.f v1.2.1).bind λv4=>some ((iZ.mk v1.2.2.Code v1.2.2.D v1.2.2.cz v1.2.2.Id v1.2.2.fi v1.2.2.ik v4),v1.2.1))
def lW.R (el:Nat->Addr) (nf:Nat) (r:(iZ×bJ)) (u:Value) (G:List Hp):Prop:= ∃(a0:Option Addr) (n0:Nat) (H0:Hp) (a1:Option Addr) (n1:Nat) (H1:Hp) (H2:Hp),aj jy 94 r.1.fi a0 n0 H0/\aj (Fl.int .i64) 3 r.1.ik a1 n1 H1/\fG r.2 nf H2/\u=(.agg #[(ii r.1.Code),(ii r.1.D),(ii r.1.cz),(ii r.1.Id),(ll a0 r.1.fi n0),(ll a1 r.1.ik n1),(uu r.1.Stats.bC),(uu r.1.Stats.bD),(uu r.1.Stats.bA),(uu r.1.Stats.bx),(uu r.1.Stats.bM),(uu r.1.Stats.bE)])/\G=[H0,H1,H2]
theorem lW.c (H:lW.f s o=some r) (hG:fK 414 eZ hU el F) (cF:fG s bd dr) (Ac:aS (Fl.int .u8) o.Map Bs F) (zV:List.length o.Map<=Cl):
 QR 24 [(pp bd),(.agg #[(ii o.Kind),(ii o.A),(ii o.B),(ll Bs o.Map Cl)])] [dr] [] F (lW.R el bd r):=by
 unfold lW.f at H;refine aB Tryz.func24 J J (λW=>rc T 2 (nc T J (λb2=>fz J (nc T J (λb3=>fz J (ro T 5 (nc T J (λb4=>fz J (jP T 4 J (ro T 9 (dW J (rc T 5 (jP T 4 J (ro T 1 (ks [0,3,4,5] J (rx T 1 (rc T 4 (lm T 2 J (aq J (aq J (kr (xH.R el bd b4) [] [0,3,3,3] J adB H (xH.c (a:=(iZ.mk 0 0 5 (-1) ([]:List fc) ([]:List Int) (gv.mk 0 0 0 0 0 0))) · (dB hG (j:=0) J) cF (rO Ac 0) zV (aj.nil (k:=jy) (E:=94)) (aj.nil (k:=(Fl.int .i64)) (E:=3))) (λv1 H=>?_))))))))))))))))))))));rintro v7 _ ⟨v7,H7,H8,a9,n9,H9,cw,n10,bV,s7,s8,s9,bS,rfl,rfl⟩;refine fz J (ro T 6 (bp J (Dz T J J J (ru s7 (j:=3) J)) (ro T 2 (cb J H (λH=>?_) (λH=>?_)))))
 ·refine rc T 2 (lf T 1 J (ro T 1 (bp J (Ry (vs:=[(0,(ii o.Kind)),(1,v7)]) T [(0,[(ii o.Kind)]),(1,[v7])] J J J J J (by simp only[List.map,Rf s7];rfl) J) ?_)))
  refine nc T J (λjG=>fz J (gq [8,3] J (bp J (g_ T J J J J) (k [] J adC H (C1.c · (dB hG (j:=0) J) (ru (pM s7) (j:=7) J)) (λv2 H=>ro T 1 (jP T 4 J (ro T 5 (k [3] J SJ H (zt.c · s8) (λv3 H=>ro T 1 (jP T 4 J (ro T 1 (ke [4,5] [0,1,1,1,1,1] J J (rx T 3 (lm T 3 J (jP T 1 J (ro T 1 (rx T 2 ?_)))))))))))))))))
  cases H;exact pb T J (.cQ (j:=1) [(ii v2),(ii v1.2.2.D),(ii v1.2.2.cz),(ii v1.2.2.Id),(ll a9 v1.2.2.fi n9),(ll cw v1.2.2.ik n10),(uu v3.bC),(uu v3.bD),(uu v3.bA),(uu v3.bx),(uu v3.bM),(uu v3.bE)] J J J J J J J .nil) [4,4,2,0] ⟨(_,_),a9,n9,H9,cw,n10,bV,H8,s9,bS,s8,J,J⟩ J J
 refine rc T 5 (k [4] J SJ H (zt.c · s8) (λv4 H=>ro T 1 (jP T 5 J (ro T 4 (lm T 5 J (jP T 2 J (ro T 1 (ke [4] [0,1,2,3,3] J J (rx T 1 (rc T 1 ?_))))))))))
 cases H;exact pb T J (.cQ (j:=1) [(ii v1.2.2.Code),(ii v1.2.2.D),(ii v1.2.2.cz),(ii v1.2.2.Id),(ll a9 v1.2.2.fi n9),(ll cw v1.2.2.ik n10),(uu v4.bC),(uu v4.bD),(uu v4.bA),(uu v4.bx),(uu v4.bM),(uu v4.bE)] J J J J J J J .nil) [3,3,2,0] ⟨(_,_),a9,n9,H9,cw,n10,bV,H8,s9,bS,s8,J,J⟩ J J
def xG.f (s:bJ):Option aJ:=(vx.f s.nav).bind λv1=>some v1
def xG.R (r:aJ) (u:Value) (G:List Hp):Prop:= ∃(a0:Option Addr) (n0:Nat) (H0:Hp),aj (Fl.int .u8) 5 r.C a0 n0 H0/\u=(.agg #[(ii r.W),(ii r.H),(ll a0 r.C n0)])/\G=[H0]
theorem xG.c (H:xG.f s=some r) (cF:fG s bd dr):
 QR 14 [(pp bd)] [dr] [dr] F (xG.R r):=by
 unfold xG.f at H;refine aB Tryz.func14 J J (λW=>rc T 2 (nc T J (λb2=>fz J (ro T 3 ?_))));obtain⟨b4,H4,xW,H5,s4,s5,dp⟩:=(λx=>x) cF;refine bz 0 (congrArg some dp) (fz J (rc T 2 (aW (si (B:=λ_=>[]) [] J J J J Js J J (KN.c _ (yX (j:=2) J)) (λ_=>kr vx.R [3] [3] J adw H (vx.c · s4) (λv1 H=>?_))))));rintro _ _ ⟨a6,n6,H6,s6,rfl,rfl⟩;refine fz J (jP T 1 J (ro T 3 ?_))
 cases H;refine cq [2,4,2] J dp (pb T J (.cQ (j:=1) [(ii r.W),(ii r.H),(ll a6 r.C n6)] J J J J J J J .nil) [2,2,0] ⟨(_,_),a6,n6,H6,s6,J,J⟩ J J)
def xF.f (s:bJ):Option (List (Int×Int)):=(xn.f s.nav).bind λv1=>some v1
def xF.R (r:(List (Int×Int))) (u:Value) (G:List Hp):Prop:= ∃(a0:Option Addr) (n0:Nat) (H0:Hp),aj (Fl.pair .i64) 76 r a0 n0 H0/\u=(ll a0 r n0)/\G=[H0]
theorem xF.c (H:xF.f s=some r) (cF:fG s bd dr):
 QR 35 [(pp bd)] [dr] [dr] F (xF.R r):=by
 unfold xF.f at H;refine aB Tryz.func35 J J (λW=>rc T 6 ?_);obtain⟨b3,H3,p_,H4,s3,s4,bT⟩:=(λx=>x) cF;refine bz 0 (congrArg some bT) (fz J (rc T 2 (aW (si (B:=λ_=>[]) [] J J J J Js J J (KN.c _ (yX (j:=1) J)) (λ_=>kr xn.R [2] [2] J adD H (xn.c · s3) (λv1 H=>?_))))));rintro _ _ ⟨a5,n5,H5,s5,rfl,rfl⟩;refine fz J (ro T 4 ?_)
 cases H;refine cq [1,3,1] J bT (p1 T J [1,1,0] ⟨a5,n5,H5,s5,J,J⟩ J)
def C0.f (s:bJ):Option (Int×Bool):=(D9.f s.nav).bind λv1=>some (v1.1,v1.2)
theorem C0.c (H:C0.f s=some r) (cF:fG s bd dr):
 QU 40 [(pp bd)] [dr] F (.tuple #[(ii r.1),(bb r.2)]):=by
 unfold C0.f at H;refine aB Tryz.func40 J J (λW=>rc T 7 ?_);obtain⟨b3,H3,p_,H4,s3,s4,bT⟩:=(λx=>x) cF;refine bz 0 (congrArg some bT) (fz J (rc T 2 (aW (si (B:=λ_=>[]) [] J J J J Js J J (KN.c _ (yX (j:=1) J)) (λ_=>k [2] J adG H (D9.c · s3) (λv1 H=>ro T 7 ?_))))))
 cases H;refine cq [1,1,1] J bT (p0 T J [1,0] J)
theorem WK.c {b:Nat} {c0 c1 c2:Value} (F:Hp) (m:(b,Obj.cells #[c0,c1,c2] 103 (0,0))∈F):
 QU 53 [(pp b)] [] F c2:=by
 refine aB Tryz.func53 J J (λW=>rc T 12 (dW J (rc T 7 (lg T J (np (j:=0) m J J) (ro T 4 (Fh (T:=T) J (.tmp J .nil) (λw o=>⟨(),J,Cv [0] J o⟩)))))))
def A5.f (s:bJ):Option (List aF):=c_ s.eY ((zZ.f).bind λv2=>some v2) (λx1=>(pI.f x1).bind λv3=>some v3)
def A5.R (r:(List aF)) (u:Value) (G:List Hp):Prop:= ∃(a0:Option Addr) (n0:Nat) (H0:Hp),aj lD 67 r a0 n0 H0/\u=(ll a0 r n0)/\G=[H0]
theorem A5.c (H:A5.f s=some r) (cF:fG s bd dr):
 QR 23 [(pp bd)] [dr] [dr] F (A5.R r):=by
 unfold A5.f at H;refine aB Tryz.func23 J J (λW=>rc T 6 ?_);obtain⟨b3,H3,p_,H4,s3,s4,bT⟩:=(λx=>x) cF;refine bz 0 (congrArg some bT) (fz J ?_);rcases q1:s.eY with _ |x1
 ·replace H:=eJ q1 H;rw[q1] at s4;obtain⟨rfl,rfl⟩:=s4;refine rc T 2 (aW (si (B:=λ_=>[]) [] J J J J S0 J J (WK.c _ (yX (j:=1) J)) (λ_=>kr zZ.R [] [] J Ju H (zZ.c ·) (λv2 H=>?_))));rintro _ _ ⟨a7,n7,H7,s7,rfl,rfl⟩;refine fz J (ro T 4 ?_)
  cases H;refine cq [1,1,1] J bT (p1 T J [1,1,0] ⟨a7,n7,H7,s7,J,J⟩ J)
 replace H:=eK q1 H;rw[q1] at s4;obtain⟨b6,H6,s6,rfl,sD⟩:=s4;refine bz 3 (congrArg some sD) (fz J (rc T 2 (aW (si (B:=λ_=>[]) [] J J J J S0 J J (WK.c _ (yX (j:=1) J)) (λ_=>kr pI.R [3] [3] J Ju H (pI.c · s6) (λv3 H=>?_))))));rintro _ _ ⟨a8,n8,H8,s8,rfl,rfl⟩;refine fz J (ro T 4 ?_)
 cases H;refine cq [4] J sD (cq [1,1,2] J bT (p1 T J [1,1,0] ⟨a8,n8,H8,s8,J,J⟩ J))
end
noncomputable section
def vH.l0:Nat->(List fc)->(List fc)->Int->Option Bool
 |0,_,_,_=>none
 |k3+1,a,b,x2=>if x2<(List.length a:Int) then(if(0<=x2/\x2<(List.length a:Int)) then(if(0<=x2/\x2<(List.length b:Int)) then(if(!(((rd a x2).Id==(rd b x2).Id)&&(((rd a x2).To==(rd b x2).To)&&true)))=true then(some false) else(vH.l0 k3 a b (aa (x2+1)))) else none) else none) else(some true)
def vH.f (a:(List fc)) (b:(List fc)):Option Bool:=if((List.length a:Int)!=(List.length b:Int))=true then(some false) else(vH.l0 fuel a b 0)
theorem vH.c (H:vH.f a b=some r) (DH:aS jy a E5 F) (LU:List.length a<=GQ) (hJ:aS jy b jV F) (gm:List.length b<=jK):
 QU 46 [(ll E5 a GQ),(ll jV b jK)] [] F (bb r):=by
 unfold vH.f at H;refine aB Tryz.func46 J J (λW=>rc T 15 (cb J H (λH=>?_) (λH=>?_)))
 ·refine rc T 7 ?_
  cases H;exact p0 T J [0] J
 refine rc T 9 (lq [0,1] [0] (λ(⟨k3,x2⟩:Nat×Int)=>(vH.l0 k3 a b x2=some r,[(5,(ii x2))],[])) J J (fuel,0) [0] H J J ?_);rintro k3 x2 Z2;replace Z2:vH.l0 (k3+1) a b x2=some r:=Z2;rw[vH.l0] at Z2;refine rc T 9 (cd J Z2 (λZ2=>?_) (λZ2=>?_))
 ·refine rc T 5 (dj mix ay (au T J (au T J ?_)));obtain⟨c4,Z2⟩:=az Z2;obtain⟨q1,o1,e1⟩:=DH.addr c4.1 c4.2;refine aN J J J (cB T J J J J J e1 c4.1 c4.2) (aN J J J (fm T (cs:=[(ii (rd a x2).Id),(ii (rd a x2).To)]) J J J J J J (gB (k:=jy) (rO DH 0) e1 c4 J)) (au T J (au T J ?_)));obtain⟨c5,Z2⟩:=az Z2;obtain⟨q2,o2,e2⟩:=hJ.addr c5.1 c5.2;refine aN J J J (cB T J J J J J e2 c5.1 c5.2) (aN J J J (fm T (cs:=[(ii (rd b x2).Id),(ii (rd b x2).To)]) J J J J J J (gB (k:=jy) (rO hJ 0) e2 c5 J)) (aN J J J (Ms T (((rd a x2).Id==(rd b x2).Id)&&(((rd a x2).To==(rd b x2).To)&&true)) J J J J aiv ay J) (cR (rx T 1 (cb J Z2 (λZ2=>?_) (λZ2=>?_))))))
  ·refine rc T 11 ?_
   cases Z2;exact p0 T J [0] J
  refine rc T 9 (ar _ [0] Z2 J J)
 refine rc T 11 ?_
 cases Z2;exact p0 T J [0] J
end
noncomputable section
def vX.f (l:(List sG)) (n:Int):Option Int:=if(0<=(0:Int)/\(0:Int)<=(if n<(List.length l:Int) then n else(List.length l:Int))/\(if n<(List.length l:Int) then n else(List.length l:Int))<=(List.length l:Int)) then(some (if n<(List.length l:Int) then n else(List.length l:Int))) else none
theorem vX.c (H:vX.f l n=some r) (dg:aS Gs l iu F) (gn:List.length l<=ic):
 QU 13 [(ll iu l ic),(ii n)] [] F (ll (fS iu ic (Int.toNat 0) 3) (aA l 0 r) (ic-Int.toNat 0)):=by
 unfold vX.f at H;refine aB Tryz.func13 J J (λW=>rc T 12 ?_);obtain⟨c1,H⟩:=az H;refine bp J (kn T J J J J J J c1 gn) (ro T 4 ?_);obtain rfl:=Option.some.inj H;exact Fh (T:=T) J (.tmp J .nil) (λw o=>⟨(),J,Cv [0] J o⟩)
theorem vX.b {l:(List sG)} {n:Int} {r:Int} (H:vX.f l n=some r):(0<=(0:Int)/\(0:Int)<=r/\r<=(List.length l:Int)):=by
 unfold vX.f at H;obtain⟨c,H⟩:=az H;obtain rfl:=Option.some.inj H;exact c
def ED.f:Option Bool:=(tm.f 1 2).bind λv1=>c_ v1 (some false) (λeW=>(kX.f (aJ.mk 3 1 [5,2,9])).bind λv2=>(lW.f eW (dn.mk 1 0 0 v2)).bind λv3=>(lW.f v3.2 (dn.mk 3 0 2 [])).bind λv4=>(lW.f v4.2 (dn.mk 6 2 0 [])).bind λv5=>(lW.f v5.2 (dn.mk 7 0 0 [])).bind λv6=>(if(v3.1.Code==0)=true then(if(v4.1.Id==0)=true then(if(v5.1.D==11)=true then(if(v5.1.cz==1)=true then((vH.f v6.1.fi [(fc.mk 0 1)]).bind λv9=>if v9=true then((A5.f v6.2).bind λv10=>some ((List.length v10:Int)==1)) else(some false)) else(some false)) else(some false)) else(some false)) else(some false)).bind λx7=>some x7)
theorem ED.c (H:ED.f=some r) (hG:fK 414 eZ hU el F):
 QU 18 [] [] F (bb r):=by
 unfold ED.f at H;refine aB Tryz.func18 J J (λW=>rc T 7 (kr tm.R [] [] J SG H (tm.c ·) (λv1 H=>?_)));rintro _ _ ⟨_,_,O2,rfl,rfl⟩;rcases v1 with _ |eW
 ·replace H:=eJ J H;obtain⟨rfl,rfl⟩:=O2;refine ro T 10 (mW J (rc T 7 ?_))
  cases H;exact p0 T J [0] J
 replace H:=eK J H;obtain⟨b1,H1,s1,rfl,rfl⟩:=O2;refine ro T 10 (dW J (rc T 4 (aW (cU (k:=(Fl.int .u8)) T [5,2,9] J J J J J J J J J (λa2 H2 s2=>ro T 1 (nc T J (λb3=>sg T 3 J (ro T 5 (lm T 3 J (kr kX.R [] [] J M8 H (kX.c (m:=(aJ.mk 3 1 [5,2,9])) · (oO s2 2) s2.bW) (λv2 H=>?_)))))))))));rintro _ _ ⟨a4,n4,H4,s4,rfl,rfl⟩;refine fz J (ro T 1 (kr (lW.R el b1) [] [1] J FQ H (lW.c (o:=(dn.mk 1 0 0 v2)) · (dB hG (j:=0) J) s1 (oO s4 3) s4.bW) (λv3 H=>?_)));rintro _ _ ⟨a5,n5,H5,a6,n6,H6,H7,s5,s6,s7,rfl,rfl⟩;refine fz J (nc T J (λb8=>sg T 7 J (ro T 1 (ke [1,3] [0,3,3,3,3] J J (rx T 5 (kr (lW.R el b1) [] [3] J FQ H (lW.c (o:=(dn.mk 3 0 2 [])) · (dB hG (j:=0) J) s7 (.inl J) (Nat.le_refl _)) (λv4 H=>?_)))))));rintro _ _ ⟨a9,n9,H9,cw,n10,bV,cA,s9,bS,cS,rfl,rfl⟩;refine fz J (nc T J (λki=>sg T 7 J (ro T 6 (kr (lW.R el b1) [] [6] J FQ H (lW.c (o:=(dn.mk 6 2 0 [])) · (dB hG (j:=0) J) cS (.inl J) (Nat.le_refl _)) (λv5 H=>?_)))));rintro _ _ ⟨dy,n13,eo,iC,n14,fx,dF,dh,dO,dK,rfl,rfl⟩;refine fz J (nc T J (λpF=>sg T 10 J (ro T 6 (kr (lW.R el b1) [] [9] J FQ H (lW.c (o:=(dn.mk 7 0 0 [])) · (dB hG (j:=0) J) dK (.inl J) (Nat.le_refl _)) (λv6 H=>?_)))));rintro _ _ ⟨a17,n17,dV,iY,n18,fb,kF,fh,fq,gQ,rfl,rfl⟩;refine fz J (nc T J (λIL=>sg T 13 J (ro T 1 (ks [1,3,4,5,6] J (rx T 1 (mq H [] [0] (λz8 (x7:Bool)=>(x7=z8,[(0,(bb x7))],[])) J J (λz8 Z8 _=>?_) ?_))))))
 ·refine rc T 2 (lf T 3 J (ro T 2 (ab 29 J Z8 (λZ8=>?_) (λZ8=>?_))))
  ·refine ro T 1 (lf T 6 J (ro T 3 (ab 34 J Z8 (λZ8=>?_) (λZ8=>?_))))
   ·refine ro T 1 (lf T 9 J (ro T 3 (ab 39 J Z8 (λZ8=>?_) (λZ8=>?_))))
    ·refine ro T 1 (lf T 9 J (ro T 3 (ab 44 J Z8 (λZ8=>?_) (λZ8=>?_))))
     ·refine ro T 1 (lf T 13 J (ro T 1 (aW (cU (k:=jy) T [(fc.mk 0 1)] J J J J J J J J J (λa21 lj jO=>k [] J adx Z8 (vH.c (b:=[(fc.mk 0 1)]) · (oO fh 10) fh.bW (oO jO 14) jO.bW) (λv9 Z8=>ro T 2 (ab 51 J Z8 (λZ8=>?_) (λZ8=>?_))))))))
      ·refine ro T 1 (kr A5.R [12] [12] J acN Z8 (A5.c · gQ) (λv10 Z8=>?_));rintro _ _ ⟨a22,n22,mj,iI,rfl,rfl⟩;refine fz J (ro T 6 (am _ [0] (oi Z8) J J))
      refine ro T 8 (am _ [0] (oi Z8) J J)
     refine ro T 15 (am _ [0] (oi Z8) J J)
    refine ro T 20 (am _ [0] (oi Z8) J J)
   refine ro T 25 (am _ [0] (oi Z8) J J)
  refine ro T 30 (am _ [0] (oi Z8) J J)
 rintro _ x7 rfl H;refine rc T 1 ?_
 cases H;exact p0 T J [0] J
end
noncomputable section
def fT.l2:Nat->(List (Int×Int))->Int->Int->Option (Sum Bool Unit)
 |0,_,_,_=>none
 |w9+1,bZ,b_,fv=>if fv<b_ then(if(0<=fv/\fv<(List.length bZ:Int)) then(if(0<=b_/\b_<(List.length bZ:Int)) then(if(((rd bZ fv).1==(rd bZ b_).1)&&((rd bZ fv).2==(rd bZ b_).2))=true then(some (Sum.inl false)) else(fT.l2 w9 bZ b_ (aa (fv+1)))) else none) else none) else(some (Sum.inr ()))
def fT.l1:Nat->aJ->(iZ×bJ)->(List (Int×Int))->Int->Option (Sum Bool bJ)
 |0,_,_,_,_=>none
 |w6+1,gT,v12,bZ,b_=>if b_<(List.length bZ:Int) then(((if(0<=b_/\b_<(List.length bZ:Int)) then(if(rd bZ b_).1<0 then(some true) else(if(rd bZ b_).1≥(List.length gT.C:Int) then(some true) else(if(rd bZ b_).2<0 then(some true) else((ui.f gT.W gT.H).bind λv24=>some (decide ((rd bZ b_).2≥v24)))))) else none).bind λbR=>if bR=true then(some (Sum.inl false)) else(fT.l2 fuel bZ b_ 0)).bind λzz=>match zz with |Sum.inl q=>some (Sum.inl q) |Sum.inr _=>fT.l1 w6 gT v12 bZ (aa (b_+1))) else(some (Sum.inr v12.2))
def fT.l0:Nat->Int->(List dn)->bJ->Int->Option Bool
 |0,_,_,_,_=>none
 |k9+1,v1,v3,x7,x8=>if x8<(List.length v3:Int) then((if(0<=x8/\x8<(List.length v3:Int)) then((lW.f x7 (rd v3 x8)).bind λv12=>(xG.f v12.2).bind λgT=>(xF.f v12.2).bind λbZ=>(C0.f v12.2).bind λdi=>(if((decide ((List.length bZ:Int)>v1))||(!(di.2==(decide ((List.length bZ:Int)>0)))))=true then(some true) else(if(0<=x8/\x8<(List.length v3:Int)) then(if((rd v3 x8).Kind==8)=true then(some ((List.length bZ:Int)!=0)) else(if((rd v3 x8).Kind==1)=true then(if(v12.1.Code==0)=true then(some ((List.length bZ:Int)!=0)) else(some false)) else(some false))) else none)).bind λdm=>if dm=true then(some (Sum.inl false)) else(fT.l1 fuel gT v12 bZ 0)) else none).bind λzz=>match zz with |Sum.inl q=>some q |Sum.inr aM=>fT.l0 k9 v1 v3 aM (aa (x8+1))) else((ED.f).bind λv28=>some v28)
def fT.f (ag:Int) (w:Int) (h:Int) (p3:(List Int)) (l:(List sG)):Option Bool:=(e_.f ag 1 5).bind λv1=>(vX.f l 50).bind λv2=>(nD.f w h p3 (aA l 0 v2)).bind λv3=>(tm.f v1 5).bind λv4=>c_ v4 (some false) (λqV=>fT.l0 fuel v1 v3 qV 0)
theorem fT.c (H:fT.f ag w h p3 l=some r) (hG:fK 414 eZ hU el F) (abL:aS (Fl.int .u8) p3 XQ F) (ZT:List.length p3<=afW) (dg:aS Gs l iu F) (gn:List.length l<=ic):
 QU 10 [(ii ag),(ii w),(ii h),(ll XQ p3 afW),(ll iu l ic)] [] F (bb r):=by
 unfold fT.f at H;refine aB Tryz.func10 J J (λW=>rc T 8 (k [] J lA H (e_.c ·) (λv1 H=>ro T 9 ?_)));obtain⟨v2,V2,H⟩:=fY H;have c3:=vX.b V2;refine aW (si (B:=λ_=>[]) [] J J J J ab0 J J (vX.c V2 (rO dg 0) gn) (λ_=>kr nD.R [] [] J acx H (nD.c · (rO abL 0) ZT (mL (rO dg 0) c3 gn) (mh c3 gn)) (λv3 H=>?_)));rintro _ _ ⟨a1,n1,H1,s1,rfl,rfl⟩;refine fz J (ro T 6 (kr tm.R [] [] J SG H (tm.c ·) (λv4 H=>?_)));rintro _ _ ⟨_,_,O6,rfl,rfl⟩;rcases v4 with _ |qV
 ·replace H:=eJ J H;obtain⟨rfl,rfl⟩:=O6;refine ro T 10 (mW J (rc T 7 ?_))
  cases H;exact p0 T J [0] J
 replace H:=eK J H;obtain⟨b2,H2,s2,rfl,rfl⟩:=O6;refine ro T 10 (dW J (rc T 9 (lq [11,12,13] [0,0] (λ(⟨k9,x7,x8,H4⟩:Nat×bJ×Int×Hp)=>(fT.l0 k9 v1 v3 x7 x8=some r/\fG x7 b2 H4,[(14,(ii x8))],[H4])) J J (fuel,qV,0,H2) [0,0,0] ⟨H,s2⟩ J J ?_)));rintro k9 ⟨x7,x8,H4⟩ ⟨Z7,s4⟩;rw[fT.l0] at Z7;refine rc T 9 (cd J Z7 (λZ7=>?_) (λZ7=>?_))
 ·refine rc T 2 (mq Z7 [11,12,13,14] [0,0] (λiW (⟨aM,H5⟩:bJ×Hp)=>((Sum.inr aM)=iW/\fG aM b2 H5,[],[H5])) J J (λiW Z9 Z7=>?_) ?_)
  ·refine rc T 6 ?_;obtain⟨gk,Z9⟩:=az Z9;obtain⟨q6,o6,e6⟩:=s1.r.addr gk.1 gk.2;refine ix T J e6 gk ?_;obtain⟨_,w8,⟨a7,n7,⟨r7,m7⟩,rfl⟩⟩:=ml.view s1.r gk;refine bp J (fm T (cs:=[(ii (rd v3 x8).Kind),(ii (rd v3 x8).A),(ii (rd v3 x8).B),(ll a7 (rd v3 x8).Map n7)]) J J J J J J (NV (j:=1) J w8 e6 0 J)) (kr (lW.R el b2) [] [2] J FQ Z9 (lW.c · (dB hG (j:=0) J) s4 (rO r7 1) m7) (λv12 Z9=>?_));rintro _ _ ⟨a9,n9,H9,cw,n10,bV,cA,s9,bS,cS,rfl,rfl⟩;refine fz J (nc T J (λki=>sg T 5 J (ro T 5 (kr xG.R [4] [4] J ab2 Z9 (xG.c · cS) (λgT Z9=>?_)))));rintro _ _ ⟨dy,n13,eo,dh,rfl,rfl⟩;refine fz J (ro T 1 (kr xF.R [6] [6] J adu Z9 (xF.c · cS) (λbZ Z9=>?_)));rintro _ _ ⟨iC,n14,fx,dO,rfl,rfl⟩;refine fz J (nc T J (λmX=>sg T 8 J (ro T 6 (k [7] J adv Z9 (C0.c · cS) (λdi Z9=>ro T 8 (mq Z9 [11,12,13,14,16,17] [0,0,5,5,3,3] (λz17 (dm:Bool)=>(dm=z17,[(91,(bb dm))],[])) J J (λz17 cm _=>?_) ?_))))))
   ·refine rc T 6 (go T [5,6,7,8,9,10] 59 [11,12,13,14,15,16,17] 65 J J J J J J J (ro T 1 (ab 66 J cm (λcm=>?_) (λcm=>?_))))
    ·refine ro T 27 (am _ [0,0,5,5,3,3] (oi cm) J J)
    refine ro T 2 ?_;obtain⟨jc,cm⟩:=az cm;obtain⟨VB,UX,wL⟩:=s1.r.addr jc.1 jc.2;refine ix T J wL jc (ro T 1 ?_);obtain⟨_,W1,⟨a17,n17,⟨VU,m17⟩,rfl⟩⟩:=ml.view s1.r jc;refine lg T J (yR (j:=1) J W1 wL 0 J) (ro T 2 (ab 73 J cm (λcm=>?_) (λcm=>?_)))
    ·refine ro T 20 (am _ [0,0,5,5,3,3] (oi cm) J J)
    refine ro T 2 (ix T J wL jc (ro T 1 (lg T J (yR (j:=1) J W1 wL 0 J) (ro T 2 (ab 80 J cm (λcm=>?_) (λcm=>?_))))))
    ·refine ro T 1 (lf T 4 J (ro T 4 (ab 86 J cm (λcm=>?_) (λcm=>?_))))
     ·refine ro T 7 (am _ [0,0,5,5,3,3] (oi cm) J J)
     refine ro T 7 (am _ [0,0,5,5,3,3] (oi cm) J J)
    refine ro T 13 (am _ [0,0,5,5,3,3] (oi cm) J J)
   rintro _ dm rfl Z9;refine cb J Z9 (λZ9=>?_) (λZ9=>?_)
   ·refine rc T 12 ?_;obtain rfl:=Option.some.inj Z9;obtain rfl:=Option.some.inj (show some false=some r from Z7)
    exact p0 T J [0] J
   refine rc T 8 (lq [11,12,13,14,16,17] [0,0,0,0,0,0] (λ(⟨w6,b_⟩:Nat×Int)=>(fT.l1 w6 gT v12 bZ b_=some iW,[(20,(ii b_))],[])) J J (fuel,0) [0,0,0,0,0,0] Z9 J J ?_);rintro w6 b_ mT;replace mT:fT.l1 (w6+1) gT v12 bZ b_=some iW:=mT;rw[fT.l1] at mT;refine rc T 9 (cd J mT (λmT=>?_) (λmT=>?_))
   ·refine rc T 2 (mq mT [11,12,13,14,16,17,20] [0,0,0,0,0,0] (λz21 (_:Unit)=>((Sum.inr ())=z21,[],[])) J J (λz21 Bo mT=>?_) ?_)
    ·refine rc T 2 (mq Bo [11,12,13,14,16,17,20] [0,0,0,0,0,0] (λz23 (bR:Bool)=>(bR=z23,[(135,(bb bR))],[])) J J (λz23 gJ _=>?_) ?_)
     ·refine dj mix ay (au T J (au T J ?_));obtain⟨pH,gJ⟩:=az gJ;obtain⟨VC,UY,rn⟩:=dO.r.addr pH.1 pH.2;refine aN J J J (cB T J J J J J rn pH.1 pH.2) (aN J J J (I7 (j:=0) T J J J J J J) (aN J J J (aw T J J J J (gM (k:=(Fl.pair .i64)) (oO dO 5) rn pH 0 J)) (au T J (au T J (qd 104 J gJ (λgJ=>?_) (λgJ=>?_))))))
      ·iterate 31 refine au T J ?_
       refine cR (rx T 1 (am _ [0,0,0,0,0,0] (oi gJ) J J))
      refine au T J (au T J (aN J J J (cB T J J J J J rn pH.1 pH.2) (aN J J J (I7 (j:=0) T J J J J J J) (aN J J J (aw T J J J J (gM (k:=(Fl.pair .i64)) (oO dO 5) rn pH 0 J)) (au T J (aN J J J (aw T J J J J (aD (j:=3) J J)) ?_))))))
      iterate 4 refine au T J ?_
      refine qd 115 J gJ (λgJ=>?_) (λgJ=>?_)
      ·iterate 20 refine au T J ?_
       refine cR (rx T 1 (am _ [0,0,0,0,0,0] (oi gJ) J J))
      refine au T J (au T J (aN J J J (cB T J J J J J rn pH.1 pH.2) (aN J J J (I7 (j:=1) T J J J J J J) (aN J J J (aw T J J J J (gM (k:=(Fl.pair .i64)) (oO dO 5) rn pH 1 J)) (au T J (au T J (au T J (qd 123 J gJ (λgJ=>?_) (λgJ=>?_)))))))))
      ·iterate 12 refine au T J ?_
       refine cR (rx T 1 (am _ [0,0,0,0,0,0] (oi gJ) J J))
      refine au T J (au T J (aN J J J (cB T J J J J J rn pH.1 pH.2) (aN J J J (I7 (j:=1) T J J J J J J) (aN J J J (aw T J J J J (gM (k:=(Fl.pair .i64)) (oO dO 5) rn pH 1 J)) (au T J (aN J J J (aw T J J J J (aD (j:=3) J J)) (au T J (aN J J J (aw T J J J J (aD (j:=3) J J)) ?_))))))));obtain⟨v24,XK,gJ⟩:=fY gJ;refine tF J J J J J J M3 J (ui.c XK) (au T J (au T J (cR (rx T 1 (am _ [0,0,0,0,0,0] (oi gJ) J J)))))
     rintro _ bR rfl Bo;refine cb J Bo (λBo=>?_) (λBo=>?_)
     ·refine rc T 16 ?_;obtain rfl:=Option.some.inj Bo;obtain rfl:=Option.some.inj (show some (Sum.inl false)=some iW from mT)
      obtain rfl:=Option.some.inj (show some false=some r from Z7)
      exact p0 T J [0] J
     refine rc T 8 (lq [11,12,13,14,16,17,20] [0,0,0,0,0,0] (λ(⟨w9,fv⟩:Nat×Int)=>(fT.l2 w9 bZ b_ fv=some z21,[(21,(ii fv))],[])) J J (fuel,0) [0,0,0,0,0,0] Bo J J ?_);rintro w9 fv pD;replace pD:fT.l2 (w9+1) bZ b_ fv=some z21:=pD;rw[fT.l2] at pD;refine rc T 8 (cd J pD (λpD=>?_) (λpD=>?_))
     ·refine rc T 5 (dj mix ay (au T J (au T J ?_)));obtain⟨Fq,pD⟩:=az pD;obtain⟨VD,UZ,sw⟩:=dO.r.addr Fq.1 Fq.2;refine aN J J J (cB T J J J J J sw Fq.1 Fq.2) (aN J J J (fm T (cs:=[(ii (rd bZ fv).1),(ii (rd bZ fv).2)]) J J J J J J (gB (k:=(Fl.pair .i64)) (oO dO 5) sw Fq J)) (au T J (au T J ?_)));obtain⟨LQ,pD⟩:=az pD;refine aN J J J (cB T J J J J J sw LQ.1 LQ.2) (aN J J J (fm T (cs:=[(ii (rd bZ b_).1),(ii (rd bZ b_).2)]) J J J J J J (gB (k:=(Fl.pair .i64)) (oO dO 5) sw LQ J)) (aN J J J (abp T J J J J J J aiu) (cR (rx T 1 (cb J pD (λpD=>?_) (λpD=>?_))))))
      ·refine rc T 19 ?_;obtain rfl:=Option.some.inj pD;obtain rfl:=Option.some.inj (show some (Sum.inl false)=some iW from mT)
       obtain rfl:=Option.some.inj (show some false=some r from Z7)
       exact p0 T J [0] J
      refine rc T 9 (ar _ [0,0,0,0,0,0] pD J J)
     refine rc T 6 (am () [0,0,0,0,0,0] (oi pD) J J)
    rintro _ ⟨⟩ rfl mT;refine rc T 6 (ar _ [0,0,0,0,0,0] mT J J)
   refine rc T 6 (am (_,_) [0,0,0] ⟨oi mT,cS⟩ J J)
  rintro _ ⟨aM,H5⟩ ⟨rfl,s5⟩ Z7;refine rc T 6 (ar (_,_,_) [0,0,0] ⟨Z7,s5⟩ J J)
 refine rc T 7 (k [] J acj Z7 (ED.c · (dB hG (j:=0) J)) (λv28 Z7=>ro T 4 ?_))
 cases Z7;exact p0 T J [0] J
def fT.Pure:Prop:= ∀(ag:Int) (w:Int) (h:Int) (p3:(List Int)) (l:(List sG)),vq ag->vq w->vq h->(∀y∈p3,eP y)->(∀y∈l,(vq y.Kind/\vq y.A/\vq y.B))->List.length p3<=9223372036854775807->List.length l<=9223372036854775807->fT.f ag w h p3 l=some true
end
end Go.Proofs.YthodkonhneebbaaGreatDoor
