/- What the functions of some packages compute, each as a function of plain Lean, with its contract. No condition. -/
import Derived.Test.YthodkonhneebbaaGreatDoorKDT
import Derived.Test.YthodkonhneebbaaGreatDoorKD5
namespace Go.Proofs.YthodkonhneebbaaGreatDoor
open Go.Hx
open Int renaming tmod->fy,tdiv->cZ,toNat->ax
open List renaming length->aa,set->aD,replicate->ct,length_set->nF
open BitVec renaming toNat->fX,ofInt->cg
set_option maxRecDepth 100000
set_option linter.unusedSimpArgs false
set_option linter.unusedVariables false
set_option maxHeartbeats 4000000
set_option autoImplicit true
set_option relaxedAutoImplicit true
noncomputable section
def nn.f (ag:fb) (n:Int):Option ((List Int)×Er×fb):=if(af ((aa ag.b:Int)-ag.aZ))<n then(some ([],(Er.dM 6),ag)) else(if(0<=(af ((af (ag.aZ+n))-n))/\(af ((af (ag.aZ+n))-n))<=(af (ag.aZ+n))/\(af (ag.aZ+n))<=(aa ag.b:Int)) then(some ((aB ag.b (af ((af (ag.aZ+n))-n)) (af (ag.aZ+n))),Er.nil,(fb.mk ag.b (af (ag.aZ+n))))) else none)
def nn.R (el:Nat->Addr) (aW:Nat) (y0:Value) (xr:List Int) (ar:Option Addr) (nr:Nat) (r:((List Int)×Er×fb)):bk:=λu G=> ∃(a0:Option Addr) (n0:Nat) (v1:Value) (H1:Hp),dD (Fl.int .u8) xr ar nr r.1 a0 n0/\aa r.1<=n0/\gm 414 el r.2.1 v1 H1/\u=(.tuple #[(ll a0 r.1 n0),v1])/\G=[H1,(cl aW 340 [y0,(ii r.2.2.aZ)])]
theorem nn.c (H:nn.f ag n=some r) (hG:fK 414 fa gP el F) (nh:aP (Fl.int .u8) ag.b il F) (kM:aa ag.b<=g_):
 QR 278 [(pp aW),(ii n)] [(cl aW 340 [(ll il ag.b g_),(ii ag.aZ)])] [] F (nn.R el aW (ll il ag.b g_) ag.b il g_ r):=by
 unfold nn.f at H;refine aG Tryz.func278 J J (λW=>rc T 8 (dq mix aA (au T J (au T J (au T J (cw T 0 J J J ?_))))))
 iterate 4 refine au T J ?_
 refine cw T 0 J J J (au T J (au T J (au T J (cM (rx T 1 (cd J H (λH=>?_) (λH=>?_)))))))
 ·refine rc T 1 (dq mix aA (bg J J J (cC T J J J J (su (j:=1) J hG (g:=6) (by decide))) (au T J (au T J (cM (rx T 3 ?_))))))
  cases H;refine bA (p1 T J [2,0,0] ⟨none,0,(.iface 414 (.pointer (some (el 6)))),[],dD.nil,(Nat.zero_le _),oI,J,J⟩ J)
 refine rc T 7 (lf T 0 J (ro T 4 (sg T 0 J (ro T 3 (dq mix aA (au T J (au T J (au T J (cw T 0 J J J (au T J (au T J (au T J (cw T 0 J J J ?_)))))))))))))
 iterate 5 refine au T J ?_
 refine cw T 0 J J J ?_;obtain⟨c2,H⟩:=az H;refine bg J J J (kP T J J J J J J c2 kM) (au T J (au T J (cM (rx T 2 ?_))))
 cases H;refine bA (p1 T J [2,0,0] ⟨(gk il g_ (ax (af ((af (ag.aZ+n))-n))) 1),(g_-ax (af ((af (ag.aZ+n))-n))),.nilIface,[],(dD.sub dD.self kM c2),(mS c2 kM),uL,J,J⟩ J)
def qv.f (ag:fb) (n:Int):Option ((List Int)×Er×fb):=(nn.f ag n).bind λv1=>(if(Er.isNil v1.2.1)=true then((wQ.f v1.1 0).bind λv4=>some v4) else(some false)).bind λx2=>if x2=true then(some (v1.1,(Er.dM 5),(fb.mk ag.b v1.2.2.aZ))) else(some (v1.1,v1.2.1,(fb.mk ag.b v1.2.2.aZ)))
def qv.R (el:Nat->Addr) (aW:Nat) (y0:Value) (xr:List Int) (ar:Option Addr) (nr:Nat) (r:((List Int)×Er×fb)):bk:=λu G=> ∃(a0:Option Addr) (n0:Nat) (v1:Value) (H1:Hp),dD (Fl.int .u8) xr ar nr r.1 a0 n0/\aa r.1<=n0/\gm 414 el r.2.1 v1 H1/\u=(.tuple #[(ll a0 r.1 n0),v1])/\G=[H1,(cl aW 340 [y0,(ii r.2.2.aZ)])]
theorem qv.c (H:qv.f ag n=some r) (hG:fK 414 fa gP el F) (nh:aP (Fl.int .u8) ag.b il F) (kM:aa ag.b<=g_):
 QR 279 [(pp aW),(ii n)] [(cl aW 340 [(ll il ag.b g_),(ii ag.aZ)])] [] F (qv.R el aW (ll il ag.b g_) ag.b il g_ r):=by
 unfold qv.f at H;refine aG Tryz.func279 J J (λW=>rc T 10 (kr (nn.R el aW (ll il ag.b g_) ag.b il g_) [] [0] J M_ H (nn.c · (dE hG (j:=0) J) (rO nh 0) kM) (λv1 H=>?_)));rintro _ _ ⟨a2,n2,v3,H3,DP,I8,s3,rfl,rfl⟩;refine fz J (ro T 8 (mq H [6,7] [0,0,0] (λz3 (x2:Bool)=>(x2=z3,[(19,(bb x2))],[])) J J (λz3 Z2 _=>?_) ?_))
 ·refine rc T 2 (bx J (Jn T J J J (rZ s3 (j:=1) J)) (ro T 1 (ab 16 J Z2 (λZ2=>?_) (λZ2=>?_))))
  ·refine ro T 1 (k [] J M1 Z2 (wQ.c · (oH DP (rO nh 0) kM) I8) (λv4 Z2=>ro T 3 (am _ [0,0,0] (oi Z2) J J)))
  refine ro T 5 (am _ [0,0,0] (oi Z2) J J)
 rintro _ x2 rfl H;refine cb J H (λH=>?_) (λH=>?_)
 ·refine rc T 1 (lg T J (su (j:=0) J hG (g:=5) (by decide)) (ro T 12 ?_))
  cases H;refine bA (p1 T J [3,2,0] ⟨a2,n2,(.iface 414 (.pointer (some (el 5)))),[],DP,I8,oI,J,J⟩ J)
 refine rc T 11 ?_
 cases H;exact p1 T J [1,1,0] ⟨a2,n2,v3,H3,DP,I8,s3,J,J⟩ J
def lD.l0:Nat->fb->Int->Int->List Int->Option (Sum ((List Int)×Er×fb) ((List Int)×Int))
 |0,_,_,_,_=>none
 |k8+1,ag,n,x6,x7=>if(aa x7:Int)<n then((nn.f (fb.mk ag.b x6) 2).bind λv9=>if(!(Er.isNil v9.2.1))=true then(some (Sum.inl ([],v9.2.1,(fb.mk ag.b v9.2.2.aZ)))) else(if(0<=(0:Int)/\(0:Int)<(aa v9.1:Int)) then(if(0<=(1:Int)/\(1:Int)<(aa v9.1:Int)) then((if(((rd v9.1 1)==0)||(decide ((af ((af (rd v9.1 0))+1))>(af (n-(aa x7:Int))))))=true then(some true) else(if(aa x7:Int)>0 then(if(0<=(af ((aa x7:Int)-1))/\(af ((aa x7:Int)-1))<(aa x7:Int)) then(some ((rd x7 (af ((aa x7:Int)-1)))==(rd v9.1 1))) else none) else(some false))).bind λaK=>if aK=true then(some (Sum.inl ([],(Er.dM 5),(fb.mk ag.b v9.2.2.aZ)))) else((kL.f [(rd v9.1 1)] (af ((af (rd v9.1 0))+1))).bind λv12=>if(aa x7+aa v12<=1099511627776) then(lD.l0 k8 ag n v9.2.2.aZ (x7++v12)) else none)) else none) else none)) else(some (Sum.inr (x7,x6)))
def lD.f (ag:fb) (n:Int):Option ((List Int)×Er×fb):=(lD.l0 fuel ag n ag.aZ []).bind λzz=>match zz with |Sum.inl q=>some q |Sum.inr (x1,x2)=>some (x1,Er.nil,(fb.mk ag.b x2))
def lD.R (el:Nat->Addr) (aW:Nat) (y0:Value) (r:((List Int)×Er×fb)):bk:=λu G=> ∃(a0 n0 H0:_) (v1:Value) (H1:Hp),ak (Fl.int .u8) 5 r.1 a0 n0 H0/\gm 414 el r.2.1 v1 H1/\u=(.tuple #[(ll a0 r.1 n0),v1])/\G=[H0,H1,(cl aW 340 [y0,(ii r.2.2.aZ)])]
theorem lD.c (H:lD.f ag n=some r) (hG:fK 414 fa gP el F) (nh:aP (Fl.int .u8) ag.b il F) (kM:aa ag.b<=g_):
 QR 281 [(pp aW),(ii n)] [(cl aW 340 [(ll il ag.b g_),(ii ag.aZ)])] [] F (lD.R el aW (ll il ag.b g_) r):=by
 unfold lD.f at H;refine aG Tryz.func281 J J (λW=>rc T 11 (mq H [] [1] (λz3 (⟨x1,x2,a2,n2,H2⟩:List Int×Int×Option Addr×Nat×Hp)=>((Sum.inr (x1,x2))=z3/\ak (Fl.int .u8) 5 x1 a2 n2 H2,[(6,(ll a2 x1 n2))],[H2,(cl aW 340 [(ll il ag.b g_),(ii x2)])])) J J (λz3 Z1 H=>?_) ?_))
 ·refine rc T 1 (bA (lq [0,1] [1] (λ(⟨k8,x6,x7,a4,n4,H4⟩:Nat×Int×List Int×Option Addr×Nat×Hp)=>(lD.l0 k8 ag n x6 x7=some z3/\ak (Fl.int .u8) 5 x7 a4 n4 H4,[(6,(ll a4 x7 n4))],[(cl aW 340 [(ll il ag.b g_),(ii x6)]),H4])) J J (fuel,ag.aZ,[],none,0,[]) [1,0,0] ⟨Z1,ak.nil⟩ J J ?_));rintro k8 ⟨x6,x7,a4,n4,H4⟩ ⟨Z2,s4⟩;rw[lD.l0] at Z2;refine rc T 9 (cd J Z2 (λZ2=>?_) (λZ2=>?_))
  ·refine rc T 6 (kr (nn.R el aW (ll il ag.b g_) ag.b il g_) [] [1] J M_ Z2 (nn.c (ag:=(fb.mk ag.b x6)) · (dE hG (j:=0) J) (rO nh 0) kM) (λv9 Z2=>?_));rintro _ _ ⟨a5,n5,v6,H6,FN,QS,s6,rfl,rfl⟩;refine fz J (ro T 11 (bx J (DY T J J J (rZ s6 (j:=2) J)) (ro T 2 (cb J Z2 (λZ2=>?_) (λZ2=>?_)))))
   ·refine rc T 13 ?_;obtain rfl:=Option.some.inj Z2;obtain rfl:=Option.some.inj (show some ([],v9.2.1,(fb.mk ag.b v9.2.2.aZ))=some r from H)
    refine bA (p1 T J [4,2,2,0] ⟨none,0,[],v6,H6,ak.nil,s6,J,J⟩ J)
   refine rc T 3 (dq mix aA (au T J ?_));obtain⟨c6,Z2⟩:=az Z2;obtain⟨q8,o8,e8⟩:=(dD.r FN nh kM).addr c6.1 c6.2;refine bg J J J (cB T J J J J J e8 c6.1 c6.2) (bg J J J (cC T J J J J (fv (k:=(Fl.int .u8)) (oH FN (rO nh 0) kM) e8 c6 0 J)) (au T J (au T J (au T J ?_))));obtain⟨c7,Z2⟩:=az Z2;refine bg J J J (cB T J J J J J e8 c7.1 c7.2) (bg J J J (cC T J J J J (fv (k:=(Fl.int .u8)) (oH FN (rO nh 0) kM) e8 c7 0 J)) (au T J (au T J (cM (rx T 2 (mq Z2 [0,1,6,9,10] [0,2,0] (λlW (aK:Bool)=>(aK=lW,[(55,(bb aK))],[])) J J (λlW Z8 _=>?_) ?_))))))
   ·refine rc T 4 (go T [3,4,5,6,7,8,9] 33 [0,1,6,9,10] 40 J J J J J J J (ro T 1 (ab 41 J Z8 (λZ8=>?_) (λZ8=>?_))))
    ·refine ro T 16 (am _ [0,2,0] (oi Z8) J J)
    refine ro T 4 (ad 45 J Z8 (λZ8=>?_) (λZ8=>?_))
    ·refine ro T 4 ?_;obtain⟨di,Z8⟩:=az Z8;obtain⟨q9,o9,e9⟩:=s4.r.addr di.1 di.2;refine ix T J e9 di (le T 0 (oO s4 1) e9 di J J (ro T 6 (am _ [0,2,0] (oi Z8) J J)))
    refine ro T 12 (am _ [0,2,0] (oi Z8) J J)
   rintro _ aK rfl Z2;refine cb J Z2 (λZ2=>?_) (λZ2=>?_)
   ·refine rc T 1 (dq mix aA (bg J J J (cC T J J J J (su (j:=0) J hG (g:=5) (by decide))) (au T J (au T J (cM (rx T 7 ?_))))))
    obtain rfl:=Option.some.inj Z2;obtain rfl:=Option.some.inj (show some ([],(Er.dM 5),(fb.mk ag.b v9.2.2.aZ))=some r from H)
    refine bA (bA (p1 T J [3,3,1,0] ⟨none,0,[],(.iface 414 (.pointer (some (el 5)))),[],ak.nil,oI,J,J⟩ J))
   refine rc T 5 (aV (c_ (k:=(Fl.int .u8)) T [(rd v9.1 1)] J J J J J J J J J (λa12 dH dN=>ro T 1 (kr kL.R [] [] J S8 Z2 (kL.c · (oO dN 3) dN.b_) (λv12 Z2=>?_)))));rintro _ _ ⟨dy,n13,dT,dg,rfl,rfl⟩;refine fz J ?_;obtain⟨pt,Z2⟩:=az Z2;refine aV (eF (k:=(Fl.int .u8)) (xs:=x7) T (g:=2) J J J J J J J J J J s4 (oO dg 4) pt J (λgU n14 fm gi=>ro T 4 (ar (_,_,_,_,_) [0,0,0] ⟨Z2,gi⟩ J J)))
  refine rc T 5 (am (_,_,_,_,_) [0,1,0] ⟨oi Z2,s4⟩ J J)
 rintro _ ⟨x1,x2,a2,n2,H2⟩ ⟨rfl,s2⟩ H;refine rc T 8 ?_
 cases H;refine bA (p1 T J [1,2,1,0] ⟨a2,n2,H2,.nilIface,[],s2,uL,J,J⟩ J)
def qu.f (ag:fb) (n:Int):Option ((List Int)×Er×fb):=(nn.f ag 1).bind λv1=>if(!(Er.isNil v1.2.1))=true then(some ([],v1.2.1,(fb.mk ag.b v1.2.2.aZ))) else(if(0<=(0:Int)/\(0:Int)<(aa v1.1:Int)) then(if((rd v1.1 0)==0)=true then((qv.f (fb.mk ag.b v1.2.2.aZ) 1).bind λv2=>(kL.f v2.1 n).bind λv3=>some (v3,v2.2.1,(fb.mk ag.b v2.2.2.aZ))) else(if((rd v1.1 0)==1)=true then((qv.f (fb.mk ag.b v1.2.2.aZ) n).bind λv4=>some (v4.1,v4.2.1,(fb.mk ag.b v4.2.2.aZ))) else(if((rd v1.1 0)==2)=true then((lD.f (fb.mk ag.b v1.2.2.aZ) n).bind λv5=>some (v5.1,v5.2.1,(fb.mk ag.b v5.2.2.aZ))) else(some ([],(Er.dM 5),(fb.mk ag.b v1.2.2.aZ)))))) else none)
def qu.R (el:Nat->Addr) (aW:Nat) (y0:Value) (xr:List Int) (ar:Option Addr) (nr:Nat) (r:((List Int)×Er×fb)):bk:=λu G=> ∃(a0 n0 H0:_) (v1:Value) (H1:Hp),Ir (Fl.int .u8) 5 xr ar nr r.1 a0 n0 H0/\gm 414 el r.2.1 v1 H1/\u=(.tuple #[(ll a0 r.1 n0),v1])/\G=[H0,H1,(cl aW 340 [y0,(ii r.2.2.aZ)])]
theorem qu.c (H:qu.f ag n=some r) (hG:fK 414 fa gP el F) (nh:aP (Fl.int .u8) ag.b il F) (kM:aa ag.b<=g_):
 QR 252 [(pp aW),(ii n)] [(cl aW 340 [(ll il ag.b g_),(ii ag.aZ)])] [] F (qu.R el aW (ll il ag.b g_) ag.b il g_ r):=by
 unfold qu.f at H;refine aG Tryz.func252 J J (λW=>rc T 9 (kr (nn.R el aW (ll il ag.b g_) ag.b il g_) [] [0] J M_ H (nn.c · (dE hG (j:=0) J) (rO nh 0) kM) (λv1 H=>?_)));rintro _ _ ⟨a2,n2,v3,H3,DP,I8,s3,rfl,rfl⟩;refine fz J (ro T 11 (bx J (DY T J J J (rZ s3 (j:=1) J)) (ro T 2 (cb J H (λH=>?_) (λH=>?_)))))
 ·refine rc T 9 ?_
  cases H;refine bA (p1 T J [3,1,1,0] ⟨none,0,[],v3,H3,(.inl ⟨dD.nil,Nat.zero_le _,J⟩),s3,J,J⟩ J)
 refine rc T 6 ?_;obtain⟨c3,H⟩:=az H;obtain⟨q5,o5,e5⟩:=(dD.r DP nh kM).addr c3.1 c3.2;refine ix T J e5 c3 (le T 0 (oH DP (rO nh 0) kM) e5 c3 J J (ro T 9 (cb J H (λH=>?_) (λH=>?_))))
 ·refine rc T 3 (kr (qv.R el aW (ll il ag.b g_) ag.b il g_) [] [2] J S7 H (qv.c (ag:=(fb.mk ag.b v1.2.2.aZ)) · (dE hG (j:=0) J) (rO nh 0) kM) (λv2 H=>?_));rintro _ _ ⟨a6,n6,v7,H7,ZD,ZW,s7,rfl,rfl⟩;refine fz J (ro T 11 (kr kL.R [] [] J S8 H (kL.c · (oH ZD (rO nh 0) kM) ZW) (λv3 H=>?_)));rintro _ _ ⟨a8,n8,H8,s8,rfl,rfl⟩;refine fz J (ro T 4 (ke [4,5] [0,1,1,1] J J (rx T 4 ?_)))
  cases H;exact p1 T J [3,1,1,0] ⟨a8,n8,H8,v7,H7,(.inr s8),s7,J,J⟩ J
 refine rc T 6 (cb J H (λH=>?_) (λH=>?_))
 ·refine rc T 4 (kr (qv.R el aW (ll il ag.b g_) ag.b il g_) [] [2] J S7 H (qv.c (ag:=(fb.mk ag.b v1.2.2.aZ)) · (dE hG (j:=0) J) (rO nh 0) kM) (λv4 H=>?_));rintro _ _ ⟨a9,n9,v10,bZ,ZE,ZX,bT,rfl,rfl⟩;refine fz J (ro T 9 ?_)
  cases H;refine bA (p1 T J [4,2,2,0] ⟨a9,n9,[],v10,bZ,(.inl ⟨ZE,ZX,J⟩),bT,J,J⟩ J)
 refine rc T 6 (cb J H (λH=>?_) (λH=>?_))
 ·refine rc T 4 (kr (lD.R el aW (ll il ag.b g_)) [] [2] J ac8 H (lD.c (ag:=(fb.mk ag.b v1.2.2.aZ)) · (dE hG (j:=0) J) (rO nh 0) kM) (λv5 H=>?_));rintro _ _ ⟨a12,n12,dH,jf,dT,dN,dg,rfl,rfl⟩;refine fz J (ro T 9 ?_)
  cases H;exact p1 T J [2,2,2,0] ⟨a12,n12,dH,jf,dT,(.inr dN),dg,J,J⟩ J
 refine rc T 4 (dq mix aA (bg J J J (cC T J J J J (su (j:=0) J hG (g:=5) (by decide))) (au T J (au T J (cM (rx T 2 ?_))))))
 cases H;refine bA (bA (p1 T J [3,3,2,0] ⟨none,0,[],(.iface 414 (.pointer (some (el 5)))),[],(.inl ⟨dD.nil,Nat.zero_le _,J⟩),oI,J,J⟩ J))
def C0.f (ag:Int) (ai:aF):Option Bool:=if(0<=(0:Int)/\(0:Int)<(aa ai.C:Int)) then(some (ag !=(rd ai.C 0))) else none
theorem C0.c (H:C0.f ag ai=some r) (G2:(uF,Obj.cells #[(ii ai.W),(ii ai.H),(ll IP ai.C Kz)] 139 (0,0))∈F) (D8:aP (Fl.int .u8) ai.C IP F) (QW:aa ai.C<=Kz):
 QU 304 [(.int .u8 ag),(pp uF)] [] F (bb r):=by
 unfold C0.f at H;refine aG Tryz.func304 J J (λW=>rc T 9 (lg T J (nU (j:=0) G2 J J) ?_));obtain⟨c1,H⟩:=az H;obtain⟨q1,o1,e1⟩:=D8.addr c1.1 c1.2;refine ix T J e1 c1 (le T 0 (rO D8 0) e1 c1 J J (ro T 5 ?_))
 cases H;exact p0 T J [0] J
def rB.l0:Nat->(List Int)->aF->Int->Option Int
 |0,_,_,_=>none
 |k3+1,s,fE,x2=>if x2<(aa s:Int) then(if(0<=x2/\x2<(aa s:Int)) then((C0.f (rd s x2) fE).bind λv4=>if v4=true then(some x2) else(rB.l0 k3 s fE (af (x2+1)))) else none) else(some (-1))
def rB.f (s:(List Int)) (fE:aF):Option Int:=rB.l0 fuel s fE 0
theorem rB.c (H:rB.f s fE=some r) (jB:aP (Fl.int .u8) s iW F) (rV:aa s<=jc) (CG:(B2,Obj.cells #[(ii fE.W),(ii fE.H),(ll BU fE.C CN)] 139 (0,0))∈F) (Cf:aP (Fl.int .u8) fE.C BU F) (B7:aa fE.C<=CN):
 QU 305 [(ll iW s jc),(.func (.func 304) #[] #[(pp B2)])] [] F (ii r):=by
 unfold rB.f at H;refine aG Tryz.func305 J J (λW=>rc T 14 (lq [0,1,7] [0] (λ(⟨k3,x2⟩:Nat×Int)=>(rB.l0 k3 s fE x2=some r,[(8,(ii x2))],[])) J J (fuel,0) [0] H J J ?_));rintro k3 x2 Z1;replace Z1:rB.l0 (k3+1) s fE x2=some r:=Z1;rw[rB.l0] at Z1;refine rc T 6 (cd J Z1 (λZ1=>?_) (λZ1=>?_))
 ·refine rc T 15 ?_;obtain⟨c3,Z1⟩:=az Z1;obtain⟨q1,o1,e1⟩:=jB.addr c3.1 c3.2;refine ix T J e1 c3 (le T 0 (rO jB 0) e1 c3 J J (k [] J adk Z1 (C0.c · (qo CG (j:=0) J) (rO Cf 0) B7) (λv4 Z1=>ro T 2 (cb J Z1 (λZ1=>?_) (λZ1=>?_)))))
  ·refine rc T 12 ?_
   cases Z1;exact p0 T J [0] J
  refine rc T 8 (ar _ [0] Z1 J J)
 refine rc T 11 ?_
 cases Z1;exact p0 T J [0] J
def Dm.f (s:(List Int)) (fE:aF):Option Bool:=(rB.f s fE).bind λv1=>some (decide (v1≥0))
theorem Dm.c (H:Dm.f s fE=some r) (jB:aP (Fl.int .u8) s iW F) (rV:aa s<=jc) (CG:(B2,Obj.cells #[(ii fE.W),(ii fE.H),(ll BU fE.C CN)] 139 (0,0))∈F) (Cf:aP (Fl.int .u8) fE.C BU F) (B7:aa fE.C<=CN):
 QU 303 [(ll iW s jc),(.func (.func 304) #[] #[(pp B2)])] [] F (bb r):=by
 unfold Dm.f at H;refine aG Tryz.func303 J J (λW=>rc T 9 (k [] J adl H (rB.c · (rO jB 0) rV (qo CG (j:=0) J) (rO Cf 0) B7) (λv1 H=>ro T 5 ?_)))
 cases H;exact p0 T J [0] J
def jt.l1:Nat->aF->Int->Int->Option Int
 |0,_,_,_=>none
 |xP+1,t,x5,aO=>(if(af (x5+aO))<(aa t.C:Int) then(if(0<=(af (x5+aO))/\(af (x5+aO))<(aa t.C:Int)) then(if(0<=x5/\x5<(aa t.C:Int)) then(some ((rd t.C (af (x5+aO)))==(rd t.C x5))) else none) else none) else(some false)).bind λcA=>if cA=true then(jt.l1 xP t x5 (af (aO+1))) else(some aO)
def jt.l0:Nat->aF->List Int->Int->Option (List Int)
 |0,_,_,_=>none
 |k6+1,t,x4,x5=>if x5<(aa t.C:Int) then(((jt.l1 fuel t x5 1).bind λaK=>if(0<=x5/\x5<(aa t.C:Int)) then(if(aa x4+2<=1099511627776) then(some ((x4++[(bN (af (aK-1))),(rd t.C x5)]),(af (x5+aK)))) else none) else none).bind λ(x7,x8)=>jt.l0 k6 t x7 x8) else(some x4)
def jt.f (t:aF) (form:Int):Option (List Int):=if(form==0)=true then((Dm.f t.C t).bind λv1=>if v1=true then(some []) else(if(0<=(0:Int)/\(0:Int)<(aa t.C:Int)) then(if(aa [(bN form)]+1<=1099511627776) then(some ([(bN form)]++[(rd t.C 0)])) else none) else none)) else(if(form==1)=true then(if(aa [(bN form)]+aa t.C<=1099511627776) then(some ([(bN form)]++t.C)) else none) else(jt.l0 fuel t [(bN form)] 0))
def jt.R (r:(List Int)):bk:=λu G=> ∃a0 n0 H0,ak (Fl.int .u8) 5 r a0 n0 H0/\(r=[]->a0=none)/\u=(ll a0 r n0)/\G=[H0]
theorem jt.c (H:jt.f t form=some r) (dU:aP (Fl.int .u8) t.C iz F) (fq:aa t.C<=iB):
 QR 297 [(.agg #[(ii t.W),(ii t.H),(ll iz t.C iB)]),(ii form)] [] [] F (jt.R r):=by
 unfold jt.f at H;refine aG Tryz.func297 J J (λW=>rc T 2 (nc T J (λb1=>ro T 7 (aV (c_ (k:=(Fl.int .u8)) T [(bN form)] J J J J J J J J J (λa2 H2 s2=>ro T 16 (cb J H (λH=>?_) (λH=>?_))))))))
 ·refine rc T 4 (lf T 1 J (ro T 1 (k [] J adj H (Dm.c · (rO dU 0) fq (CI (j:=1) J) (rO dU 0) fq) (λv1 H=>ro T 2 (cb J H (λH=>?_) (λH=>?_))))))
  ·refine rc T 9 ?_
   cases H;refine bA (p1 T J [3,0] ⟨none,0,[],ak.nil,(λ_=>rfl),J,J⟩ J)
  refine rc T 6 (lf T 1 J ?_);obtain⟨c4,H⟩:=az H;obtain⟨q4,o4,e4⟩:=dU.addr c4.1 c4.2;refine ix T J e4 c4 (le T 0 (rO dU 0) e4 c4 J J (aV (c_ (k:=(Fl.int .u8)) T [(rd t.C 0)] J J J J J J J J J (λa5 H5 s5=>?_))));obtain⟨c5,H⟩:=az H;refine aV (eF (k:=(Fl.int .u8)) (xs:=[(bN form)]) T (g:=2) J J J J J J J J J J s2 (oO s5 3) c5 J (λa6 n6 H6 s6=>ro T 2 (ke [4] [0,1] J J (rx T 4 ?_))))
  cases H;exact p1 T J [1,0] ⟨a6,n6,H6,s6,(Oy (.inr J)),J,J⟩ J
 refine rc T 6 (cb J H (λH=>?_) (λH=>?_))
 ·refine rc T 4 (lf T 1 J ?_);obtain⟨c7,H⟩:=az H;refine aV (eF (k:=(Fl.int .u8)) (xs:=[(bN form)]) T (g:=2) J J J J J J J J J J s2 (rO dU 0) c7 J (λa7 n7 H7 s7=>ro T 2 (ke [4] [0,1] J J (rx T 4 ?_))))
  cases H;exact p1 T J [1,0] ⟨a7,n7,H7,s7,(Oy (.inl J)),J,J⟩ J
 refine rc T 10 (lq [2] [0,0] (λ(⟨k6,x4,x5,a9,n9,H9⟩:Nat×List Int×Int×Option Addr×Nat×Hp)=>(jt.l0 k6 t x4 x5=some r/\ak (Fl.int .u8) 5 x4 a9 n9 H9/\(x4=[]->a9=none),[(5,(ll a9 x4 n9)),(6,(ii x5))],[H9])) J J (fuel,[(bN form)],0,a2,(aa [(bN form)]),H2) [0,0,0] ⟨H,s2,(λe=>by cases e)⟩ J J ?_)
 rintro k6 ⟨x4,x5,a9,n9,H9⟩ ⟨Z8,s9,r9⟩;rw[jt.l0] at Z8;refine rc T 5 (lf T 1 J (ro T 4 (cd J Z8 (λZ8=>?_) (λZ8=>?_))))
 ·refine rc T 2 (mn Z8 [2] [0,0] (λz9 (⟨x7,x8,cz,n10,bZ⟩:List Int×Int×Option Addr×Nat×Hp)=>((x7,x8)=z9/\ak (Fl.int .u8) 5 x7 cz n10 bZ/\(x7=[]->cz=none),[(5,(ll cz x7 n10)),(6,(ii x8))],[bZ])) J J (λz9 iV _=>?_) ?_)
  ·refine rc T 6 (mq iV [2,5,6] [0,0,0] (λlW (aK:Int)=>(aK=lW,[(7,(ii aK))],[])) J J (λlW aY _=>?_) ?_)
   ·refine rc T 1 (lq [2,5,6] [0,0,0] (λ(⟨xP,aO⟩:Nat×Int)=>(jt.l1 xP t x5 aO=some lW,[(7,(ii aO))],[])) J J (fuel,1) [0,0,0] aY J J ?_);rintro xP aO bp;replace bp:jt.l1 (xP+1) t x5 aO=some lW:=bp;rw[jt.l1] at bp;refine rc T 1 (mq bp [2,5,6,7] [0,0,0] (λIq (cA:Bool)=>(cA=Iq,[(57,(bb cA))],[])) J J (λIq lM _=>?_) ?_)
    ·refine dq mix aA ?_
     iterate 4 refine au T J ?_
     refine cw T 1 J J J (au T J (au T J (au T J (qd 43 J lM (λlM=>?_) (λlM=>?_)))))
     ·refine au T J (cw T 1 J J J (au T J (au T J (au T J ?_))));obtain⟨ze,lM⟩:=az lM;obtain⟨q11,o11,zg⟩:=dU.addr ze.1 ze.2;refine bg J J J (cB T J J J J J zg ze.1 ze.2) (bg J J J (cC T J J J J (fv (k:=(Fl.int .u8)) (rO dU 0) zg ze 0 J)) (au T J (cw T 1 J J J (au T J ?_))));obtain⟨mC,lM⟩:=az lM;refine bg J J J (cB T J J J J J zg mC.1 mC.2) (bg J J J (cC T J J J J (fv (k:=(Fl.int .u8)) (rO dU 0) zg mC 0 J)) (au T J (au T J (cM (rx T 1 (am _ [0,0,0] (oi lM) J J))))))
     iterate 14 refine au T J ?_
     refine cM (rx T 1 (am _ [0,0,0] (oi lM) J J))
    rintro _ cA rfl bp;refine cb J bp (λbp=>?_) (λbp=>?_)
    ·refine rc T 10 (ar _ [0,0,0] bp J J)
    refine rc T 5 (am _ [0,0,0] (oi bp) J J)
   rintro _ aK rfl iV;refine rc T 7 (lf T 1 J (ro T 1 ?_));obtain⟨lP,iV⟩:=az iV;obtain⟨wz,OC,tr⟩:=dU.addr lP.1 lP.2;refine ix T J tr lP (le T 0 (rO dU 0) tr lP J J (aV (c_ (k:=(Fl.int .u8)) T [(bN (af (aK-1))),(rd t.C x5)] J J J J J J J J J (λdy dT dg=>?_))));obtain⟨tk,iV⟩:=az iV;refine aV (eF (k:=(Fl.int .u8)) (xs:=x4) T (g:=2) J J J J J J J J J J s9 (oO dg 3) tk J (λgU n14 fm gi=>ro T 11 (am (_,_,_,_,_) [0,0,0] ⟨oi iV,gi,(Oy (.inr J))⟩ J J)))
  rintro _ ⟨x7,x8,cz,n10,bZ⟩ ⟨rfl,bT,OO⟩ Z8;refine rx T 1 (ar (_,_,_,_,_) [0,0,0] ⟨Z8,bT,OO⟩ J J)
 refine rc T 12 ?_
 cases Z8;exact p1 T J [2,0] ⟨a9,n9,H9,s9,r9,J,J⟩ J
def lC.l0:Nat->aF->Int->List Int->Int->Option (Int×(List Int))
 |0,_,_,_,_=>none
 |k7+1,t,x4,x5,x6=>if x6<3 then((jt.f t x6).bind λv8=>(if(!List.isEmpty v8)=true then(if(List.isEmpty x5)=true then(some true) else(some (decide ((aa v8:Int)<(aa x5:Int))))) else(some false)).bind λx9=>if x9=true then(lC.l0 k7 t x6 v8 (af (x6+1))) else(lC.l0 k7 t x4 x5 (af (x6+1)))) else(some (x4,x5))
def lC.f (t:aF):Option (Int×(List Int)):=lC.l0 fuel t (-1) [] 0
def lC.R (r:(Int×(List Int))):bk:=λu G=> ∃a0 n0 H0,ak (Fl.int .u8) 5 r.2 a0 n0 H0/\(r.2=[]->a0=none)/\u=(.tuple #[(ii r.1),(ll a0 r.2 n0)])/\G=[H0]
theorem lC.c (H:lC.f t=some r) (dU:aP (Fl.int .u8) t.C iz F) (fq:aa t.C<=iB):
 QR 282 [(.agg #[(ii t.W),(ii t.H),(ll iz t.C iB)])] [] [] F (lC.R r):=by
 unfold lC.f at H;refine aG Tryz.func282 J J (λW=>rc T 2 (nc T J (λb1=>ro T 17 (bA (lq [1] [0,0] (λ(⟨k7,x4,x5,x6,a3,n3,H3⟩:Nat×Int×List Int×Int×Option Addr×Nat×Hp)=>(lC.l0 k7 t x4 x5 x6=some r/\ak (Fl.int .u8) 5 x5 a3 n3 H3/\(x5=[]->a3=none),[(4,(ii x4)),(5,(ll a3 x5 n3)),(8,(ii x6))],[H3])) J J (fuel,(-1),[],0,none,0,[]) [0,0,0] ⟨H,ak.nil,(λ_=>rfl)⟩ J J ?_)))));rintro k7 ⟨x4,x5,x6,a3,n3,H3⟩ ⟨Z1,s3,r3⟩;rw[lC.l0] at Z1;refine rc T 6 (cd J Z1 (λZ1=>?_) (λZ1=>?_))
 ·refine rc T 12 (lm T 1 J (ro T 1 (kr jt.R [] [] J adf Z1 (jt.c · (rO dU 0) fq) (λv8 Z1=>?_))));rintro _ _ ⟨a4,n4,H4,s4,r4,rfl,rfl⟩;refine fz J (ro T 3 (mq Z1 [1,4,5,6,7,8] [0,0,0,0] (λmo (x9:Bool)=>(x9=mo,[(26,(bb x9))],[])) J J (λmo Z4 _=>?_) ?_))
  ·refine rc T 2 (bx J (abd T J J J J s4 r4) (ro T 1 (ab 16 J Z4 (λZ4=>?_) (λZ4=>?_))))
   ·refine ro T 1 (bx J (abc T J J J J s3 r3) (ro T 1 (ab 19 J Z4 (λZ4=>?_) (λZ4=>?_))))
    ·refine ro T 9 (am _ [0,0,0,0] (oi Z4) J J)
    refine ro T 9 (am _ [0,0,0,0] (oi Z4) J J)
   refine ro T 12 (am _ [0,0,0,0] (oi Z4) J J)
  rintro _ x9 rfl Z1;refine cb J Z1 (λZ1=>?_) (λZ1=>?_)
  ·refine rc T 13 (ar (_,_,_,_,_,_) [0,0,1] ⟨Z1,s4,r4⟩ J J)
  refine rc T 8 (ar (_,_,_,_,_,_) [0,0,0] ⟨Z1,s3,r3⟩ J J)
 refine rc T 14 ?_
 cases Z1;exact p1 T J [2,0] ⟨a3,n3,H3,s3,r3,J,J⟩ J
def sF.f (t:aF):Option ((List Int)×Int):=(uk.f t).bind λv1=>if(!v1)=true then(some ([],1)) else((lC.f t).bind λv2=>some (v2.2,0))
def sF.R (r:((List Int)×Int)):bk:=λu G=> ∃a0 n0 H0,ak (Fl.int .u8) 5 r.1 a0 n0 H0/\u=(.tuple #[(ll a0 r.1 n0),(ii r.2)])/\G=[H0]
theorem sF.c (H:sF.f t=some r) (dU:aP (Fl.int .u8) t.C iz F) (fq:aa t.C<=iB):
 QR 253 [(.agg #[(ii t.W),(ii t.H),(ll iz t.C iB)])] [] [] F (sF.R r):=by
 unfold sF.f at H;refine aG Tryz.func253 J J (λW=>rc T 2 (nc T J (λb1=>ro T 7 (lm T 1 J (k [] J JI H (uk.c · (rO dU 0) fq) (λv1 H=>ro T 3 (cb J H (λH=>?_) (λH=>?_))))))))
 ·refine rc T 8 ?_
  cases H;refine bA (p1 T J [2,0] ⟨none,0,[],ak.nil,J,J⟩ J)
 refine rc T 4 (lm T 1 J (kr lC.R [] [] J ac9 H (lC.c · (rO dU 0) fq) (λv2 H=>?_)));rintro _ _ ⟨a3,n3,H3,s3,r3,rfl,rfl⟩;refine fz J (ro T 15 ?_)
 cases H;exact p1 T J [2,0] ⟨a3,n3,H3,s3,J,J⟩ J
def wy.f (ag:fb) (w:Int) (h:Int):Option (aF×Er×fb):=(qu.f ag (af (w*h))).bind λv1=>(oo.f v1.1).bind λv2=>(if(Er.isNil v1.2.1)=true then((sF.f (aF.mk w h v2)).bind λv5=>if(0<=(0:Int)/\(0:Int)<=v1.2.2.aZ/\v1.2.2.aZ<=(aa ag.b:Int)) then((DS.f v5.1 (aB ag.b 0 v1.2.2.aZ)).bind λv6=>if(!v6)=true then(some (Er.dM 5)) else(some v1.2.1)) else none) else(some v1.2.1)).bind λx3=>if(Er.isNil x3)=true then(some ((aF.mk w h v2),Er.nil,(fb.mk ag.b v1.2.2.aZ))) else((vP.f x3 (Er.dM 6)).bind λv7=>if v7=true then(some ((aF.mk 0 0 []),(Er.wrap 343 [v1.2.2.aZ,2] x3),(fb.mk ag.b v1.2.2.aZ))) else(some ((aF.mk 0 0 []),(Er.wrap 343 [v1.2.2.aZ,3] x3),(fb.mk ag.b v1.2.2.aZ))))
def wy.R (el:Nat->Addr) (aW:Nat) (y0:Value) (r:(aF×Er×fb)):bk:=λu G=> ∃(a0 n0 H0:_) (v1:Value) (H1:Hp),ak (Fl.int .u8) 5 r.1.C a0 n0 H0/\gm 414 el r.2.1 v1 H1/\u=(.tuple #[(.agg #[(ii r.1.W),(ii r.1.H),(ll a0 r.1.C n0)]),v1])/\G=[H0,H1,(cl aW 340 [y0,(ii r.2.2.aZ)])]
theorem wy.c (H:wy.f ag w h=some r) (hG:fK 414 fa gP el F) (nh:aP (Fl.int .u8) ag.b il F) (kM:aa ag.b<=g_):
 QR 230 [(pp aW),(ii w),(ii h)] [(cl aW 340 [(ll il ag.b g_),(ii ag.aZ)])] [] F (wy.R el aW (ll il ag.b g_) r):=by
 unfold wy.f at H;refine aG Tryz.func230 J J (λW=>rc T 2 (nc T J (λb2=>ro T 9 (kr (qu.R el aW (ll il ag.b g_) ag.b il g_) [] [0] J acV H (qu.c · (dE hG (j:=0) J) (rO nh 0) kM) (λv1 H=>?_)))));rintro _ _ ⟨a3,n3,H3,v4,H4,s3,s4,rfl,rfl⟩;refine fz J (ro T 12 (kr oo.R [] [] J MT H (oo.c · (ZK s3 (j:=2) J (rO nh 0) kM) s3.b_) (λv2 H=>?_)));rintro _ _ ⟨a5,n5,H5,s5,rfl,rfl⟩;refine fz J (ro T 1 (nc T J (λb6=>sg T 6 J (ro T 1 (ke [0,6,9,10] [0,0,1,1,1,1] J J (rx T 1 (mq H [0,6,10] [0,2,0,2,1] (λz4 (⟨x3,Dv,H7⟩:Er×Value×Hp)=>(x3=z4/\gm 414 el x3 Dv H7,[(9,Dv)],[H7])) J J (λz4 Z3 _=>?_) ?_)))))))
 ·refine rc T 3 (bx J (Jn T J J J (rZ s4 (j:=2) J)) (ro T 2 (cb J Z3 (λZ3=>?_) (λZ3=>?_))))
  ·refine rc T 2 (lm T 5 J (kr sF.R [] [] J acW Z3 (sF.c (t:=(aF.mk w h v2)) · (oO s5 4) s5.b_) (λv5 Z3=>?_)));rintro _ _ ⟨a8,n8,H8,s8,rfl,rfl⟩;refine fz J (ro T 8 (dq mix aA ?_))
   iterate 4 refine au T J ?_
   refine cw T 3 J J J (au T J (au T J (au T J (cw T 3 J J J ?_))));obtain⟨c6,Z3⟩:=az Z3;refine bg J J J (kP T J J J J J J c6 kM) ?_;obtain⟨v6,V7,Z3⟩:=gu Z3;refine uD J J J J J J acX J (DS.c V7 (oO s8 6) s8.b_ (nq (rO nh 0) c6 kM) (mS c6 kM)) (au T J (cM (rx T 1 (cb J Z3 (λZ3=>?_) (λZ3=>?_)))))
   ·refine rc T 1 (lg T J (su (j:=0) J hG (g:=5) (by decide)) (ro T 3 (bA (am (_,_,_) [0,2,0,2,1,2] ⟨oi Z3,oI⟩ J J))))
   refine rc T 2 (am (_,_,_) [0,2,0,2,1,0] ⟨oi Z3,s4⟩ J J)
  refine rc T 2 (am (_,_,_) [0,2,0,2,1,0] ⟨oi Z3,s4⟩ J J)
 rintro _ ⟨x3,Dv,H7⟩ ⟨rfl,s7⟩ H;refine rc T 4 (bx J (Jn T J J J (rZ s7 (j:=5) J)) (ro T 2 (cb J H (λH=>?_) (λH=>?_))))
 ·refine rc T 2 (lm T 3 J (sg T 2 J (ro T 5 ?_)))
  cases H;refine bA (pb T J (.cT (j:=2) [(ii w),(ii h),(ll a5 v2 n5)] J J J J J J J (.tmp J .nil)) [4,5,1,0] ⟨(_,_),a5,n5,H5,.nilIface,[],s5,uL,J,J⟩ J J)
 refine rc T 7 (lf T 1 J (ro T 1 (bx J (RQ (vs:=[(0,(ii v1.2.2.aZ)),(1,(ii 3)),(2,Dv)]) T [(0,[(ii v1.2.2.aZ)]),(1,[(ii 3)]),(2,[Dv])] J J J J J (by simp only[List.map,RD s7];rfl) J) ?_)))
 refine nc T J (λfZ=>ro T 7 (lg T J (su (j:=0) J hG (g:=6) (by decide)) (k [] J JL H (vP.c x3 (Er.dM 6) _ _ · (dE hG (j:=0) J) (rZ s7 (j:=5) J) Jd) (λv7 H=>ro T 2 (cb J H (λH=>?_) (λH=>?_))))))
 ·refine rc T 4 (sg T 6 J (ro T 6 (gD [6,5] J (bx J (iq T J J J J) (sg T 2 J (ro T 2 (ke [6,7] [0,0,0,2] J J (rx T 2 ?_))))))))
  cases H;refine bA (pb T J (.cT (j:=2) [(ii 0),(ii 0),nl] J J J J J J J (.tmp J .nil)) [4,3,1,0] ⟨(_,_),none,0,[],(.iface 343 (pp fZ)),(List.flatten [(cl fZ 346 [(ii v1.2.2.aZ),(ii 2),Dv]),H7]),ak.nil,(qg s7),J,J⟩ J J)
 refine rc T 6 (gD [6,5] J (bx J (iq T J J J J) (sg T 2 J (ro T 4 ?_))))
 cases H;refine bA (pb T J (.cT (j:=2) [(ii 0),(ii 0),nl] J J J J J J J (.tmp J .nil)) [6,5,1,0] ⟨(_,_),none,0,[],(.iface 343 (pp fZ)),(List.flatten [(cl fZ 346 [(ii v1.2.2.aZ),(ii 3),Dv]),H7]),ak.nil,(qg s7),J,J⟩ J J)
def pN.f (b:(List Int)) (w:Int) (h:Int):Option (aF×Int×Int):=if((((decide (w<1))||(decide (w>16)))||(decide (h<1)))||(decide (h>16)))=true then(some ((aF.mk 0 0 []),0,1)) else((wy.f (fb.mk b 0) w h).bind λv1=>(Er.FD 343 v1.2.1).bind λv2=>dF v2 (some (v1.1,v1.2.2.aZ,0)) (λsP=>some ((aF.mk 0 0 []),0,sP.2.1)))
def pN.R (el:Nat->Addr) (r:(aF×Int×Int)):bk:=λu G=> ∃a0 n0 H0,ak (Fl.int .u8) 5 r.1.C a0 n0 H0/\u=(.tuple #[(.agg #[(ii r.1.W),(ii r.1.H),(ll a0 r.1.C n0)]),(ii r.2.1),(ii r.2.2)])/\G=[H0]
theorem pN.c (H:pN.f b w h=some r) (hG:fK 414 fa gP el F) (ir:aP (Fl.int .u8) b ki F) (gF:aa b<=jV):
 QR 192 [(ll ki b jV),(ii w),(ii h)] [] [] F (pN.R el r):=by
 unfold pN.f at H;refine aG Tryz.func192 J J (λW=>rc T 2 (nc T J (λb1=>ro T 10 (go T [3,4,5] 14 [0,1,2,6] 17 J J J J J J J (ro T 1 (go T [7,8,9] 18 [0,1,2,6] 21 J J J J J J J (ro T 1 (go T [11,12,13] 22 [0,1,2,6] 25 J J J J J J J (ro T 2 (cb J H (λH=>?_) (λH=>?_)))))))))))
 ·refine rc T 3 (sg T 1 J (ro T 6 ?_))
  cases H;refine bA (pb T J (.cT (j:=1) [(ii 0),(ii 0),nl] J J J J J J J (.tmp J (.tmp J .nil))) [2,0] ⟨(_,_),none,0,[],ak.nil,J,J⟩ J J)
 refine rc T 6 (nc T J (λb3=>ro T 8 (kr (wy.R el b3 (ll ki b jV)) [] [2] J acG H (wy.c (ag:=(fb.mk b 0)) · (dE hG (j:=0) J) (rO ir 0) gF) (λv1 H=>?_))));rintro _ _ ⟨a4,n4,H4,v5,H5,s4,s5,rfl,rfl⟩;refine fz J (ro T 3 (sg T 1 J (ro T 2 (ks [6,9,10] J (rx T 4 (nc T J (λb6=>sg T 5 J (ro T 5 (bx J (iq T J J J J) ?_)))))))));obtain⟨v2,V3,H⟩:=gu H;rcases v2 with _ |sP
 ·replace H:=ff J H;obtain⟨Mv,Ml⟩:=Yv V3 s5;subst Mv;subst Ml;refine aV (vJ (As:=[(cl b6 343 [(.pointer none)])]) (R:=[F,(cl b1 139 [(ii v1.1.W),(ii v1.1.H),(ll a4 v1.1.C n4)]),H4,[],(cl b3 340 [(ll ki b jV),(ii v1.2.2.aZ)])]) (B:=λ_=>[(cl b6 343 [(.pointer none)])]) [5] J J J J JM J J (Ms.n _ (dE hG (j:=0) J)) (λ_=>ro T 2 (e_ J (rc T 3 (ke [6,9] [0,0,0,1] J J (fz J (rz [] mix (bR bQ) (λhg pf=>av 0 sz hg pf J (gA T 1 J J J J J J J) (ha T 4 [1,2,3] sz hg pf J (al T 4 3 sz hg pf J J J (ao 5 (sf T 1 J (an sz (ha T 0 [6,7] sz hg pf J (ae (rx T 2 ?_))))))))))))))))
  cases H;exact pb T J (.cT (j:=1) [(ii v1.1.W),(ii v1.1.H),(ll a4 v1.1.C n4)] J J J J J J J (.tmp J (.tmp J .nil))) [2,0] ⟨(_,_),a4,n4,H4,s4,J,J⟩ J J
 replace H:=fg J H;obtain⟨b7,v8_,X1,H8,Mv,Ml,s8⟩:=Yw V3 s5;subst Mv;subst Ml;refine I0 (j:=3) J (aV (vJ (As:=[(cl b6 343 [(.pointer none)])]) (R:=[F,(cl b1 139 [(ii v1.1.W),(ii v1.1.H),(ll a4 v1.1.C n4)]),H4,[(b7,Obj.cells #[(ii sP.1),(ii sP.2.1),v8_] X1 (0,0))],(cl b3 340 [(ll ki b jV),(ii v1.2.2.aZ)]),H8]) (B:=λ_=>[(cl b6 343 [(pp b7)])]) [5] J J J J JM J J (Ms.s _ _ (dE hG (j:=0) J)) (λ_=>ro T 2 (nL J (rc T 1 (ke [6,11] [0,0,0,0,1,1] J J (fz J (rg [] [0,1,1,1,1] mix (bR bQ) (λhg pf=>ha T 7 [0] (so [0,1,1,1,1]) hg pf J (al T 1 4 (so [0,1,1,1,1]) hg pf J J J (ha T 4 [2,3] (so [0,1,1,1,1]) hg pf J (al T 4 2 (so [0,1,1,1,1]) hg pf J J J (ao 5 (sf T 1 J (an (so [0,1,1,1,1]) (ha T 1 [6] (so [0,1,1,1,1]) hg pf J (ha T 0 [7] (so [0,1,1,1,1]) hg pf J (ae (rx T 3 ?_)))))))))))))))))))
 cases H;refine bA (pb T J (.cT (j:=1) [(ii 0),(ii 0),nl] J J J J J J J (.tmp J (.tmp J .nil))) [6,0] ⟨(_,_),none,0,[],ak.nil,J,J⟩ J J)
end
noncomputable section
def oy.f (w:Int) (h:Int):Option Bool:=some ((((decide (w≥1))&&(decide (w<=1024)))&&(decide (h≥1)))&&(decide (h<=1024)))
theorem oy.c (H:oy.f w h=some r):
 QU 96 [(ii w),(ii h)] [] F (bb r):=by
 unfold oy.f at H;refine aG Tryz.func96 J J (λW=>rc T 10 (ga T [3,4,5] 7 [1] 10 J J J J J J J (ro T 1 (ga T [7,8,9] 11 [1] 14 J J J J J J J (ro T 1 (ga T [11,12,13] 15 [] 18 J J J J J J J (ro T 4 ?_)))))))
 cases H;exact p0 T J [0] J
def qI.f (w:Int) (h:Int):Option (Int×Int):=(oy.f w h).bind λv1=>if(!v1)=true then(some (0,0)) else(some ((af (cZ (af ((af (w+16))-1)) 16)),(af (cZ (af ((af (h+16))-1)) 16))))
theorem qI.c (H:qI.f w h=some r):
 QU 59 [(ii w),(ii h)] [] F (.tuple #[(ii r.1),(ii r.2)]):=by
 unfold qI.f at H;refine aG Tryz.func59 J J (λW=>rc T 11 (k [] J Cj H (oy.c ·) (λv1 H=>ro T 3 (cb J H (λH=>?_) (λH=>?_)))))
 ·refine rc T 8 ?_
  cases H;exact p0 T J [0] J
 refine rc T 17 ?_
 cases H;exact p0 T J [0] J
def Ah.f (w:Int) (h:Int) (bG:Int):Option (Int×Int×Bool):=(qI.f w h).bind λv1=>if((decide (bG<0))||(decide (bG≥(af (v1.1*v1.2)))))=true then(some (0,0,false)) else(if(¬v1.1=0) then(if(¬v1.1=0) then(some ((af ((fy bG v1.1)*16)),(af ((af (cZ bG v1.1))*16)),true)) else none) else none)
theorem Ah.c (H:Ah.f w h bG=some r):
 QU 201 [(ii w),(ii h),(ii bG)] [] F (.tuple #[(ii r.1),(ii r.2.1),(bb r.2.2)]):=by
 unfold Ah.f at H;refine aG Tryz.func201 J J (λW=>rc T 11 (k [] J Gl H (qI.c ·) (λv1 H=>ro T 13 (go T [3,4,5,6,7,8] 19 [2,9] 25 J J J J J J J (ro T 2 (cb J H (λH=>?_) (λH=>?_)))))))
 ·refine rc T 9 ?_
  cases H;exact p0 T J [0] J
 refine rc T 3 (dq mix aA (au T J (au T J ?_)));obtain⟨c3,H⟩:=az H;refine bg J J J (uP J J J c3) (au T J (au T J (au T J ?_)));obtain⟨c4,H⟩:=az H;refine bg J J J (uO J J J c4) ?_
 iterate 4 refine au T J ?_
 refine cM (rx T 2 ?_)
 cases H;exact p0 T J [0] J
def rF.f (w:Int) (h:Int) (bG:Int):Option (Int×Int):=(Ah.f w h bG).bind λv1=>if(!v1.2.2)=true then(some (0,0)) else(some ((if(af (w-v1.1))<16 then(af (w-v1.1)) else 16),(if(af (h-v1.2.1))<16 then(af (h-v1.2.1)) else 16)))
theorem rF.c (H:rF.f w h bG=some r):
 QU 172 [(ii w),(ii h),(ii bG)] [] F (.tuple #[(ii r.1),(ii r.2)]):=by
 unfold rF.f at H;refine aG Tryz.func172 J J (λW=>rc T 11 (k [] J SM H (Ah.c ·) (λv1 H=>ro T 16 (cb J H (λH=>?_) (λH=>?_)))))
 ·refine rc T 8 ?_
  cases H;exact p0 T J [0] J
 refine rc T 17 ?_
 cases H;exact p0 T J [0] J
def Ag.f (w:Int) (h:Int) (x:Int) (y:Int):Option Int:=(oy.f w h).bind λv1=>if(((((!v1)||(decide (x<0)))||(decide (x≥w)))||(decide (y<0)))||(decide (y≥h)))=true then(some (-1)) else(some (af ((af (y*w))+x)))
theorem Ag.c (H:Ag.f w h x y=some r):
 QU 202 [(ii w),(ii h),(ii x),(ii y)] [] F (ii r):=by
 unfold Ag.f at H;refine aG Tryz.func202 J J (λW=>rc T 10 (k [] J Cj H (oy.c ·) (λv1 H=>ro T 2 (go T [5,6,7] 13 [0,1,2,3] 16 J J J J J J J (ro T 1 (go T [9,10,11,12] 17 [0,1,2,3] 21 J J J J J J J (ro T 1 (go T [14,15,16] 22 [0,1,2,3] 25 J J J J J J J (ro T 1 (go T [18,19,20,21] 26 [0,2,3] 30 J J J J J J J (ro T 2 (cb J H (λH=>?_) (λH=>?_)))))))))))))
 ·refine rc T 7 ?_
  cases H;exact p0 T J [0] J
 refine rc T 13 ?_
 cases H;exact p0 T J [0] J
def ur.f (w:Int) (h:Int) (bG:Int) (p3:Int):Option Int:=(Ah.f w h bG).bind λv1=>(rF.f w h bG).bind λv2=>if(((!v1.2.2)||(decide (p3<0)))||(decide (p3≥(af (v2.1*v2.2)))))=true then(some (-1)) else(if(¬v2.1=0) then(if(¬v2.1=0) then((Ag.f w h (af (v1.1+(fy p3 v2.1))) (af (v1.2.1+(af (cZ p3 v2.1))))).bind λv3=>some v3) else none) else none)
theorem ur.c (H:ur.f w h bG p3=some r):
 QU 173 [(ii w),(ii h),(ii bG),(ii p3)] [] F (ii r):=by
 unfold ur.f at H;refine aG Tryz.func173 J J (λW=>rc T 10 (k [] J SM H (Ah.c ·) (λv1 H=>ro T 14 (k [] J Gi H (rF.c ·) (λv2 H=>ro T 13 (go T [3,4,5] 31 [0,1,3,9,10,12,13] 34 J J J J J J J (ro T 1 (go T [7,8,9,10,11,12] 35 [0,1,3,9,10,12] 41 J J J J J J J (ro T 2 (cb J H (λH=>?_) (λH=>?_)))))))))))
 ·refine rc T 7 ?_
  cases H;exact p0 T J [0] J
 refine rc T 3 (dq mix aA ?_)
 iterate 5 refine au T J ?_
 obtain⟨c4,H⟩:=az H;refine bg J J J (uP J J J c4) ?_
 iterate 4 refine au T J ?_
 obtain⟨c5,H⟩:=az H;refine bg J J J (uO J J J c5) (au T J ?_);obtain⟨v3,V6,H⟩:=gu H;refine uD J J J J J J SN J (Ag.c V6) (au T J (cM (rx T 2 ?_)))
 cases H;exact p0 T J [0] J
def wX.f (w:Int) (h:Int) (cell:Int):Option Bool:=(oy.f w h).bind λv1=>some ((v1&&(decide (cell≥0)))&&(decide (cell<(af (w*h)))))
theorem wX.c (H:wX.f w h cell=some r):
 QU 95 [(ii w),(ii h),(ii cell)] [] F (bb r):=by
 unfold wX.f at H;refine aG Tryz.func95 J J (λW=>rc T 9 (k [] J Cj H (oy.c ·) (λv1 H=>ro T 1 (ga T [4,5,6] 10 [0,1,2] 13 J J J J J J J (ro T 1 (ga T [8,9,10,11,12,13] 14 [] 20 J J J J J J J (ro T 4 ?_)))))))
 cases H;exact p0 T J [0] J
def wW.f (w:Int) (h:Int) (cell:Int):Option (Int×Int):=(wX.f w h cell).bind λv1=>if(!v1)=true then(some ((-1),(-1))) else(if(¬w=0) then(if(¬w=0) then(some ((fy cell w),(af (cZ cell w)))) else none) else none)
theorem wW.c (H:wW.f w h cell=some r):
 QU 58 [(ii w),(ii h),(ii cell)] [] F (.tuple #[(ii r.1),(ii r.2)]):=by
 unfold wW.f at H;refine aG Tryz.func58 J J (λW=>rc T 12 (k [] J Nj H (wX.c ·) (λv1 H=>ro T 3 (cb J H (λH=>?_) (λH=>?_)))))
 ·refine rc T 8 ?_
  cases H;exact p0 T J [0] J
 refine rc T 3 (dq mix aA (au T J (au T J ?_)));obtain⟨c3,H⟩:=az H;refine bg J J J (uP J J J c3) (au T J (au T J ?_));obtain⟨c4,H⟩:=az H;refine bg J J J (uO J J J c4) (au T J (au T J (cM (rx T 2 ?_))))
 cases H;exact p0 T J [0] J
def gy.f (w:Int) (h:Int) (cell:Int):Option Int:=(wW.f w h cell).bind λv1=>if v1.1<0 then(some (-1)) else((qI.f w h).bind λv2=>some (af ((af ((af (cZ v1.2 16))*v2.1))+(af (cZ v1.1 16)))))
theorem gy.c (H:gy.f w h cell=some r):
 QU 26 [(ii w),(ii h),(ii cell)] [] F (ii r):=by
 unfold gy.f at H;refine aG Tryz.func26 J J (λW=>rc T 10 (k [] J Ng H (wW.c ·) (λv1 H=>ro T 14 (cd J H (λH=>?_) (λH=>?_)))))
 ·refine rc T 7 ?_
  cases H;exact p0 T J [0] J
 refine rc T 6 (k [] J Gl H (qI.c ·) (λv2 H=>ro T 20 ?_))
 cases H;exact p0 T J [0] J
def mY.f (w:Int) (h:Int) (cell:Int) (side:Int):Option Int:=(wW.f w h cell).bind λv1=>if v1.1<0 then(some (-1)) else((if(side==0)=true then(some (Sum.inr (v1.1,(af (v1.2+(-1)))))) else(if(side==2)=true then(some (Sum.inr (v1.1,(af (v1.2+1))))) else(if(side==3)=true then(some (Sum.inr ((af (v1.1+(-1))),v1.2))) else(if(side==1)=true then(some (Sum.inr ((af (v1.1+1)),v1.2))) else(if(side==4)=true then(some (Sum.inr (v1.1,v1.2))) else(some (Sum.inl (-1)))))))).bind λzz=>match zz with |Sum.inl q=>some q |Sum.inr (x2,x3)=>(Ag.f w h x2 x3).bind λv5=>some v5)
theorem mY.c (H:mY.f w h cell side=some r):
 QU 207 [(ii w),(ii h),(ii cell),(ii side)] [] F (ii r):=by
 unfold mY.f at H;refine aG Tryz.func207 J J (λW=>rc T 10 (k [] J Ng H (wW.c ·) (λv1 H=>ro T 14 (cd J H (λH=>?_) (λH=>?_)))))
 ·refine rc T 7 ?_
  cases H;exact p0 T J [0] J
 refine rc T 7 (mq H [0,1] [0] (λz4 (⟨x2,x3⟩:Int×Int)=>((Sum.inr (x2,x3))=z4,[(9,(ii x2)),(10,(ii x3))],[])) J J (λz4 Z3 H=>?_) ?_)
 ·refine rc T 26 (cb J Z3 (λZ3=>?_) (λZ3=>?_))
  ·refine rc T 29 (am (_,_) [0] (oi Z3) J J)
  refine rc T 9 (cb J Z3 (λZ3=>?_) (λZ3=>?_))
  ·refine rc T 26 (am (_,_) [0] (oi Z3) J J)
  refine rc T 9 (cb J Z3 (λZ3=>?_) (λZ3=>?_))
  ·refine rc T 29 (am (_,_) [0] (oi Z3) J J)
  refine rc T 9 (cb J Z3 (λZ3=>?_) (λZ3=>?_))
  ·refine rc T 26 (am (_,_) [0] (oi Z3) J J)
  refine rc T 8 (cb J Z3 (λZ3=>?_) (λZ3=>?_))
  ·refine rc T 17 (am (_,_) [0] (oi Z3) J J)
  refine rc T 25 ?_;obtain rfl:=Option.some.inj Z3;obtain rfl:=Option.some.inj (show some (-1)=some r from H)
  exact p0 T J [0] J
 rintro _ ⟨x2,x3⟩ rfl H;refine rc T 6 (k [] J SN H (Ag.c ·) (λv5 H=>ro T 4 ?_))
 cases H;exact p0 T J [0] J
def rE.f (w:Int) (h:Int) (cell:Int):Option Int:=(wW.f w h cell).bind λv1=>if v1.1<0 then(some (-1)) else((gy.f w h cell).bind λv2=>(rF.f w h v2).bind λv3=>some (af ((af ((fy v1.2 16)*v3.1))+(fy v1.1 16))))
theorem rE.c (H:rE.f w h cell=some r):
 QU 165 [(ii w),(ii h),(ii cell)] [] F (ii r):=by
 unfold rE.f at H;refine aG Tryz.func165 J J (λW=>rc T 10 (k [] J Ng H (wW.c ·) (λv1 H=>ro T 14 (cd J H (λH=>?_) (λH=>?_)))))
 ·refine rc T 7 ?_
  cases H;exact p0 T J [0] J
 refine rc T 9 (k [] J sb H (gy.c ·) (λv2 H=>k [] J Gi H (rF.c ·) (λv3 H=>ro T 20 ?_)))
 cases H;exact p0 T J [0] J
def qJ.l0:Nat->Int->Int->Int->Int->Int->Option Int
 |0,_,_,_,_,_=>none
 |k7+1,w,h,a,b,x6=>if x6<=4 then((mY.f w h a x6).bind λv8=>if(v8==b)=true then(some x6) else(qJ.l0 k7 w h a b (af (x6+1)))) else(some 5)
def qJ.f (w:Int) (h:Int) (a:Int) (b:Int):Option Int:=((wX.f w h a).bind λv3=>if(!v3)=true then(some true) else((wX.f w h b).bind λv4=>some (!v4))).bind λx1=>if x1=true then(some 5) else(qJ.l0 fuel w h a b 0)
theorem qJ.c (H:qJ.f w h a b=some r):
 QU 178 [(ii w),(ii h),(ii a),(ii b)] [] F (ii r):=by
 unfold qJ.f at H;refine aG Tryz.func178 J J (λW=>rc T 6 (mq H [0,1,2,3] [0] (λz2 (x1:Bool)=>(x1=z2,[(21,(bb x1))],[])) J J (λz2 Z1 _=>?_) ?_))
 ·refine rc T 4 (k [] J Nj Z1 (wX.c ·) (λv3 Z1=>ro T 2 (ab 15 J Z1 (λZ1=>?_) (λZ1=>?_))))
  ·refine ro T 8 (am _ [0] (oi Z1) J J)
  refine ro T 3 (k [] J Nj Z1 (wX.c ·) (λv4 Z1=>ro T 4 (am _ [0] (oi Z1) J J)))
 rintro _ x1 rfl H;refine cb J H (λH=>?_) (λH=>?_)
 ·refine rc T 7 ?_
  cases H;exact p0 T J [0] J
 refine rc T 9 (lq [0,1,2,3] [0] (λ(⟨k7,x6⟩:Nat×Int)=>(qJ.l0 k7 w h a b x6=some r,[(9,(ii x6))],[])) J J (fuel,0) [0] H J J ?_);rintro k7 x6 Z6;replace Z6:qJ.l0 (k7+1) w h a b x6=some r:=Z6;rw[qJ.l0] at Z6;refine rc T 7 (cd J Z6 (λZ6=>?_) (λZ6=>?_))
 ·refine rc T 10 (k [] J AR Z6 (mY.c ·) (λv8 Z6=>ro T 4 (cb J Z6 (λZ6=>?_) (λZ6=>?_))))
  ·refine rc T 12 ?_
   cases Z6;exact p0 T J [0] J
  refine rc T 9 (ar _ [0] Z6 J J)
 refine rc T 11 ?_
 cases Z6;exact p0 T J [0] J
end
noncomputable section
def AA.f (w:Int) (h:Int):Option Int:=(qI.f w h).bind λv1=>some (af (v1.1*v1.2))
theorem AA.c (H:AA.f w h=some r):
 QU 191 [(ii w),(ii h)] [] F (ii r):=by
 unfold AA.f at H;refine aG Tryz.func191 J J (λW=>rc T 9 (k [] J Gl H (qI.c ·) (λv1 H=>ro T 16 ?_)))
 cases H;exact p0 T J [0] J
def oE.l0:Nat->aF->aF->Int->List Int->Int->Option (List Int)
 |0,_,_,_,_,_=>none
 |k6+1,m,t,v1,x4,x5=>if x5<t.H then(if(0<=(af (v1+(af (x5*m.W))))/\(af (v1+(af (x5*m.W))))<=(aa x4:Int)/\(aa x4:Int)<=(aa x4:Int)) then(if(0<=(af (x5*t.W))/\(af (x5*t.W))<=(af ((af (x5+1))*t.W))/\(af ((af (x5+1))*t.W))<=(aa t.C:Int)) then(oE.l0 k6 m t v1 (cx x4 (ax (af (v1+(af (x5*m.W))))) (min (aa (aB t.C (af (x5*t.W)) (af ((af (x5+1))*t.W)))) (aa (aB x4 (af (v1+(af (x5*m.W)))) (aa x4:Int)))) (aB t.C (af (x5*t.W)) (af ((af (x5+1))*t.W)))) (af (x5+1))) else none) else none) else(some x4)
def oE.f (m:aF) (bG:Int) (t:aF):Option (List Int):=(ur.f m.W m.H bG 0).bind λv1=>oE.l0 fuel m t v1 m.C 0
def oE.R (aia:Option Addr) (aix:Nat) (ait:Nat) (r:(List Int)):bk:=λu G=> ∃(H0:Hp),ak (Fl.int .u8) 5 r aia aix H0/\aa r=ait/\u=(.tuple #[])/\G=[H0]
theorem oE.c (H:oE.f m bG t=some r) (ahb:ak (Fl.int .u8) 5 m.C kJ kt PX) (dU:aP (Fl.int .u8) t.C iz F) (fq:aa t.C<=iB):
 QR 193 [(.agg #[(ii m.W),(ii m.H),(ll kJ m.C kt)]),(ii bG),(.agg #[(ii t.W),(ii t.H),(ll iz t.C iB)])] [PX] [] F (oE.R kJ kt (aa m.C) r):=by
 unfold oE.f at H;refine aG Tryz.func193 J J (λW=>rc T 2 (nc T J (λb2=>nc T J (λb3=>ro T 5 (lf T 2 J (ro T 1 (lf T 2 J (ro T 1 (k [] J JD H (ur.c ·) (λv1 H=>ro T 6 (lf T 3 J (ro T 4 (lq [3,5,6,15] [1,2] (λ(⟨k6,x4,x5,H5⟩:Nat×List Int×Int×Hp)=>(oE.l0 k6 m t v1 x4 x5=some r/\ak (Fl.int .u8) 5 x4 kJ kt H5/\aa x4=aa m.C,[(16,(ii x5))],[(cl b2 30 [(ii m.W),(ii m.H),(ll kJ x4 kt)]),H5])) J J (fuel,m.C,0,PX) [1,2,1,0] ⟨H,ahb,J⟩ J J ?_)))))))))))));rintro k6 ⟨x4,x5,H5⟩ ⟨Z2,s5,l5⟩;rw[oE.l0] at Z2;refine rc T 6 (cd J Z2 (λZ2=>?_) (λZ2=>?_))
 ·refine rc T 10 (fz J (rz [21] mix (bR bQ) (λhg pf=>ha T 21 [0] sz hg pf J (al T 1 2 sz hg pf J J J (ha T 17 [2,3,4] sz hg pf J (al T 5 2 sz hg pf J J J (ha T 14 [6,7] sz hg pf J ?_)))))));obtain⟨c4,Z2⟩:=az Z2;refine av 8 sz hg pf J (kP T J J J J J J c4 s5.b_) (ha T 12 [9] sz hg pf J (al T 10 1 sz hg pf J J J (ha T 9 [11,12] sz hg pf J (al T 13 1 sz hg pf J J J (ha T 4 [14,15,16,17] sz hg pf J (al T 18 1 sz hg pf J J J (ha T 2 [19] sz hg pf J ?_)))))));obtain⟨c5,Z2⟩:=az Z2;refine av 20 sz hg pf J (kP T J J J J J J c5 fq) (ao 21 ?_);have L6:(ax (af (v1+(af (x5*m.W)))))+(aa (aB x4 (af (v1+(af (x5*m.W)))) (aa x4:Int)))<=aa x4:=(HT c4);refine BW (k:=(Fl.int .u8)) (xs:=x4) (ys:=(aB t.C (af (x5*t.W)) (af ((af (x5+1))*t.W)))) (lo:=(ax (af (v1+(af (x5*m.W)))))) (g:=3) T J J J J J J J J s5 (nq (rO dU 0) c5 fq) (.inr J) L6 (λH6 s6=>?_);have V7:(0<=(af (v1+(af (x5*m.W))))/\(af (v1+(af (x5*m.W))))<=(aa x4:Int)/\(aa x4:Int)<=(aa (cx x4 (ax (af (v1+(af (x5*m.W))))) (min (aa (aB t.C (af (x5*t.W)) (af ((af (x5+1))*t.W)))) (aa (aB x4 (af (v1+(af (x5*m.W)))) (aa x4:Int)))) (aB t.C (af (x5*t.W)) (af ((af (x5+1))*t.W)))):Int)):=by simp only[l8 L6];exact c4
  refine kg [3,5,6,7,15,16,19,21,22,23,24,25,26,28,29,30,31,32,33,34,35,36,37,38,39,40] [0,0,1] [0,0,1,0] [(20,(ll kJ (cx x4 (ax (af (v1+(af (x5*m.W))))) (min (aa (aB t.C (af (x5*t.W)) (af ((af (x5+1))*t.W)))) (aa (aB x4 (af (v1+(af (x5*m.W)))) (aa x4:Int)))) (aB t.C (af (x5*t.W)) (af ((af (x5+1))*t.W)))) kt)),(27,(ll (gk kJ kt (ax (af (v1+(af (x5*m.W))))) 1) (aB (cx x4 (ax (af (v1+(af (x5*m.W))))) (min (aa (aB t.C (af (x5*t.W)) (af ((af (x5+1))*t.W)))) (aa (aB x4 (af (v1+(af (x5*m.W)))) (aa x4:Int)))) (aB t.C (af (x5*t.W)) (af ((af (x5+1))*t.W)))) (af (v1+(af (x5*m.W)))) (aa x4:Int)) (kt-ax (af (v1+(af (x5*m.W)))))))] [(cl b2 30 [(ii m.W),(ii m.H),(ll kJ (cx x4 (ax (af (v1+(af (x5*m.W))))) (min (aa (aB t.C (af (x5*t.W)) (af ((af (x5+1))*t.W)))) (aa (aB x4 (af (v1+(af (x5*m.W)))) (aa x4:Int)))) (aB t.C (af (x5*t.W)) (af ((af (x5+1))*t.W)))) kt)])] J J ⟨(by first |rfl |(simp only[ll,l8 L6];rfl)),(by simp only[ll];rw[iQ V7,<-iQ c4];rfl),trivial⟩ (by first |rfl |(simp only[ll,l8 L6];rfl)) (an sl (ae (rx T 7 ?_)))
  exact ar (_,_,_) [0,0,1,0] ⟨Z2,s6,(Eq.trans (l8 L6) l5)⟩ J J
 refine rc T 4 (jk ?_)
 cases Z2;exact p1 T J [3,0] ⟨H5,s5,l5,J,J⟩ J
def mB.l0:Nat->(List Int)->Int->List Int->List Int->Int->Option (aF×Er)
 |0,_,_,_,_,_=>none
 |k9+1,b,v2,x6,x7,x8=>if x8<v2 then((rF.f (af (fX (cg (IntKind.bits .i64) (af (rd b 0))|||cg (IntKind.bits .i64) (af ((af (rd b 1))*2^8))))) (af (fX (cg (IntKind.bits .i64) (af (rd b 2))|||cg (IntKind.bits .i64) (af ((af (rd b 3))*2^8))))) x8).bind λv10=>(pN.f x6 v10.1 v10.2).bind λv11=>if(v11.2.2 !=0)=true then(some ((aF.mk 0 0 []),(Er.wrap 301 [x8] (Er.num 243 v11.2.2)))) else((oE.f (aF.mk (af (fX (cg (IntKind.bits .i64) (af (rd b 0))|||cg (IntKind.bits .i64) (af ((af (rd b 1))*2^8))))) (af (fX (cg (IntKind.bits .i64) (af (rd b 2))|||cg (IntKind.bits .i64) (af ((af (rd b 3))*2^8))))) x7) x8 v11.1).bind λv12=>if(0<=v11.2.1/\v11.2.1<=(aa x6:Int)/\(aa x6:Int)<=(aa x6:Int)) then(mB.l0 k9 b v2 (aB x6 v11.2.1 (aa x6:Int)) v12 (af (x8+1))) else none)) else(if(aa x6:Int)>0 then(some ((aF.mk 0 0 []),(Er.num 243 3))) else(some ((aF.mk (af (fX (cg (IntKind.bits .i64) (af (rd b 0))|||cg (IntKind.bits .i64) (af ((af (rd b 1))*2^8))))) (af (fX (cg (IntKind.bits .i64) (af (rd b 2))|||cg (IntKind.bits .i64) (af ((af (rd b 3))*2^8))))) x7),Er.nil)))
def mB.f (b:(List Int)):Option (aF×Er):=if(aa b:Int)<4 then(some ((aF.mk 0 0 []),(Er.num 243 2))) else(if(0<=(0:Int)/\(0:Int)<(aa b:Int)) then(if(0<=(1:Int)/\(1:Int)<(aa b:Int)) then(if(0<=(2:Int)/\(2:Int)<(aa b:Int)) then(if(0<=(3:Int)/\(3:Int)<(aa b:Int)) then((oy.f (af (fX (cg (IntKind.bits .i64) (af (rd b 0))|||cg (IntKind.bits .i64) (af ((af (rd b 1))*2^8))))) (af (fX (cg (IntKind.bits .i64) (af (rd b 2))|||cg (IntKind.bits .i64) (af ((af (rd b 3))*2^8)))))).bind λv1=>if(!v1)=true then(some ((aF.mk 0 0 []),(Er.num 243 3))) else(if(0<=(4:Int)/\(4:Int)<=(aa b:Int)/\(aa b:Int)<=(aa b:Int)) then(if(0<=(af ((af (fX (cg (IntKind.bits .i64) (af (rd b 0))|||cg (IntKind.bits .i64) (af ((af (rd b 1))*2^8)))))*(af (fX (cg (IntKind.bits .i64) (af (rd b 2))|||cg (IntKind.bits .i64) (af ((af (rd b 3))*2^8)))))))/\(af ((af (fX (cg (IntKind.bits .i64) (af (rd b 0))|||cg (IntKind.bits .i64) (af ((af (rd b 1))*2^8)))))*(af (fX (cg (IntKind.bits .i64) (af (rd b 2))|||cg (IntKind.bits .i64) (af ((af (rd b 3))*2^8)))))))<=1099511627776) then((AA.f (af (fX (cg (IntKind.bits .i64) (af (rd b 0))|||cg (IntKind.bits .i64) (af ((af (rd b 1))*2^8))))) (af (fX (cg (IntKind.bits .i64) (af (rd b 2))|||cg (IntKind.bits .i64) (af ((af (rd b 3))*2^8)))))).bind λv2=>mB.l0 fuel b v2 (aB b 4 (aa b:Int)) (ct (ax (af ((af (fX (cg (IntKind.bits .i64) (af (rd b 0))|||cg (IntKind.bits .i64) (af ((af (rd b 1))*2^8)))))*(af (fX (cg (IntKind.bits .i64) (af (rd b 2))|||cg (IntKind.bits .i64) (af ((af (rd b 3))*2^8)))))))) (0:Int)) 0) else none) else none)) else none) else none) else none) else none)
def mB.R (el:Nat->Addr) (r:(aF×Er)):bk:=λu G=> ∃(a0 n0 H0:_) (v1:Value) (H1:Hp),ak (Fl.int .u8) 5 r.1.C a0 n0 H0/\gm 414 el r.2 v1 H1/\u=(.tuple #[(.agg #[(ii r.1.W),(ii r.1.H),(ll a0 r.1.C n0)]),v1])/\G=[H0,H1]
theorem mB.c (H:mB.f b=some r) (hG:fK 414 fa gP el F) (ir:aP (Fl.int .u8) b ki F) (gF:aa b<=jV):
 QR 147 [(ll ki b jV)] [] [] F (mB.R el r):=by
 unfold mB.f at H;refine aG Tryz.func147 J J (λW=>rc T 2 (nc T J (λb1=>ro T 11 (cd J H (λH=>?_) (λH=>?_)))))
 ·refine rc T 3 (bx J (iq T J J J J) (sg T 1 J (ro T 5 ?_)))
  cases H;refine bA (bA (pb T J (.cT (j:=1) [(ii 0),(ii 0),nl] J J J J J J J (.tmp J .nil)) [2,2,0] ⟨(_,_),none,0,[],(.iface 243 (ii 2)),[],ak.nil,rY,J,J⟩ J J))
 refine rc T 3 (ks [0,2] J (fz J (rg [] [0,0] mix (bR bQ) (λhg pf=>ha T 22 [0] sz hg pf J ?_))));obtain⟨c2,H⟩:=az H;obtain⟨q4,o4,e4⟩:=ir.addr c2.1 c2.2;refine av 1 sz hg pf J (cB T J J J J J e4 c2.1 c2.2) (av 2 sz hg pf J (cC T J J J J (fv (k:=(Fl.int .u8)) (rO ir 0) e4 c2 0 J)) (ha T 18 [3,4] sz hg pf J ?_));obtain⟨c3,H⟩:=az H;refine av 5 sz hg pf J (cB T J J J J J e4 c3.1 c3.2) (av 6 sz hg pf J (cC T J J J J (fv (k:=(Fl.int .u8)) (rO ir 0) e4 c3 0 J)) (ha T 12 [7,8,9,10] sz hg pf J ?_));obtain⟨c4,H⟩:=az H;refine av 11 sz hg pf J (cB T J J J J J e4 c4.1 c4.2) (av 12 sz hg pf J (cC T J J J J (fv (k:=(Fl.int .u8)) (rO ir 0) e4 c4 0 J)) (ha T 8 [13,14] sz hg pf J ?_));obtain⟨c5,H⟩:=az H;refine av 15 sz hg pf J (cB T J J J J J e4 c5.1 c5.2) (av 16 sz hg pf J (cC T J J J J (fv (k:=(Fl.int .u8)) (rO ir 0) e4 c5 0 J)) (ha T 2 [17,18,19,20] sz hg pf J (ao 21 (nw T J (λb5=>an (so [0,0]) (ao 22 (sf T 2 J (an (so [0,0]) (ae (rx T 5 (lf T 2 J (ro T 1 (lf T 2 J (k [] J Cj H (oy.c ·) (λv1 H=>ro T 3 (cb J H (λH=>?_) (λH=>?_)))))))))))))))))
 ·refine rc T 3 (bx J (iq T J J J J) (sg T 1 J (ro T 5 ?_)))
  cases H;refine bA (bA (pb T J (.cT (j:=1) [(ii 0),(ii 0),nl] J J J J J J J (.tmp J .nil)) [3,3,0] ⟨(_,_),none,0,[],(.iface 243 (ii 3)),[],ak.nil,rY,J,J⟩ J J))
 refine rc T 5 ?_;obtain⟨c8,H⟩:=az H;refine bx J (kP T J J J J J J c8 gF) (ro T 6 (lf T 2 J (ro T 1 (lf T 2 J (ro T 1 ?_)))));obtain⟨c9,H⟩:=az H;refine aV (xh (k:=(Fl.int .u8)) T (0:Int) J J J J J J J J c9 J (λa8 n8 H8 s8=>ro T 1 (sg T 2 J (ro T 6 (lf T 2 J (ro T 1 (lf T 2 J (k [] J ach H (AA.c ·) (λv2 H=>ro T 4 (lq [2,4,58] [0,0] (λ(⟨k9,x6,x7,x8,de,n11,a12,n12,dH⟩:Nat×List Int×List Int×Int×Option Addr×Nat×Option Addr×Nat×Hp)=>(mB.l0 k9 b v2 x6 x7 x8=some r/\dD (Fl.int .u8) b ki jV x6 de n11/\aa x6<=n11/\ak (Fl.int .u8) 5 x7 a12 n12 dH,[(0,(ll de x6 n11)),(59,(ii x8))],[(cl b5 30 [(ii (af (fX (cg (IntKind.bits .i64) (af (rd b 0))|||cg (IntKind.bits .i64) (af ((af (rd b 1))*2^8)))))),(ii (af (fX (cg (IntKind.bits .i64) (af (rd b 2))|||cg (IntKind.bits .i64) (af ((af (rd b 3))*2^8)))))),(ll a12 x7 n12)]),dH])) J J (fuel,(aB b 4 (aa b:Int)),(ct (ax (af ((af (fX (cg (IntKind.bits .i64) (af (rd b 0))|||cg (IntKind.bits .i64) (af ((af (rd b 1))*2^8)))))*(af (fX (cg (IntKind.bits .i64) (af (rd b 2))|||cg (IntKind.bits .i64) (af ((af (rd b 3))*2^8)))))))) (0:Int)),0,(gk ki jV (ax 4) 1),(jV-ax 4),a8,n8,H8) [0,0,0,0] ⟨H,(dD.sub dD.self gF c8),(mS c8 gF),s8⟩ J J ?_))))))))))
 rintro k9 ⟨x6,x7,x8,de,n11,a12,n12,dH⟩ ⟨aY,yZ,AE,dN⟩;rw[mB.l0] at aY;refine rc T 6 (cd J aY (λaY=>?_) (λaY=>?_))
 ·refine rc T 13 (lf T 2 J (ro T 1 (lf T 2 J (ro T 1 (k [] J Gi aY (rF.c ·) (λv10 aY=>ro T 12 (kr (pN.R el) [] [] J aci aY (pN.c · (dE hG (j:=0) J) (oH yZ (rO ir 0) gF) AE) (λv11 aY=>?_))))))));rintro _ _ ⟨dy,n13,dT,dg,rfl,rfl⟩;refine fz J (ro T 4 (nc T J (λI3=>sg T 5 J (ro T 11 (cb J aY (λaY=>?_) (λaY=>?_))))))
  ·refine rc T 5 (bx J (iq T J J J J) (ro T 1 (nc T J (λoG=>bA (gD [6,6] J (bx J (iq T J J J J) (sg T 1 J (ro T 10 ?_))))))))
   cases aY;refine bA (pb T J (.cT (j:=1) [(ii 0),(ii 0),nl] J J J J J J J (.tmp J .nil)) [7,6,0] ⟨(_,_),none,0,[],(.iface 301 (pp oG)),(List.flatten [(cl oG 303 [(ii x8),(.iface 243 (ii v11.2.2))]),[]]),ak.nil,(qg rY),J,J⟩ J J)
  refine rc T 4 (lm T 2 J (ro T 1 (lm T 5 J (kr (oE.R a12 n12 (aa x7)) [] [3] J acj aY (oE.c (m:=(aF.mk (af (fX (cg (IntKind.bits .i64) (af (rd b 0))|||cg (IntKind.bits .i64) (af ((af (rd b 1))*2^8))))) (af (fX (cg (IntKind.bits .i64) (af (rd b 2))|||cg (IntKind.bits .i64) (af ((af (rd b 3))*2^8))))) x7)) · dN (oO dg 3) dg.b_) (λv12 aY=>?_)))))
  rintro _ _ ⟨lh,hJ,l19,rfl,rfl⟩;refine fz J (kg [0,2,4,9,58,59] [0,0,3] [0,0,3,0] [] [(cl b5 30 [(ii (af (fX (cg (IntKind.bits .i64) (af (rd b 0))|||cg (IntKind.bits .i64) (af ((af (rd b 1))*2^8)))))),(ii (af (fX (cg (IntKind.bits .i64) (af (rd b 2))|||cg (IntKind.bits .i64) (af ((af (rd b 3))*2^8)))))),(ll a12 v12 n12)])] J J trivial (by first |rfl |(simp only[ll,l19];rfl)) (ro T 5 ?_))
  obtain⟨lO,aY⟩:=az aY;refine bx J (kP T J J J J J J lO AE) (ro T 9 (ar (_,_,_,_,_,_,_,_) [0,0,1,0] ⟨aY,(dD.sub yZ gF lO),(mS lO AE),hJ⟩ J J))
 refine rc T 13 (cd J aY (λaY=>?_) (λaY=>?_))
 ·refine rc T 3 (bx J (iq T J J J J) (sg T 1 J (ro T 5 ?_)))
  cases aY;refine bA (bA (pb T J (.cT (j:=1) [(ii 0),(ii 0),nl] J J J J J J J (.tmp J .nil)) [4,4,0] ⟨(_,_),none,0,[],(.iface 243 (ii 3)),[],ak.nil,rY,J,J⟩ J J))
 refine rc T 4 (lm T 2 J (sg T 1 J (ro T 4 ?_)))
 cases aY;refine bA (pb T J (.cT (j:=1) [(ii (af (fX (cg (IntKind.bits .i64) (af (rd b 0))|||cg (IntKind.bits .i64) (af ((af (rd b 1))*2^8)))))),(ii (af (fX (cg (IntKind.bits .i64) (af (rd b 2))|||cg (IntKind.bits .i64) (af ((af (rd b 3))*2^8)))))),(ll a12 x7 n12)] J J J J J J J (.tmp J .nil)) [3,3,0] ⟨(_,_),a12,n12,dH,.nilIface,[],dN,uL,J,J⟩ J J)
def tj.f (b:(List Int)):Option (aF×Int):=(mB.f b).bind λv1=>(zh.f v1.2).bind λv2=>if(Option.isSome v2)=true then(some ((aF.mk 0 0 []),(Option.getD v2 0))) else(some (v1.1,0))
def tj.R (el:Nat->Addr) (r:(aF×Int)):bk:=λu G=> ∃a0 n0 H0,ak (Fl.int .u8) 5 r.1.C a0 n0 H0/\u=(.tuple #[(.agg #[(ii r.1.W),(ii r.1.H),(ll a0 r.1.C n0)]),(ii r.2)])/\G=[H0]
theorem tj.c (H:tj.f b=some r) (hG:fK 414 fa gP el F) (ir:aP (Fl.int .u8) b ki F) (gF:aa b<=jV):
 QR 114 [(ll ki b jV)] [] [] F (tj.R el r):=by
 unfold tj.f at H;refine aG Tryz.func114 J J (λW=>rc T 2 (nc T J (λb1=>ro T 6 (kr (mB.R el) [] [] J abU H (mB.c · (dE hG (j:=0) J) (rO ir 0) gF) (λv1 H=>?_)))));rintro _ _ ⟨a2,n2,H2,v3,H3,s2,s3,rfl,rfl⟩;refine fz J (ro T 3 (nc T J (λb4=>sg T 4 J (ro T 6 (nc T J (λb5=>sg T 5 J (ro T 1 (ks [2,4,5,6] J (rx T 4 (bx J (iq T J J J J) ?_))))))))));obtain⟨v2,V2,H⟩:=gu H;refine aV (vJ (As:=[(cl b5 243 [(ii 0)])]) (R:=[F,(cl b1 30 [(ii 0),(ii 0),nl]),H2,H3,(cl b4 30 [(ii v1.1.W),(ii v1.1.H),(ll a2 v1.1.C n2)])]) (B:=λ_=>[(cl b5 243 [(ii (Option.getD v2 0))])]) [5] J J J J JM J J (zh.c v1.2 v2 _ V2 (dE hG (j:=0) J) (rZ s3 (j:=3) J)) (λ_=>ro T 2 (cb J H (λH=>?_) (λH=>?_))))
 ·refine rc T 1 (ke [2,6] [0,0,3] J J (fz J (rz [] mix (bR bQ) (λhg pf=>ha T 3 [0] sz hg pf J (al T 1 2 sz hg pf J J J (ao 2 (sf T 1 J (an sz (ha T 0 [3] sz hg pf J (ae (rx T 1 (rc T 2 ?_))))))))))))
  cases H;refine bA (pb T J (.cT (j:=1) [(ii 0),(ii 0),nl] J J J J J J J (.tmp J .nil)) [3,0] ⟨(_,_),none,0,[],ak.nil,J,J⟩ J J)
 refine rc T 4 (lm T 4 J (sg T 1 J (ro T 4 ?_)))
 cases H;exact pb T J (.cT (j:=1) [(ii v1.1.W),(ii v1.1.H),(ll a2 v1.1.C n2)] J J J J J J J (.tmp J .nil)) [2,0] ⟨(_,_),a2,n2,H2,s2,J,J⟩ J J
def yY.f (m:aF):Option Bool:=((oy.f m.W m.H).bind λv3=>if v3=true then(if((aa m.C:Int)==(af (m.W*m.H)))=true then((wQ.f m.C 0).bind λv4=>some (!v4)) else(some false)) else(some false)).bind λx1=>some x1
theorem yY.c (H:yY.f m=some r) (iM:aP (Fl.int .u8) m.C kJ F) (py:aa m.C<=kt):
 QU 148 [(.agg #[(ii m.W),(ii m.H),(ll kJ m.C kt)])] [] F (bb r):=by
 unfold yY.f at H;refine aG Tryz.func148 J J (λW=>rc T 2 (nc T J (λb1=>ro T 3 (mq H [] [0] (λz2 (x1:Bool)=>(x1=z2,[(2,(bb x1))],[])) J J (λz2 Z1 _=>?_) ?_))))
 ·refine rc T 2 (lf T 1 J (ro T 1 (lf T 1 J (k [] J Cj Z1 (oy.c ·) (λv3 Z1=>ro T 1 (ab 8 J Z1 (λZ1=>?_) (λZ1=>?_)))))))
  ·refine ro T 1 (lf T 1 J (ro T 2 (lf T 1 J (ro T 1 (lf T 1 J (ro T 4 (ab 19 J Z1 (λZ1=>?_) (λZ1=>?_))))))))
   ·refine ro T 1 (lf T 1 J (k [] J M1 Z1 (wQ.c · (rO iM 0) py) (λv4 Z1=>ro T 5 (am _ [0] (oi Z1) J J))))
   refine ro T 8 (am _ [0] (oi Z1) J J)
  refine ro T 19 (am _ [0] (oi Z1) J J)
 rintro _ x1 rfl H;refine rc T 1 ?_
 cases H;exact p0 T J [0] J
end
noncomputable section
def uM.f (cells:Int):Option (Option km):=if((decide (cells<1))||(decide (cells>1048576)))=true then(some none) else(if(0<=cells/\cells<=1099511627776) then(some (some (km.mk (ct (ax cells) (0:Int)) 0))) else none)
def uM.R (r:(Option km)):bk:=λu G=> ∃(u0:Value) (G0:List Hp),XL r u0 G0/\u=u0/\G=G0
theorem uM.c (H:uM.f cells=some r):
 QR 153 [(ii cells)] [] [] F (uM.R r):=by
 unfold uM.f at H;refine aG Tryz.func153 J J (λW=>rc T 11 (go T [3,4,5] 5 [0] 8 J J J J J J J (ro T 2 (cb J H (λH=>?_) (λH=>?_)))))
 ·refine rc T 7 ?_
  cases H;exact p1 T J [0] ⟨_,_,⟨J,J⟩,J,J⟩ J
 refine rc T 5 ?_;obtain⟨c2,H⟩:=az H;refine aV (xh (k:=(Fl.int .u32)) T (0:Int) J J J J J J J J c2 J (λa1 n1 H1 s1=>ro T 1 (nc T J (λb2=>ro T 4 ?_))))
 cases H;exact p1 T J [2,1,0] ⟨_,_,⟨b2,a1,n1,H1,s1,J,J⟩,J,J⟩ J
def zj.f (ag:km) (cell:Int):Option Bool:=(if cell≥0 then(some (decide (cell<(aa ag.words:Int)))) else(some false)).bind λx1=>some x1
theorem zj.c (H:zj.f ag cell=some r) (lU:ak (Fl.int .u32) 65 ag.words oC oV rP):
 QU 195 [(pp aW),(ii cell)] [(cl aW 221 [(ll oC ag.words oV),(ii ag.count)]),rP] F (bb r):=by
 unfold zj.f at H;refine aG Tryz.func195 J J (λW=>rc T 5 (mq H [] [2,0,0] (λz2 (x1:Bool)=>(x1=z2,[(4,(bb x1))],[])) J J (λz2 Z1 _=>?_) ?_))
 ·refine rc T 8 (ad 11 J Z1 (λZ1=>?_) (λZ1=>?_))
  ·refine ro T 4 (lf T 0 J (ro T 6 (am _ [2,0,0] (oi Z1) J J)))
  refine ro T 11 (am _ [2,0,0] (oi Z1) J J)
 rintro _ x1 rfl H;refine rc T 1 ?_
 cases H;exact p0 T J [1,1,0] J
def qV.f (ag:km) (cell:Int):Option Int:=(zj.f ag cell).bind λv1=>if(!v1)=true then(some (-1)) else(if(0<=cell/\cell<(aa ag.words:Int)) then(some (af ((af (rd ag.words cell))-1))) else none)
theorem qV.c (H:qV.f ag cell=some r) (lU:ak (Fl.int .u32) 65 ag.words oC oV rP):
 QU 154 [(pp aW),(ii cell)] [(cl aW 221 [(ll oC ag.words oV),(ii ag.count)]),rP] F (ii r):=by
 unfold qV.f at H;refine aG Tryz.func154 J J (λW=>rc T 10 (k [0,0] J SK H (zj.c · lU) (λv1 H=>ro T 3 (cb J H (λH=>?_) (λH=>?_)))))
 ·refine rc T 7 ?_
  cases H;exact p0 T J [0,0,0] J
 refine rc T 7 (lf T 0 J (ro T 1 ?_));obtain⟨c3,H⟩:=az H;obtain⟨q3,o3,e3⟩:=lU.r.addr c3.1 c3.2;refine ix T J e3 c3 (le T 0 (oO lU 1) e3 c3 J J (ro T 6 ?_))
 cases H;exact p0 T J [0,0,0] J
def zi.f (ag:km) (cell:Int):Option Bool:=((zj.f ag cell).bind λv3=>if v3=true then(if(0<=cell/\cell<(aa ag.words:Int)) then(some ((rd ag.words cell)==0)) else none) else(some false)).bind λx1=>some x1
theorem zi.c (H:zi.f ag cell=some r) (lU:ak (Fl.int .u32) 65 ag.words oC oV rP):
 QU 196 [(pp aW),(ii cell)] [(cl aW 221 [(ll oC ag.words oV),(ii ag.count)]),rP] F (bb r):=by
 unfold zi.f at H;refine aG Tryz.func196 J J (λW=>rc T 5 (mq H [] [2,0,0] (λz2 (x1:Bool)=>(x1=z2,[(4,(bb x1))],[])) J J (λz2 Z1 _=>?_) ?_))
 ·refine rc T 3 (k [0,0] J SK Z1 (zj.c · lU) (λv3 Z1=>ro T 1 (ab 8 J Z1 (λZ1=>?_) (λZ1=>?_))))
  ·refine ro T 3 (lf T 0 J (ro T 1 ?_));obtain⟨c4,Z1⟩:=az Z1;obtain⟨q3,o3,e3⟩:=lU.r.addr c4.1 c4.2;refine ix T J e3 c4 (le T 0 (oO lU 1) e3 c4 J J (ro T 5 (am _ [2,0,0] (oi Z1) J J)))
  refine ro T 12 (am _ [2,0,0] (oi Z1) J J)
 rintro _ x1 rfl H;refine rc T 1 ?_
 cases H;exact p0 T J [1,1,0] J
def tv.f (ag:km) (cell:Int) (p2:Int):Option (Bool×km):=(zi.f ag cell).bind λv1=>if(((!v1)||(decide (p2<0)))||(decide (p2≥4294967295)))=true then(some (false,ag)) else(if(0<=cell/\cell<(aa ag.words:Int)) then(some (true,(km.mk (aD ag.words (ax cell) (PN (af (p2+1)))) (af (ag.count+1))))) else none)
def tv.R (aW:Nat) (r:(Bool×km)):bk:=λu G=> ∃a0 n0 H0,ak (Fl.int .u32) 65 r.2.words a0 n0 H0/\u=(bb r.1)/\G=[(cl aW 221 [(ll a0 r.2.words n0),(ii r.2.count)]),H0]
theorem tv.c (H:tv.f ag cell p2=some r) (lU:ak (Fl.int .u32) 65 ag.words oC oV rP):
 QR 157 [(pp aW),(ii cell),(ii p2)] [(cl aW 221 [(ll oC ag.words oV),(ii ag.count)]),rP] [] F (tv.R aW r):=by
 unfold tv.f at H;refine aG Tryz.func157 J J (λW=>rc T 10 (k [0,0] J SL H (zi.c · lU) (λv1 H=>ro T 2 (go T [5,6,7] 11 [0,1,2] 14 J J J J J J J (ro T 1 (go T [9,10,11] 15 [0,1,2] 18 J J J J J J J (ro T 2 (cb J H (λH=>?_) (λH=>?_)))))))))
 ·refine rc T 7 ?_
  cases H;exact p1 T J [0,0,0] ⟨oC,oV,rP,lU,J,J⟩ J
 refine rc T 7 (lf T 0 J (ro T 4 ?_));obtain⟨c3,H⟩:=az H;obtain⟨q3,o3,e3⟩:=lU.r.addr c3.1 c3.2;refine ix T J e3 c3 (aV (jN (k:=(Fl.int .u32)) T 1 0 (PN (af (p2+1))) J J J J J J lU e3 c3 J J J (λH4 s4=>kg [0] [1,1] [1,1,0] [] [(cl aW 221 [(ll oC (aD ag.words (ax cell) (PN (af (p2+1)))) oV),(ii ag.count)])] J J trivial dw (ro T 7 (lf T 2 J (ro T 3 (sg T 2 J (ro T 8 ?_))))))))
 cases H;exact p1 T J [2,0,0] ⟨oC,oV,H4,s4,J,J⟩ J
def tz.f (ag:km) (cell:Int):Option (Int×km):=(qV.f ag cell).bind λv1=>if(v1 !=(-1))=true then(if(0<=cell/\cell<(aa ag.words:Int)) then(some (v1,(km.mk (aD ag.words (ax cell) 0) (af (ag.count-1))))) else none) else(some (v1,ag))
def tz.R (aW:Nat) (r:(Int×km)):bk:=λu G=> ∃a0 n0 H0,ak (Fl.int .u32) 65 r.2.words a0 n0 H0/\u=(ii r.1)/\G=[(cl aW 221 [(ll a0 r.2.words n0),(ii r.2.count)]),H0]
theorem tz.c (H:tz.f ag cell=some r) (lU:ak (Fl.int .u32) 65 ag.words oC oV rP):
 QR 160 [(pp aW),(ii cell)] [(cl aW 221 [(ll oC ag.words oV),(ii ag.count)]),rP] [] F (tz.R aW r):=by
 unfold tz.f at H;refine aG Tryz.func160 J J (λW=>rc T 9 (k [0,0] J Gg H (qV.c · lU) (λv1 H=>ro T 10 (cb J H (λH=>?_) (λH=>?_)))))
 ·refine rc T 5 (lf T 0 J (ro T 1 ?_));obtain⟨c3,H⟩:=az H;obtain⟨q3,o3,e3⟩:=lU.r.addr c3.1 c3.2;refine ix T J e3 c3 (aV (jN (k:=(Fl.int .u32)) T 1 0 0 J J J J J J lU e3 c3 J J J (λH4 s4=>kg [0,5] [1,1] [1,1,0] [] [(cl aW 221 [(ll oC (aD ag.words (ax cell) 0) oV),(ii ag.count)])] J J trivial dw (ro T 6 (lf T 2 J (ro T 3 (sg T 2 J (ro T 9 ?_))))))))
  cases H;exact p1 T J [2,0,0] ⟨oC,oV,H4,s4,J,J⟩ J
 refine rc T 9 ?_
 cases H;exact p1 T J [0,0,0] ⟨oC,oV,rP,lU,J,J⟩ J
def xv.f (ag:km) (ai:Int) (p2:Int):Option (Bool×km):=((qV.f ag ai).bind λv3=>if(v3==(-1))=true then(some true) else((zi.f ag p2).bind λv4=>some (!v4))).bind λx1=>if x1=true then(some (false,ag)) else((tz.f ag ai).bind λv5=>(tv.f v5.2 p2 v5.1).bind λv6=>some (v6.1,v6.2))
def xv.R (aW:Nat) (r:(Bool×km)):bk:=λu G=> ∃a0 n0 H0,ak (Fl.int .u32) 65 r.2.words a0 n0 H0/\u=(bb r.1)/\G=[(cl aW 221 [(ll a0 r.2.words n0),(ii r.2.count)]),H0]
theorem xv.c (H:xv.f ag ai p2=some r) (lU:ak (Fl.int .u32) 65 ag.words oC oV rP):
 QR 167 [(pp aW),(ii ai),(ii p2)] [(cl aW 221 [(ll oC ag.words oV),(ii ag.count)]),rP] [] F (xv.R aW r):=by
 unfold xv.f at H;refine aG Tryz.func167 J J (λW=>rc T 6 (mq H [0,1,2] [2,0,0] (λz2 (x1:Bool)=>(x1=z2,[(16,(bb x1))],[])) J J (λz2 Z1 _=>?_) ?_))
 ·refine rc T 3 (k [0,0] J Gg Z1 (qV.c · lU) (λv3 Z1=>ro T 2 (ab 11 J Z1 (λZ1=>?_) (λZ1=>?_))))
  ·refine ro T 7 (am _ [2,0,0] (oi Z1) J J)
  refine ro T 2 (k [0,0] J SL Z1 (zi.c · lU) (λv4 Z1=>ro T 4 (am _ [2,0,0] (oi Z1) J J)))
 rintro _ x1 rfl H;refine cb J H (λH=>?_) (λH=>?_)
 ·refine rc T 7 ?_
  cases H;exact p1 T J [1,1,0] ⟨oC,oV,rP,lU,J,J⟩ J
 refine rc T 8 (kr (tz.R aW) [] [1,1] J SD H (tz.c · lU) (λv5 H=>?_));rintro _ _ ⟨a3,n3,H3,s3,rfl,rfl⟩;refine fz J (kr (tv.R aW) [] [1,1] J SC H (tv.c · s3) (λv6 H=>?_));rintro _ _ ⟨a4,n4,H4,s4,rfl,rfl⟩;refine fz J (ro T 4 ?_)
 cases H;exact p1 T J [1,1,0] ⟨a4,n4,H4,s4,J,J⟩ J
end
noncomputable section
def pO.l0:Nat->Int->Int->(List bB)->Int->(List (Int×Bool))->Int->Option Bool
 |0,_,_,_,_,_,_=>none
 |k8+1,w,h,l,x5,x6,x7=>if x7<(aa l:Int) then(if(0<=x7/\x7<(aa l:Int)) then((if(rd l x7).Id<=x5 then(some true) else((gy.f w h ((rd l x7).Cell)).bind λv11=>if v11<0 then(some true) else((gy.f w h ((rd l x7).Goal)).bind λv12=>if v12<0 then(some true) else(some (aT x6 ((rd l x7).Cell)))))).bind λx9=>if x9=true then(some false) else(pO.l0 k8 w h l ((rd l x7).Id) (cO x6 ((rd l x7).Cell) true) (af (x7+1)))) else none) else(some true)
def pO.f (w:Int) (h:Int) (l:(List bB)):Option Bool:=(oy.f w h).bind λv1=>if(!v1)=true then(some false) else(pO.l0 fuel w h l (-1) ([]:(List (Int×Bool))) 0)
theorem pO.c (H:pO.f w h l=some r) (df:aP lT l gV F) (f_:aa l<=gQ):
 QU 61 [(ii w),(ii h),(ll gV l gQ)] [] F (bb r):=by
 unfold pO.f at H;refine aG Tryz.func61 J J (λW=>rc T 10 (k [] J Cj H (oy.c ·) (λv1 H=>ro T 3 (cb J H (λH=>?_) (λH=>?_)))))
 ·refine rc T 7 ?_
  cases H;exact p0 T J [0] J
 refine rc T 11 (aV (vK T (Ky.int .i64 u3) (λx:Bool=>Value.bool x) J J J ⟨_,_,J⟩ (λa1 H1 s1=>ro T 12 (lq [0,1,18,19] [0] (λ(⟨k8,x5,x6,x7,a3,H3⟩:Nat×Int×(List (Int×Bool))×Int×Nat×Hp)=>(pO.l0 k8 w h l x5 x6 x7=some r/\cU (Ky.int .i64 u3) (λx:Bool=>Value.bool x) x6 a3 H3,[(7,(ii x5)),(8,(.map (some a3))),(20,(ii x7))],[H3])) J J (fuel,(-1),([]:(List (Int×Bool))),0,a1,H1) [0,0] ⟨H,s1⟩ J J ?_))));rintro k8 ⟨x5,x6,x7,a3,H3⟩ ⟨Z3,s3⟩;rw[pO.l0] at Z3;refine rc T 6 (cd J Z3 (λZ3=>?_) (λZ3=>?_))
 ·refine rc T 6 ?_;obtain⟨c5,Z3⟩:=az Z3;obtain⟨q4,o4,e4⟩:=df.addr c5.1 c5.2;refine ix T J e4 c5 (bx J (gd T (cs:=[(ii (rd l x7).Id),(ii (rd l x7).Cell),(ii (rd l x7).Goal)]) J J J J J J (iu (k:=lT) (rO df 0) e4 c5 J)) (nc T J (λb5=>sg T 2 J (ro T 3 (mq Z3 [0,1,8,10,18,19,20] [0,0,0] (λmo (x9:Bool)=>(x9=mo,[(49,(bb x9))],[])) J J (λmo Z6 _=>?_) ?_)))))
  ·refine rc T 2 (lf T 2 J (ro T 3 (ad 28 J Z6 (λZ6=>?_) (λZ6=>?_))))
   ·refine ro T 23 (am _ [0,0,0] (oi Z6) J J)
   refine ro T 3 (lf T 2 J (k [] J sb Z6 (gy.c ·) (λv11 Z6=>ro T 3 (ad 36 J Z6 (λZ6=>?_) (λZ6=>?_)))))
   ·refine ro T 15 (am _ [0,0,0] (oi Z6) J J)
   refine ro T 3 (lf T 2 J (k [] J sb Z6 (gy.c ·) (λv12 Z6=>ro T 3 (ad 44 J Z6 (λZ6=>?_) (λZ6=>?_)))))
   ·refine ro T 7 (am _ [0,0,0] (oi Z6) J J)
   refine ro T 2 (lf T 2 J (bx J (qi (k:=(rd l x7).Cell) T (Ky.int .i64 u3) (λx:Bool=>Value.bool x) J J J J J (oS s3 (j:=1) J)) (ro T 3 (am _ [0,0,0] (oi Z6) J J))))
  rintro _ x9 rfl Z3;refine cb J Z3 (λZ3=>?_) (λZ3=>?_)
  ·refine rc T 12 ?_
   cases Z3;exact p0 T J [0] J
  refine rc T 2 (fz J (rz [6] mix (bR bQ) (λhg pf=>ha T 5 [0,1] sz hg pf J (al T 2 2 sz hg pf J J J (ha T 3 [3] sz hg pf J (al T 4 2 sz hg pf J J J (ha T 1 [5] sz hg pf J (ao 6 (p_ (g:=1) (m:=x6) (k:=(rd l x7).Cell) (v:=true) T (Ky.int .i64 u3) (λx:Bool=>Value.bool x) J J J J J J J s3 (λH6 s6=>an sl (ae (rx T 7 (ar (_,_,_,_,_) [0,0] ⟨Z3,s6⟩ J J)))))))))))))
 refine rc T 11 ?_
 cases Z3;exact p0 T J [0] J
def oW.l0:Nat->(List bB)->List Int->(List (Int×Bool))->Int->Option (List Int)
 |0,_,_,_,_=>none
 |k7+1,l,x4,x5,x6=>if x6<(aa l:Int) then(if(0<=x6/\x6<(aa l:Int)) then(if(!(aT x5 ((rd l x6).Goal)))=true then(if(aa x4+1<=1099511627776) then(oW.l0 k7 l (x4++[(rd l x6).Goal]) (cO x5 ((rd l x6).Goal) true) (af (x6+1))) else none) else(oW.l0 k7 l x4 x5 (af (x6+1)))) else none) else(some x4)
def oW.f (l:(List bB)):Option (List Int):=oW.l0 fuel l [] ([]:(List (Int×Bool))) 0
def oW.R (r:(List Int)):bk:=λu G=> ∃a0 n0 H0,ak (Fl.int .i64) 3 r a0 n0 H0/\u=(ll a0 r n0)/\G=[H0]
theorem oW.c (H:oW.f l=some r) (df:aP lT l gV F) (f_:aa l<=gQ):
 QR 29 [(ll gV l gQ)] [] [] F (oW.R r):=by
 unfold oW.f at H;refine aG Tryz.func29 J J (λW=>rc T 12 (aV (vK T (Ky.int .i64 u3) (λx:Bool=>Value.bool x) J J J trivial (λa1 H1 s1=>ro T 12 (bA (lq [8,9] [0] (λ(⟨k7,x4,x5,x6,a4,n4,H4,a5,H5⟩:Nat×List Int×(List (Int×Bool))×Int×Option Addr×Nat×Hp×Nat×Hp)=>(oW.l0 k7 l x4 x5 x6=some r/\ak (Fl.int .i64) 3 x4 a4 n4 H4/\cU (Ky.int .i64 u3) (λx:Bool=>Value.bool x) x5 a5 H5,[(3,(ll a4 x4 n4)),(4,(.map (some a5))),(10,(ii x6))],[H4,H5])) J J (fuel,[],([]:(List (Int×Bool))),0,none,0,[],a1,H1) [0,1,0] ⟨H,ak.nil,s1⟩ J J ?_))))));rintro k7 ⟨x4,x5,x6,a4,n4,H4,a5,H5⟩ ⟨Z1,s4,s5⟩;rw[oW.l0] at Z1;refine rc T 6 (cd J Z1 (λZ1=>?_) (λZ1=>?_))
 ·refine rc T 6 ?_;obtain⟨c3,Z1⟩:=az Z1;obtain⟨q6,o6,e6⟩:=df.addr c3.1 c3.2;refine ix T J e6 c3 (bx J (gd T (cs:=[(ii (rd l x6).Id),(ii (rd l x6).Cell),(ii (rd l x6).Goal)]) J J J J J J (iu (k:=lT) (rO df 0) e6 c3 J)) (nc T J (λb7=>sg T 3 J (ro T 6 (lf T 3 J (bx J (qi (k:=(rd l x6).Goal) T (Ky.int .i64 u3) (λx:Bool=>Value.bool x) J J J J J (oS s5 (j:=2) J)) (ro T 3 (cb J Z1 (λZ1=>?_) (λZ1=>?_)))))))))
  ·refine rc T 4 (lf T 3 J (aV (p_ (g:=2) (m:=x5) (k:=(rd l x6).Goal) (v:=true) T (Ky.int .i64 u3) (λx:Bool=>Value.bool x) J J J J J J J s5 (λH8 s8=>ro T 5 (lf T 3 J (aV (c_ (k:=(Fl.int .i64)) T [(rd l x6).Goal] J J J J J J J J J (λa9 H9 s9=>?_))))))));obtain⟨c5,Z1⟩:=az Z1;refine aV (eF (k:=(Fl.int .i64)) (xs:=x4) T (g:=1) J J J J J J J J J J s4 (oO s9 4) c5 J (λcz n10 bZ bT=>ro T 2 (ke [3,4,8,9,10] [0,0,0] J J (rx T 7 (ar (_,_,_,_,_,_,_,_) [0,0,0] ⟨Z1,bT,s8⟩ J J)))))
  refine rc T 8 (ar (_,_,_,_,_,_,_,_) [0,0,0] ⟨Z1,s4,s5⟩ J J)
 refine rc T 12 ?_
 cases Z1;exact p1 T J [1,0] ⟨a4,n4,H4,s4,J,J⟩ J
def ku.l1:Nat->(List Int)->(List (Int×(List gr)))->List Int->List gr->Int->Option (List gr)
 |0,_,_,_,_,_=>none
 |Kn+1,v17,bV,dG,qK,eZ=>if eZ<(aa v17:Int) then(if(0<=eZ/\eZ<(aa v17:Int)) then(if(¬(rd v17 eZ)∈dG) then(if(aa qK+aa (aT bV (rd v17 eZ))<=1099511627776) then(ku.l1 Kn v17 bV ((rd v17 eZ)::dG) (qK++(aT bV (rd v17 eZ))) (af (eZ+1))) else none) else none) else none) else(some qK)
def ku.l0:Nat->Int->Int->(List bB)->(List (Int×(List gr)))->(List ((Int×Int)×Int))->Int->Option (List gr)
 |0,_,_,_,_,_,_=>none
 |k8+1,w,h,l,x5,x6,x7=>if x7<(aa l:Int) then((if(0<=x7/\x7<(aa l:Int)) then((gy.f w h ((rd l x7).Cell)).bind λv12=>(if(!(cj x6 ((rd l x7).Goal,v12)))=true then(if(aa (aT x5 ((rd l x7).Goal))+1<=1099511627776) then(some ((cO x5 ((rd l x7).Goal) ((aT x5 ((rd l x7).Goal))++[(gr.mk ((rd l x7).Goal) v12 [])])),(cO x6 ((rd l x7).Goal,v12) (aa (aT x5 ((rd l x7).Goal)):Int)),(aa (aT x5 ((rd l x7).Goal)):Int))) else none) else(some (x5,x6,(aT x6 ((rd l x7).Goal,v12))))).bind λ(aO,a_,cA)=>if(0<=cA/\cA<(aa (aT aO ((rd l x7).Goal)):Int)) then(if(aa ((rd (aT aO ((rd l x7).Goal)) cA).j_)+1<=1099511627776) then(some ((tL aO ((rd l x7).Goal) (aD (aT aO ((rd l x7).Goal)) (ax cA) (gr.mk ((rd (aT aO ((rd l x7).Goal)) cA).Goal) ((rd (aT aO ((rd l x7).Goal)) cA).sZ) ((rd (aT aO ((rd l x7).Goal)) cA).j_++[(rd l x7).Id])))),a_)) else none) else none) else none).bind λ(x9,aK)=>ku.l0 k8 w h l x9 aK (af (x7+1))) else((oW.f l).bind λv17=>ku.l1 fuel v17 x5 [] [] 0)
def ku.f (w:Int) (h:Int) (l:(List bB)):Option (List gr):=(pO.f w h l).bind λv1=>if(!v1)=true then(some []) else(ku.l0 fuel w h l ([]:(List (Int×(List gr)))) ([]:(List ((Int×Int)×Int))) 0)
def ku.R (r:(List gr)):bk:=λu G=> ∃a0 n0 H0,gK pP 120 r a0 n0 H0/\u=(ll a0 r n0)/\G=[H0]
theorem ku.c (H:ku.f w h l=some r) (df:aP lT l gV F) (f_:aa l<=gQ):
 QR 28 [(ii w),(ii h),(ll gV l gQ)] [] [] F (ku.R r):=by
 unfold ku.f at H;refine aG Tryz.func28 J J (λW=>rc T 11 (k [] J Te H (pO.c · (rO df 0) f_) (λv1 H=>ro T 3 (cb J H (λH=>?_) (λH=>?_)))))
 ·refine rc T 7 ?_
  cases H;refine bA (p1 T J [1,0] ⟨none,0,[],gK.nil,J,J⟩ J)
 refine rc T 4 (aV (vK T (Ky.int .i64 u3) uX J J J trivial (λa2 H2 s2=>ro T 5 (aV (vK T (Ky.pair T .i64 J J J lV u3) (λx:Int=>Value.int .i64 x) J J J trivial (λa3 H3 s3=>ro T 12 (lq [0,1,2,26,27] [0] (λ(⟨k8,x5,x6,x7,a6,H6,a7,H7⟩:Nat×(List (Int×(List gr)))×(List ((Int×Int)×Int))×Int×Nat×Hp×Nat×Hp)=>(ku.l0 k8 w h l x5 x6 x7=some r/\xc (gK pP 120) (Ky.int .i64 u3) [] x5 a6 H6/\cU (Ky.pair T .i64 J J J lV u3) (λx:Int=>Value.int .i64 x) x6 a7 H7,[(7,(.map (some a6))),(8,(.map (some a7))),(28,(ii x7))],[H6,H7])) J J (fuel,([]:(List (Int×(List gr)))),([]:(List ((Int×Int)×Int))),0,a2,H2,a3,H3) [0,0,0] ⟨H,(afe (S:=(gK pP 120)) s2),s3⟩ J J ?_)))))));rintro k8 ⟨x5,x6,x7,a6,H6,a7,H7⟩ ⟨Z3,s6,s7⟩;rw[ku.l0] at Z3;refine rc T 6 (cd J Z3 (λZ3=>?_) (λZ3=>?_))
 ·refine rc T 2 (mq Z3 [0,1,2,26,27,28] [0] (λlW (⟨x9,aK,a8,H8,a9,H9⟩:(List (Int×(List gr)))×(List ((Int×Int)×Int))×Nat×Hp×Nat×Hp)=>((x9,aK)=lW/\xc (gK pP 120) (Ky.int .i64 u3) [] x9 a8 H8/\cU (Ky.pair T .i64 J J J lV u3) (λx:Int=>Value.int .i64 x) aK a9 H9,[(7,(.map (some a8))),(8,(.map (some a9)))],[H8,H9])) J J (λlW Z5 _=>?_) ?_)
  ·refine rc T 3 ?_;obtain⟨c6,Z5⟩:=az Z5;obtain⟨KM,KE,qf⟩:=df.addr c6.1 c6.2;refine ix T J qf c6 (bx J (gd T (cs:=[(ii (rd l x7).Id),(ii (rd l x7).Cell),(ii (rd l x7).Goal)]) J J J J J J (iu (k:=lT) (rO df 0) qf c6 J)) (nc T J (λjO=>sg T 3 J (ro T 7 (lf T 3 J (k [] J sb Z5 (gy.c ·) (λv12 Z5=>ro T 6 (lf T 3 J (ro T 1 (bx J (Jl T J J J J J J) (nc T J (λln=>sg T 4 J (ro T 5 (lm T 4 J (bx J (qi (k:=((rd l x7).Goal,v12)) T (Ky.pair T .i64 J J J lV u3) (λx:Int=>Value.int .i64 x) J J J J J (oS s7 (j:=2) J)) (ro T 7 (mq Z5 [0,1,2,10,26,27,28] [0,2] (λIq (⟨aO,a_,cA,dy,dT,gU,fm⟩:(List (Int×(List gr)))×(List ((Int×Int)×Int))×Int×Nat×Hp×Nat×Hp)=>((aO,a_,cA)=Iq/\xc (gK pP 120) (Ky.int .i64 u3) [] aO dy dT/\cU (Ky.pair T .i64 J J J lV u3) (λx:Int=>Value.int .i64 x) a_ gU fm,[(7,(.map (some dy))),(8,(.map (some gU))),(13,(ii cA))],[dT,fm])) J J (λIq Z8 _=>?_) ?_)))))))))))))))))
   ·refine rc T 6 (cb J Z8 (λZ8=>?_) (λZ8=>?_))
    ·refine rc T 4 (lf T 3 J (FI (j:=1) (gK.nil (kd:=pP) (E:=120)) ((rd l x7).Goal) bd J s6 (λkc n15 dO fx dW eK=>bx J (F4 (kx:=(rd l x7).Goal) (v:=(kc,aa (aT x5 ((rd l x7).Goal)),n15)) T (Ky.int .i64 u3) J J J J J (GK (j:=1) J eK)) (ro T 3 (YZ (j:=1) (q:=5) J eK J J dW J (λeP fF=>ke [0,1,2,7,8,10,11,12,13,26,27,28] [0,0,0,0,0] J J (rx T 4 (lm T 4 J (ro T 1 (aV (p_ (g:=2) (m:=x6) (k:=((rd l x7).Goal,v12)) (v:=(aa (aT x5 ((rd l x7).Goal)):Int)) T (Ky.pair T .i64 J J J lV u3) (λx:Int=>Value.int .i64 x) J J J J J J J s7 (λfo fG=>ro T 2 (ke [0,1,2,7,8,10,11,13,26,27,28] [0,0,0,0] J J (fz J (rg [13] [0,1,1] mix (bR bQ) (λhg pf=>ha T 12 [0,1] (so [0,1,1]) hg pf J (al T 2 2 (so [0,1,1]) hg pf J J J (ha T 9 [3,4] (so [0,1,1]) hg pf J (al T 5 2 (so [0,1,1]) hg pf J J J (ha T 7 [7] (so [0,1,1]) hg pf J (al T 8 2 (so [0,1,1]) hg pf J J J (ha T 4 [9,10] (so [0,1,1]) hg pf J (gM 6 11 ?_ ?_)))))))))))))))))))))))
     ·refine FI (j:=1) (gK.nil (kd:=pP) (E:=120)) ((rd l x7).Goal) bd J fF (λmy n19 lh oA hJ mi=>lN J (F4 (kx:=(rd l x7).Goal) (v:=(my,aa (aT x5 ((rd l x7).Goal)),n19)) T (Ky.int .i64 u3) J J J J J (GK (j:=1) J mi)) (an (so [0,1,1]) (ao 11 (bA (gD [5] J (FH (kd:=pP) (E:=120) (q:=5) (c:=[(ii (rd l x7).Goal),(ii v12),nl]) T (gr.mk ((rd l x7).Goal) v12 []) J J J J J J J J J J ⟨none,0,[],(ak.nil (k:=(Fl.int .i64)) (E:=3)),J,J⟩ (λa23 jL hU=>an (so [0,1,1]) (ao 12 ?_))))))));obtain⟨iK,Z8⟩:=az Z8;refine FG (kd:=pP) (xs:=(aT x5 ((rd l x7).Goal))) (ys:=[(gr.mk ((rd l x7).Goal) v12 [])]) T (g:=4) (q:=6) J J J J J J J J J J hJ J J hU iK J (λa24 n24 rK mj=>an (so [0,1,1]) (ao 13 (Qq (q:=4) (kx:=(rd l x7).Goal) (ys:=((aT x5 ((rd l x7).Goal))++[(gr.mk ((rd l x7).Goal) v12 [])])) T (Ky.int .i64 u3) 1 J J J J J J J mi J J mj (λig jG=>an sl (ae (rx T 1 (am (_,_,_,_,_,_,_) [0,2,0,0] ⟨oi Z8,jG,fG⟩ J J)))))))
     refine bA (gD [4] J (FH (kd:=pP) (E:=120) (q:=4) (c:=[(ii (rd l x7).Goal),(ii v12),nl]) T (gr.mk ((rd l x7).Goal) v12 []) J J J J J J J J J J ⟨none,0,[],(ak.nil (k:=(Fl.int .i64)) (E:=3)),J,J⟩ (λa28 vu ky=>an (so [0,1,1]) (ao 6 (FI (j:=1) (gK.nil (kd:=pP) (E:=120)) ((rd l x7).Goal) bd J fF (λyV n29 rL rM rp pQ=>lN J (F4 (kx:=(rd l x7).Goal) (v:=(yV,aa (aT x5 ((rd l x7).Goal)),n29)) T (Ky.int .i64 u3) J J J J J (GK (j:=1) J pQ)) (an (so [0,1,1]) (ao 12 ?_))))))));obtain⟨di,Z8⟩:=az Z8;refine FG (kd:=pP) (xs:=(aT x5 ((rd l x7).Goal))) (ys:=[(gr.mk ((rd l x7).Goal) v12 [])]) T (g:=6) (q:=5) J J J J J J J J J J rp J J ky di J (λa31 n31 BG zT=>an (so [0,1,1]) (ao 13 (Qq (q:=6) (kx:=(rd l x7).Goal) (ys:=((aT x5 ((rd l x7).Goal))++[(gr.mk ((rd l x7).Goal) v12 [])])) T (Ky.int .i64 u3) 1 J J J J J J J pQ J J zT (λIu zU=>an sl (ae (rx T 1 (am (_,_,_,_,_,_,_) [0,2,0,0] ⟨oi Z8,zU,fG⟩ J J)))))))
    refine rc T 2 (am (_,_,_,_,_,_,_) [0,2,0,0] ⟨oi Z8,s6,s7⟩ J J)
   rintro _ ⟨aO,a_,cA,dy,dT,gU,fm⟩ ⟨rfl,dg,gi⟩ Z5;refine rc T 4 (lf T 1 J (FI (j:=2) (gK.nil (kd:=pP) (E:=120)) ((rd l x7).Goal) bd J dg (λa33 n33 Iv vv wI yr=>bx J (F4 (kx:=(rd l x7).Goal) (v:=(a33,aa (aT aO ((rd l x7).Goal)),n33)) T (Ky.int .i64 u3) J J J J J (GK (j:=2) J yr)) (ro T 1 ?_))));obtain⟨gv,Z5⟩:=az Z5;obtain⟨q35,o35,Mk⟩:=wI.r.addr gv.1 gv.2;refine ix T J Mk gv (ro T 3 (LN (j:=4) J wI gv (λ_ _ Fc o37 Dd=>?_)));obtain⟨Az,n36,Ao,Dc,rfl,rfl⟩:=o37;refine LQ (ks [0,1,2,7,8,10,15,26,27,28] J (fz J (rg [8,11] [0,0,0,0,0,0] mix (bR bQ) (λhg pf=>ha T 8 [0,1,2,3] sz hg pf J (av 4 sz hg pf J (cC T J J J J (Cv (j:=4) J (vF.cells Dd) Mk 2 J)) (ha T 6 [5] sz hg pf J (al T 6 1 sz hg pf J J J (ao 7 (c_ (k:=(Fl.int .i64)) T [(rd l x7).Id] J J J J J J J J J (λIK Ap Bc=>an (so [0,0,0,0,0,0]) (ao 8 ?_)))))))))));obtain⟨jl,Z5⟩:=az Z5;refine eF (k:=(Fl.int .i64)) (xs:=(rd (aT aO ((rd l x7).Goal)) cA).j_) T (g:=5) J J J J J J J J J J Dc (oO Bc 6) jl J (λa39 n39 Lp Bd=>an sl (hb T 9 sl hg pf J (hb T 10 sl hg pf J (ao 11 (LO T 4 2 [(ii (rd (aT aO ((rd l x7).Goal)) cA).Goal),(ii (rd (aT aO ((rd l x7).Goal)) cA).sZ),(ll a39 ((rd (aT aO ((rd l x7).Goal)) cA).j_++[(rd l x7).Id]) n39)] J J J J J J Dd Mk J J J J (λLq EG=>an sl (ae (gD [5] J (LM (j:=4) (q:=6) (gr.mk ((rd (aT aO ((rd l x7).Goal)) cA).Goal) ((rd (aT aO ((rd l x7).Goal)) cA).sZ) ((rd (aT aO ((rd l x7).Goal)) cA).j_++[(rd l x7).Id])) J EG J J ⟨a39,n39,Lp,Bd,J,J⟩ (λgJ tV=>Qr (j:=2) (q:=4) (aD (aT aO ((rd l x7).Goal)) (ax cA) (gr.mk ((rd (aT aO ((rd l x7).Goal)) cA).Goal) ((rd (aT aO ((rd l x7).Goal)) cA).sZ) ((rd (aT aO ((rd l x7).Goal)) cA).j_++[(rd l x7).Id]))) J yr J J tV (by simp only[nF]) (λFe zV=>rx T 2 (am (_,_,_,_,_,_) [0,1,1] ⟨oi Z5,zV,gi⟩ J J))))))))))))
  rintro _ ⟨x9,aK,a8,H8,a9,H9⟩ ⟨rfl,s8,s9⟩ Z3;refine rc T 5 (ar (_,_,_,_,_,_,_) [0,0,0] ⟨Z3,s8,s9⟩ J J)
 refine rc T 14 (kr oW.R [] [] J ada Z3 (oW.c · (rO df 0) f_) (λv17 Z3=>?_));rintro _ _ ⟨a44,n44,Xy,De,rfl,rfl⟩;refine fz J (ro T 5 (bA (lq [89,90] [0,2] (λ(⟨Kn,bV,dG,qK,eZ,IM,Ff,Ft,n48,Fg⟩:Nat×(List (Int×(List gr)))×List Int×List gr×Int×Nat×Hp×Option Addr×Nat×Hp)=>(ku.l1 Kn v17 bV dG qK eZ=some r/\xc (gK pP 120) (Ky.int .i64 u3) dG bV IM Ff/\gK pP 120 qK Ft n48 Fg,[(7,(.map (some IM))),(16,(ll Ft qK n48)),(91,(ii eZ))],[Ff,Fg])) J J (fuel,x5,[],[],0,a6,H6,none,0,[]) [0,2,0,1] ⟨Z3,s6,gK.nil⟩ J J ?_)));rintro Kn ⟨bV,dG,qK,eZ,IM,Ff,Ft,n48,Fg⟩ ⟨dx,HH,KR⟩;rw[ku.l1] at dx;refine rc T 6 (cd J dx (λdx=>?_) (λdx=>?_))
 ·refine rc T 6 ?_;obtain⟨lO,dx⟩:=az dx;obtain⟨q49,o49,Rs⟩:=De.r.addr lO.1 lO.2;refine ix T J Rs lO (le T 0 (oO De 1) Rs lO J J (ro T 7 ?_));obtain⟨lP,dx⟩:=az dx;refine FI (j:=2) (gK.nil (kd:=pP) (E:=120)) (rd v17 eZ) lP J HH (λa50 n50 XB XC O9 KS=>bx J (F4 (kx:=(rd v17 eZ)) (v:=(a50,aa (aT bV (rd v17 eZ)),n50)) T (Ky.int .i64 u3) J J J J J (GK (j:=2) J KS)) ?_);obtain⟨tk,dx⟩:=az dx;refine aV (FG (kd:=pP) (xs:=qK) (ys:=(aT bV (rd v17 eZ))) T (g:=3) (q:=4) J J J J J J J J J J KR J J O9 tk J (λLx n52 Lr EH=>ro T 2 (Y0 (j:=2) J KS (λXD O_=>rx T 7 (ar (_,_,_,_,_,_,_,_,_) [0,0,0,0] ⟨dx,O_,EH⟩ J J)))))
 refine rc T 12 ?_
 cases dx;exact p1 T J [3,0] ⟨Ft,n48,Fg,KR,J,J⟩ J
end
noncomputable section
def G3.f (dir:Int):Option Bool:=some ((decide (dir<0))||(decide (dir>5)))
theorem G3.c (H:G3.f dir=some r):
 QU 197 [(ii dir)] [] F (bb r):=by
 unfold G3.f at H;refine aG Tryz.func197 J J (λW=>rc T 10 (go T [3,4,5] 5 [] 8 J J J J J J J (ro T 4 ?_)))
 cases H;exact p0 T J [0] J
def rC.l0:Nat->(List Int)->Int->Option Int
 |0,_,_=>none
 |k3+1,s,x2=>if x2<(aa s:Int) then(if(0<=x2/\x2<(aa s:Int)) then((G3.f (rd s x2)).bind λv4=>if v4=true then(some x2) else(rC.l0 k3 s (af (x2+1)))) else none) else(some (-1))
def rC.f (s:(List Int)):Option Int:=rC.l0 fuel s 0
theorem rC.c (H:rC.f s=some r) (jB:aP (Fl.int .i64) s iW F) (rV:aa s<=jc):
 QU 232 [(ll iW s jc),(.func (.func 197) #[] #[])] [] F (ii r):=by
 unfold rC.f at H;refine aG Tryz.func232 J J (λW=>rc T 14 (lq [0,1,7] [0] (λ(⟨k3,x2⟩:Nat×Int)=>(rC.l0 k3 s x2=some r,[(8,(ii x2))],[])) J J (fuel,0) [0] H J J ?_));rintro k3 x2 Z1;replace Z1:rC.l0 (k3+1) s x2=some r:=Z1;rw[rC.l0] at Z1;refine rc T 6 (cd J Z1 (λZ1=>?_) (λZ1=>?_))
 ·refine rc T 15 ?_;obtain⟨c3,Z1⟩:=az Z1;obtain⟨q1,o1,e1⟩:=jB.addr c3.1 c3.2;refine ix T J e1 c3 (le T 0 (rO jB 0) e1 c3 J J (k [] J ack Z1 (G3.c ·) (λv4 Z1=>ro T 2 (cb J Z1 (λZ1=>?_) (λZ1=>?_)))))
  ·refine rc T 12 ?_
   cases Z1;exact p0 T J [0] J
  refine rc T 8 (ar _ [0] Z1 J J)
 refine rc T 11 ?_
 cases Z1;exact p0 T J [0] J
def Dn.f (s:(List Int)):Option Bool:=(rC.f s).bind λv1=>some (decide (v1≥0))
theorem Dn.c (H:Dn.f s=some r) (jB:aP (Fl.int .i64) s iW F) (rV:aa s<=jc):
 QU 198 [(ll iW s jc),(.func (.func 197) #[] #[])] [] F (bb r):=by
 unfold Dn.f at H;refine aG Tryz.func198 J J (λW=>rc T 9 (k [] J acI H (rC.c · (rO jB 0) rV) (λv1 H=>ro T 5 ?_)))
 cases H;exact p0 T J [0] J
def xV.f (ag:rj) (u:bB) (dir:Int):Option (Bool×rj×bB):=if(dir==0)=true then((mY.f ag.w ag.h u.Cell dir).bind λv1=>(if v1<0 then(some true) else(some (aT ag.kB v1))).bind λx2=>if x2=true then(some (true,ag,u)) else(if(aa ag.jU+1<=1099511627776) then(if(v1==u.Goal)=true then(if(aa ag.gone+1<=1099511627776) then(some (false,(rj.mk ag.w ag.h (fU ag.kB u.Cell) (ag.jU++[(fY.mk u.Id v1)]) (ag.gone++[u.Id])),(bB.mk u.Id v1 u.Goal))) else none) else(some (true,(rj.mk ag.w ag.h (cO (fU ag.kB u.Cell) v1 true) (ag.jU++[(fY.mk u.Id v1)]) ag.gone),(bB.mk u.Id v1 u.Goal)))) else none)) else(if(dir==1)=true then((mY.f ag.w ag.h u.Cell dir).bind λv4=>(if v4<0 then(some true) else(some (aT ag.kB v4))).bind λx5=>if x5=true then(some (true,ag,u)) else(if(aa ag.jU+1<=1099511627776) then(if(v4==u.Goal)=true then(if(aa ag.gone+1<=1099511627776) then(some (false,(rj.mk ag.w ag.h (fU ag.kB u.Cell) (ag.jU++[(fY.mk u.Id v4)]) (ag.gone++[u.Id])),(bB.mk u.Id v4 u.Goal))) else none) else(some (true,(rj.mk ag.w ag.h (cO (fU ag.kB u.Cell) v4 true) (ag.jU++[(fY.mk u.Id v4)]) ag.gone),(bB.mk u.Id v4 u.Goal)))) else none)) else(if(dir==2)=true then((mY.f ag.w ag.h u.Cell dir).bind λv7=>(if v7<0 then(some true) else(some (aT ag.kB v7))).bind λx8=>if x8=true then(some (true,ag,u)) else(if(aa ag.jU+1<=1099511627776) then(if(v7==u.Goal)=true then(if(aa ag.gone+1<=1099511627776) then(some (false,(rj.mk ag.w ag.h (fU ag.kB u.Cell) (ag.jU++[(fY.mk u.Id v7)]) (ag.gone++[u.Id])),(bB.mk u.Id v7 u.Goal))) else none) else(some (true,(rj.mk ag.w ag.h (cO (fU ag.kB u.Cell) v7 true) (ag.jU++[(fY.mk u.Id v7)]) ag.gone),(bB.mk u.Id v7 u.Goal)))) else none)) else(if(dir==3)=true then((mY.f ag.w ag.h u.Cell dir).bind λv10=>(if v10<0 then(some true) else(some (aT ag.kB v10))).bind λbf=>if bf=true then(some (true,ag,u)) else(if(aa ag.jU+1<=1099511627776) then(if(v10==u.Goal)=true then(if(aa ag.gone+1<=1099511627776) then(some (false,(rj.mk ag.w ag.h (fU ag.kB u.Cell) (ag.jU++[(fY.mk u.Id v10)]) (ag.gone++[u.Id])),(bB.mk u.Id v10 u.Goal))) else none) else(some (true,(rj.mk ag.w ag.h (cO (fU ag.kB u.Cell) v10 true) (ag.jU++[(fY.mk u.Id v10)]) ag.gone),(bB.mk u.Id v10 u.Goal)))) else none)) else(some (true,ag,u)))))
def xV.R (aW:Nat) (eX:Nat) (r:(Bool×rj×bB)):bk:=λu G=> ∃(a0:Nat) (H0:Hp) (a1 n1 H1:_) (a2 n2 H2:_),cU (Ky.int .i64 u3) (λx:Bool=>Value.bool x) r.2.1.kB a0 H0/\ak jE 94 r.2.1.jU a1 n1 H1/\ak (Fl.int .i64) 3 r.2.1.gone a2 n2 H2/\u=(bb r.1)/\G=[(cl aW 309 [(ii r.2.1.w),(ii r.2.1.h),(.map (some a0)),(ll a1 r.2.1.jU n1),(ll a2 r.2.1.gone n2)]),H0,H1,H2,(cl eX 67 [(ii r.2.2.Id),(ii r.2.2.Cell),(ii r.2.2.Goal)])]
theorem xV.c (H:xV.f ag u dir=some r) (ub:cU (Ky.int .i64 u3) (λx:Bool=>Value.bool x) ag.kB rT DE) (zY:ak jE 94 ag.jU DK Ev DD) (ua:ak (Fl.int .i64) 3 ag.gone xg xY w_):
 QR 199 [(pp aW),(pp eX),(ii dir)] [(cl aW 309 [(ii ag.w),(ii ag.h),(.map (some rT)),(ll DK ag.jU Ev),(ll xg ag.gone xY)]),DE,DD,w_,(cl eX 67 [(ii u.Id),(ii u.Cell),(ii u.Goal)])] [] F (xV.R aW eX r):=by
 unfold xV.f at H;refine aG Tryz.func199 J J (λW=>rc T 25 (cb J H (λH=>?_) (λH=>?_)))
 ·refine rc T 10 (dq mix aA (au T J (au T J (au T J (cw T 0 J J J (au T J (au T J (au T J (cw T 0 J J J (au T J (au T J (au T J (cw T 4 J J J (au T J ?_))))))))))))));obtain⟨v1,V2,H⟩:=gu H;refine uD J J J J J J AR J (mY.c V2) (au T J (cM (rx T 2 (mq H [0,1,7] [5,0,0,0,0,0] (λz3 (x2:Bool)=>(x2=z3,[(40,(bb x2))],[])) J J (λz3 Z3 _=>?_) ?_))))
  ·refine rc T 4 (ad 33 J Z3 (λZ3=>?_) (λZ3=>?_))
   ·refine ro T 9 (am _ [5,0,0,0,0,0] (oi Z3) J J)
   refine ro T 3 (lf T 0 J (ro T 1 (bx J (qi (k:=v1) T (Ky.int .i64 u3) (λx:Bool=>Value.bool x) J J J J J (oS ub (j:=1) J)) (ro T 3 (am _ [5,0,0,0,0,0] (oi Z3) J J)))))
  rintro _ x2 rfl H;refine cb J H (λH=>?_) (λH=>?_)
  ·refine rc T 10 ?_
   cases H;exact p1 T J [1,1,1,1,1,0] ⟨rT,DE,DK,Ev,DD,xg,xY,w_,ub,zY,ua,J,J⟩ J
  refine rc T 3 (fz J (rz [8] mix (bR bQ) (λhg pf=>ha T 6 [0,1,2] sz hg pf J (al T 3 1 sz hg pf J J J (ha T 2 [4,5,6] sz hg pf J (al T 7 5 sz hg pf J J J (ao 8 (DN (g:=2) (m:=ag.kB) (k:=u.Cell) T (Ky.int .i64 u3) (λx:Bool=>Value.bool x) J J J J J J J J ub (λH6 s6=>an sl (ae (rx T 7 (sg T 5 J (ro T 3 (ks [0,1,7] J (fz J (rg [12,15] [0,0,0,0,0,0] mix (bR bQ) (λhg pf=>ha T 12 [0,1,2,3] sz hg pf J (al T 4 1 sz hg pf J J J (ha T 8 [5,6,7] sz hg pf J (al T 8 5 sz hg pf J J J (ha T 5 [9,10] sz hg pf J (ao 11 (c_ (k:=jE) T [(fY.mk u.Id v1)] J J J J J J J J J (λa7 H7 s7=>an (so [0,0,0,0,0,0]) (ao 12 ?_)))))))))))))))))))))))));obtain⟨c6,H⟩:=az H;refine eF (k:=jE) (xs:=ag.jU) T (g:=3) J J J J J J J J J J zY (oO s7 6) c6 J (λa8 n8 H8 s8=>an sl (hb T 13 sl hg pf J (hb T 14 sl hg pf J (ao 15 (sf T 1 J (an sl (ae (rx T 1 (rc T 7 (lf T 5 J (ro T 3 (cb J H (λH=>?_) (λH=>?_)))))))))))))
  ·refine rc T 1 (ke [0,1] [0,0,0,0,0,0] J J (fz J (rg [10,13] [0,0,0,0,0,0] mix (bR bQ) (λhg pf=>ha T 10 [0,1,2,3] sz hg pf J (al T 4 1 sz hg pf J J J (ha T 6 [5,6,7] sz hg pf J (al T 8 5 sz hg pf J J J (ao 9 (c_ (k:=(Fl.int .i64)) T [u.Id] J J J J J J J J J (λa9 H9 s9=>an (so [0,0,0,0,0,0]) (ao 10 ?_)))))))))));obtain⟨c8,H⟩:=az H;refine eF (k:=(Fl.int .i64)) (xs:=ag.gone) T (g:=4) J J J J J J J J J J ua (oO s9 6) c8 J (λcz n10 bZ bT=>an sl (hb T 11 sl hg pf J (hb T 12 sl hg pf J (ao 13 (sf T 1 J (an sl (ae (rx T 1 (rc T 10 ?_)))))))))
   cases H;exact p1 T J [1,1,1,1,1,0] ⟨rT,H6,a8,n8,H8,cz,n10,bZ,s6,s8,bT,J,J⟩ J
  refine rc T 6 (lf T 1 J (ro T 1 (aV (p_ (g:=2) (m:=(fU ag.kB u.Cell)) (k:=v1) (v:=true) T (Ky.int .i64 u3) (λx:Bool=>Value.bool x) J J J J J J J s6 (λcE cW=>ro T 11 ?_)))))
  cases H;exact p1 T J [1,1,1,1,1,0] ⟨rT,cE,a8,n8,H8,xg,xY,w_,cW,s8,ua,J,J⟩ J
 refine rc T 9 (cb J H (λH=>?_) (λH=>?_))
 ·refine rc T 10 (dq mix aA (au T J (au T J (au T J (cw T 0 J J J (au T J (au T J (au T J (cw T 0 J J J (au T J (au T J (au T J (cw T 4 J J J (au T J ?_))))))))))))));obtain⟨v4,X5,H⟩:=gu H;refine uD J J J J J J AR J (mY.c X5) (au T J (cM (rx T 2 (mq H [0,1,7] [5,0,0,0,0,0] (λz6 (x5:Bool)=>(x5=z6,[(40,(bb x5))],[])) J J (λz6 aY _=>?_) ?_))))
  ·refine rc T 4 (ad 33 J aY (λaY=>?_) (λaY=>?_))
   ·refine ro T 9 (am _ [5,0,0,0,0,0] (oi aY) J J)
   refine ro T 3 (lf T 0 J (ro T 1 (bx J (qi (k:=v4) T (Ky.int .i64 u3) (λx:Bool=>Value.bool x) J J J J J (oS ub (j:=1) J)) (ro T 3 (am _ [5,0,0,0,0,0] (oi aY) J J)))))
  rintro _ x5 rfl H;refine cb J H (λH=>?_) (λH=>?_)
  ·refine rc T 10 ?_
   cases H;exact p1 T J [1,1,1,1,1,0] ⟨rT,DE,DK,Ev,DD,xg,xY,w_,ub,zY,ua,J,J⟩ J
  refine rc T 3 (fz J (rz [8] mix (bR bQ) (λhg pf=>ha T 6 [0,1,2] sz hg pf J (al T 3 1 sz hg pf J J J (ha T 2 [4,5,6] sz hg pf J (al T 7 5 sz hg pf J J J (ao 8 (DN (g:=2) (m:=ag.kB) (k:=u.Cell) T (Ky.int .i64 u3) (λx:Bool=>Value.bool x) J J J J J J J J ub (λdH dN=>an sl (ae (rx T 7 (sg T 5 J (ro T 3 (ks [0,1,7] J (fz J (rg [12,15] [0,0,0,0,0,0] mix (bR bQ) (λhg pf=>ha T 12 [0,1,2,3] sz hg pf J (al T 4 1 sz hg pf J J J (ha T 8 [5,6,7] sz hg pf J (al T 8 5 sz hg pf J J J (ha T 5 [9,10] sz hg pf J (ao 11 (c_ (k:=jE) T [(fY.mk u.Id v4)] J J J J J J J J J (λdy dT dg=>an (so [0,0,0,0,0,0]) (ao 12 ?_)))))))))))))))))))))))));obtain⟨pt,H⟩:=az H;refine eF (k:=jE) (xs:=ag.jU) T (g:=3) J J J J J J J J J J zY (oO dg 6) pt J (λgU n14 fm gi=>an sl (hb T 13 sl hg pf J (hb T 14 sl hg pf J (ao 15 (sf T 1 J (an sl (ae (rx T 1 (rc T 7 (lf T 5 J (ro T 3 (cb J H (λH=>?_) (λH=>?_)))))))))))))
  ·refine rc T 1 (ke [0,1] [0,0,0,0,0,0] J J (fz J (rg [10,13] [0,0,0,0,0,0] mix (bR bQ) (λhg pf=>ha T 10 [0,1,2,3] sz hg pf J (al T 4 1 sz hg pf J J J (ha T 6 [5,6,7] sz hg pf J (al T 8 5 sz hg pf J J J (ao 9 (c_ (k:=(Fl.int .i64)) T [u.Id] J J J J J J J J J (λkc dO dW=>an (so [0,0,0,0,0,0]) (ao 10 ?_)))))))))));obtain⟨mC,H⟩:=az H;refine eF (k:=(Fl.int .i64)) (xs:=ag.gone) T (g:=4) J J J J J J J J J J ua (oO dW 6) mC J (λik n16 fx eK=>an sl (hb T 11 sl hg pf J (hb T 12 sl hg pf J (ao 13 (sf T 1 J (an sl (ae (rx T 1 (rc T 10 ?_)))))))))
   cases H;exact p1 T J [1,1,1,1,1,0] ⟨rT,dH,gU,n14,fm,ik,n16,fx,dN,gi,eK,J,J⟩ J
  refine rc T 6 (lf T 1 J (ro T 1 (aV (p_ (g:=2) (m:=(fU ag.kB u.Cell)) (k:=v4) (v:=true) T (Ky.int .i64 u3) (λx:Bool=>Value.bool x) J J J J J J J dN (λeP fF=>ro T 11 ?_)))))
  cases H;exact p1 T J [1,1,1,1,1,0] ⟨rT,eP,gU,n14,fm,xg,xY,w_,fF,gi,ua,J,J⟩ J
 refine rc T 9 (cb J H (λH=>?_) (λH=>?_))
 ·refine rc T 10 (dq mix aA (au T J (au T J (au T J (cw T 0 J J J (au T J (au T J (au T J (cw T 0 J J J (au T J (au T J (au T J (cw T 4 J J J (au T J ?_))))))))))))));obtain⟨v7,P7,H⟩:=gu H;refine uD J J J J J J AR J (mY.c P7) (au T J (cM (rx T 2 (mq H [0,1,7] [5,0,0,0,0,0] (λz9 (x8:Bool)=>(x8=z9,[(40,(bb x8))],[])) J J (λz9 fc _=>?_) ?_))))
  ·refine rc T 4 (ad 33 J fc (λfc=>?_) (λfc=>?_))
   ·refine ro T 9 (am _ [5,0,0,0,0,0] (oi fc) J J)
   refine ro T 3 (lf T 0 J (ro T 1 (bx J (qi (k:=v7) T (Ky.int .i64 u3) (λx:Bool=>Value.bool x) J J J J J (oS ub (j:=1) J)) (ro T 3 (am _ [5,0,0,0,0,0] (oi fc) J J)))))
  rintro _ x8 rfl H;refine cb J H (λH=>?_) (λH=>?_)
  ·refine rc T 10 ?_
   cases H;exact p1 T J [1,1,1,1,1,0] ⟨rT,DE,DK,Ev,DD,xg,xY,w_,ub,zY,ua,J,J⟩ J
  refine rc T 3 (fz J (rz [8] mix (bR bQ) (λhg pf=>ha T 6 [0,1,2] sz hg pf J (al T 3 1 sz hg pf J J J (ha T 2 [4,5,6] sz hg pf J (al T 7 5 sz hg pf J J J (ao 8 (DN (g:=2) (m:=ag.kB) (k:=u.Cell) T (Ky.int .i64 u3) (λx:Bool=>Value.bool x) J J J J J J J J ub (λfo fG=>an sl (ae (rx T 7 (sg T 5 J (ro T 3 (ks [0,1,7] J (fz J (rg [12,15] [0,0,0,0,0,0] mix (bR bQ) (λhg pf=>ha T 12 [0,1,2,3] sz hg pf J (al T 4 1 sz hg pf J J J (ha T 8 [5,6,7] sz hg pf J (al T 8 5 sz hg pf J J J (ha T 5 [9,10] sz hg pf J (ao 11 (c_ (k:=jE) T [(fY.mk u.Id v7)] J J J J J J J J J (λmy lh hJ=>an (so [0,0,0,0,0,0]) (ao 12 ?_)))))))))))))))))))))))));obtain⟨AF,H⟩:=az H;refine eF (k:=jE) (xs:=ag.jU) T (g:=3) J J J J J J J J J J zY (oO hJ 6) AF J (λa20 n20 oA mi=>an sl (hb T 13 sl hg pf J (hb T 14 sl hg pf J (ao 15 (sf T 1 J (an sl (ae (rx T 1 (rc T 7 (lf T 5 J (ro T 3 (cb J H (λH=>?_) (λH=>?_)))))))))))))
  ·refine rc T 1 (ke [0,1] [0,0,0,0,0,0] J J (fz J (rg [10,13] [0,0,0,0,0,0] mix (bR bQ) (λhg pf=>ha T 10 [0,1,2,3] sz hg pf J (al T 4 1 sz hg pf J J J (ha T 6 [5,6,7] sz hg pf J (al T 8 5 sz hg pf J J J (ao 9 (c_ (k:=(Fl.int .i64)) T [u.Id] J J J J J J J J J (λa21 lJ j4=>an (so [0,0,0,0,0,0]) (ao 10 ?_)))))))))));obtain⟨uI,H⟩:=az H;refine eF (k:=(Fl.int .i64)) (xs:=ag.gone) T (g:=4) J J J J J J J J J J ua (oO j4 6) uI J (λa22 n22 mr iv=>an sl (hb T 11 sl hg pf J (hb T 12 sl hg pf J (ao 13 (sf T 1 J (an sl (ae (rx T 1 (rc T 10 ?_)))))))))
   cases H;exact p1 T J [1,1,1,1,1,0] ⟨rT,fo,a20,n20,oA,a22,n22,mr,fG,mi,iv,J,J⟩ J
  refine rc T 6 (lf T 1 J (ro T 1 (aV (p_ (g:=2) (m:=(fU ag.kB u.Cell)) (k:=v7) (v:=true) T (Ky.int .i64 u3) (λx:Bool=>Value.bool x) J J J J J J J fG (λjL hU=>ro T 11 ?_)))))
  cases H;exact p1 T J [1,1,1,1,1,0] ⟨rT,jL,a20,n20,oA,xg,xY,w_,hU,mi,ua,J,J⟩ J
 refine rc T 8 (cb J H (λH=>?_) (λH=>?_))
 ·refine rc T 9 (dq mix aA (au T J (au T J (au T J (cw T 0 J J J (au T J (au T J (au T J (cw T 0 J J J (au T J (au T J (au T J (cw T 4 J J J (au T J ?_))))))))))))));obtain⟨v10,X7,H⟩:=gu H;refine uD J J J J J J AR J (mY.c X7) (au T J (cM (rx T 2 (mq H [0,1,7] [5,0,0,0,0,0] (λz12 (bf:Bool)=>(bf=z12,[(40,(bb bf))],[])) J J (λz12 Fq _=>?_) ?_))))
  ·refine rc T 4 (ad 33 J Fq (λFq=>?_) (λFq=>?_))
   ·refine ro T 9 (am _ [5,0,0,0,0,0] (oi Fq) J J)
   refine ro T 3 (lf T 0 J (ro T 1 (bx J (qi (k:=v10) T (Ky.int .i64 u3) (λx:Bool=>Value.bool x) J J J J J (oS ub (j:=1) J)) (ro T 3 (am _ [5,0,0,0,0,0] (oi Fq) J J)))))
  rintro _ bf rfl H;refine cb J H (λH=>?_) (λH=>?_)
  ·refine rc T 10 ?_
   cases H;exact p1 T J [1,1,1,1,1,0] ⟨rT,DE,DK,Ev,DD,xg,xY,w_,ub,zY,ua,J,J⟩ J
  refine rc T 3 (fz J (rz [8] mix (bR bQ) (λhg pf=>ha T 6 [0,1,2] sz hg pf J (al T 3 1 sz hg pf J J J (ha T 2 [4,5,6] sz hg pf J (al T 7 5 sz hg pf J J J (ao 8 (DN (g:=2) (m:=ag.kB) (k:=u.Cell) T (Ky.int .i64 u3) (λx:Bool=>Value.bool x) J J J J J J J J ub (λrK mj=>an sl (ae (rx T 7 (sg T 5 J (ro T 3 (ks [0,1,7] J (fz J (rg [12,15] [0,0,0,0,0,0] mix (bR bQ) (λhg pf=>ha T 12 [0,1,2,3] sz hg pf J (al T 4 1 sz hg pf J J J (ha T 8 [5,6,7] sz hg pf J (al T 8 5 sz hg pf J J J (ha T 5 [9,10] sz hg pf J (ao 11 (c_ (k:=jE) T [(fY.mk u.Id v10)] J J J J J J J J J (λa25 ig jG=>an (so [0,0,0,0,0,0]) (ao 12 ?_)))))))))))))))))))))))));obtain⟨B6,H⟩:=az H;refine eF (k:=jE) (xs:=ag.jU) T (g:=3) J J J J J J J J J J zY (oO jG 6) B6 J (λa26 n26 pd od=>an sl (hb T 13 sl hg pf J (hb T 14 sl hg pf J (ao 15 (sf T 1 J (an sl (ae (rx T 1 (rc T 7 (lf T 5 J (ro T 3 (cb J H (λH=>?_) (λH=>?_)))))))))))))
  ·refine rc T 1 (ke [0,1] [0,0,0,0,0,0] J J (fz J (rg [10,13] [0,0,0,0,0,0] mix (bR bQ) (λhg pf=>ha T 10 [0,1,2,3] sz hg pf J (al T 4 1 sz hg pf J J J (ha T 6 [5,6,7] sz hg pf J (al T 8 5 sz hg pf J J J (ao 9 (c_ (k:=(Fl.int .i64)) T [u.Id] J J J J J J J J J (λIJ Fb wH=>an (so [0,0,0,0,0,0]) (ao 10 ?_)))))))))));obtain⟨FT,H⟩:=az H;refine eF (k:=(Fl.int .i64)) (xs:=ag.gone) T (g:=4) J J J J J J J J J J ua (oO wH 6) FT J (λa28 n28 vu ky=>an sl (hb T 11 sl hg pf J (hb T 12 sl hg pf J (ao 13 (sf T 1 J (an sl (ae (rx T 1 (rc T 10 ?_)))))))))
   cases H;exact p1 T J [1,1,1,1,1,0] ⟨rT,rK,a26,n26,pd,a28,n28,vu,mj,od,ky,J,J⟩ J
  refine rc T 6 (lf T 1 J (ro T 1 (aV (p_ (g:=2) (m:=(fU ag.kB u.Cell)) (k:=v10) (v:=true) T (Ky.int .i64 u3) (λx:Bool=>Value.bool x) J J J J J J J mj (λrL rp=>ro T 11 ?_)))))
  cases H;exact p1 T J [1,1,1,1,1,0] ⟨rT,rL,a26,n26,pd,xg,xY,w_,rp,od,ua,J,J⟩ J
 refine rc T 16 ?_
 cases H;exact p1 T J [0,0,0,0,0,0] ⟨rT,DE,DK,Ev,DD,xg,xY,w_,ub,zY,ua,J,J⟩ J
def jT.l1:Nat->Int->Int->(List bB)->(List Int)->List bB->Int->Int->(List (Int×Bool))->List fY->List Int->Int->Option ((List bB)×(List fY)×(List Int)×Int)
 |0,_,_,_,_,_,_,_,_,_,_,_=>none
 |pG+1,w,h,l,gW,dh,dm,du,h_,eN,bV,dG=>if dG<(aa l:Int) then(if(0<=dG/\dG<(aa l:Int)) then(if(0<=dG/\dG<(aa gW:Int)) then((xV.f (rj.mk dm du h_ eN bV) (rd l dG) (rd gW dG)).bind λv25=>if v25.1=true then(if(aa dh+1<=1099511627776) then(jT.l1 pG w h l gW (dh++[v25.2.2]) v25.2.1.w v25.2.1.h v25.2.1.kB v25.2.1.jU v25.2.1.gone (af (dG+1))) else none) else(jT.l1 pG w h l gW dh v25.2.1.w v25.2.1.h v25.2.1.kB v25.2.1.jU v25.2.1.gone (af (dG+1)))) else none) else none) else(some (dh,eN,bV,0))
def jT.l0:Nat->Int->Int->(List bB)->(List Int)->(List (Int×Bool))->Int->Option ((List bB)×(List fY)×(List Int)×Int)
 |0,_,_,_,_,_,_=>none
 |k9+1,w,h,l,gW,x7,x8=>if x8<(aa l:Int) then(if(0<=x8/\x8<(aa l:Int)) then(jT.l0 k9 w h l gW (cO x7 ((rd l x8).Cell) true) (af (x8+1))) else none) else(jT.l1 fuel w h l gW [] w h x7 [] [] 0)
def jT.f (w:Int) (h:Int) (l:(List bB)) (gW:(List Int)):Option ((List bB)×(List fY)×(List Int)×Int):=((pO.f w h l).bind λv3=>if((!v3)||((aa gW:Int)!=(aa l:Int)))=true then(some true) else((Dn.f gW).bind λv4=>some v4)).bind λx1=>if x1=true then(some ([],[],[],1)) else(jT.l0 fuel w h l gW ([]:(List (Int×Bool))) 0)
def jT.R (r:((List bB)×(List fY)×(List Int)×Int)):bk:=λu G=> ∃a0 n0 H0 a1 n1 H1 a2 n2 H2,ak lT 67 r.1 a0 n0 H0/\ak jE 94 r.2.1 a1 n1 H1/\ak (Fl.int .i64) 3 r.2.2.1 a2 n2 H2/\u=(.tuple #[(ll a0 r.1 n0),(ll a1 r.2.1 n1),(ll a2 r.2.2.1 n2),(ii r.2.2.2)])/\G=[H0,H1,H2]
theorem jT.c (H:jT.f w h l gW=some r) (df:aP lT l gV F) (f_:aa l<=gQ) (Ge:aP (Fl.int .i64) gW Lz F) (L3:aa gW<=Oo):
 QR 166 [(ii w),(ii h),(ll gV l gQ),(ll Lz gW Oo)] [] [] F (jT.R r):=by
 unfold jT.f at H;refine aG Tryz.func166 J J (λW=>rc T 14 (mq H [0,1,2,3,8] [0] (λz2 (x1:Bool)=>(x1=z2,[(34,(bb x1))],[])) J J (λz2 Z1 _=>?_) ?_))
 ·refine rc T 4 (k [] J Te Z1 (pO.c · (rO df 0) f_) (λv3 Z1=>ro T 2 (go T [6,7,8,9,10,11] 23 [0,1,2,3,8,12] 29 J J J J J J J (ro T 1 (ab 30 J Z1 (λZ1=>?_) (λZ1=>?_))))))
  ·refine ro T 6 (am _ [0] (oi Z1) J J)
  refine ro T 2 (k [] J acm Z1 (Dn.c · (rO Ge 0) L3) (λv4 Z1=>ro T 3 (am _ [0] (oi Z1) J J)))
 rintro _ x1 rfl H;refine cb J H (λH=>?_) (λH=>?_)
 ·refine rc T 10 ?_
  cases H;refine bA (bA (bA (p1 T J [1,1,1,0] ⟨none,0,[],none,0,[],none,0,[],ak.nil,ak.nil,ak.nil,J,J⟩ J)))
 refine rc T 8 (aV (vK T (Ky.int .i64 u3) (λx:Bool=>Value.bool x) J J J ⟨_,_,J⟩ (λa4 H4 s4=>ro T 1 (nc T J (λb5=>ro T 12 (lq [2,3,8,13,42,43] [0] (λ(⟨k9,x7,x8,a7,H7⟩:Nat×(List (Int×Bool))×Int×Nat×Hp)=>(jT.l0 k9 w h l gW x7 x8=some r/\cU (Ky.int .i64 u3) (λx:Bool=>Value.bool x) x7 a7 H7,[(44,(ii x8))],[(cl b5 309 [(ii w),(ii h),(.map (some a7)),nl,nl]),H7])) J J (fuel,([]:(List (Int×Bool))),0,a4,H4) [0,1,0] ⟨H,s4⟩ J J ?_))))));rintro k9 ⟨x7,x8,a7,H7⟩ ⟨Z6,s7⟩;rw[jT.l0] at Z6;refine rc T 6 (cd J Z6 (λZ6=>?_) (λZ6=>?_))
 ·refine rc T 6 ?_;obtain⟨c8,Z6⟩:=az Z6;obtain⟨q8,o8,e8⟩:=df.addr c8.1 c8.2;refine ix T J e8 c8 (bx J (gd T (cs:=[(ii (rd l x8).Id),(ii (rd l x8).Cell),(ii (rd l x8).Goal)]) J J J J J J (iu (k:=lT) (rO df 0) e8 c8 J)) (nc T J (λb9=>sg T 3 J (ro T 2 (ks [2,3,8,13,15,42,43,44] J (fz J (rz [6] mix (bR bQ) (λhg pf=>ha T 4 [0,1,2] sz hg pf J (al T 3 1 sz hg pf J J J (ha T 2 [4] sz hg pf J (al T 5 3 sz hg pf J J J (ao 6 (p_ (g:=2) (m:=x7) (k:=(rd l x8).Cell) (v:=true) T (Ky.int .i64 u3) (λx:Bool=>Value.bool x) J J J J J J J s7 (λbZ bT=>an sl (ae (rx T 7 (ar (_,_,_,_) [0,0,0] ⟨Z6,bT⟩ J J)))))))))))))))))
 refine rc T 14 (bA (bA (bA (lq [3,13,55,56] [0] (λ(⟨pG,dh,dm,du,h_,eN,bV,dG,kc,n15,dO,ik,fx,a17,n17,eP,jj,n18,fo⟩:Nat×List bB×Int×Int×(List (Int×Bool))×List fY×List Int×Int×Option Addr×Nat×Hp×Nat×Hp×Option Addr×Nat×Hp×Option Addr×Nat×Hp)=>(jT.l1 pG w h l gW dh dm du h_ eN bV dG=some r/\ak lT 67 dh kc n15 dO/\cU (Ky.int .i64 u3) (λx:Bool=>Value.bool x) h_ ik fx/\ak jE 94 eN a17 n17 eP/\ak (Fl.int .i64) 3 bV jj n18 fo,[(8,(ll kc dh n15)),(57,(ii dG))],[dO,(cl b5 309 [(ii dm),(ii du),(.map (some ik)),(ll a17 eN n17),(ll jj bV n18)]),fx,eP,fo])) J J (fuel,[],w,h,x7,[],[],0,none,0,[],a7,H7,none,0,[],none,0,[]) [0,2,0,0,0,0] ⟨Z6,ak.nil,s7,ak.nil,ak.nil⟩ J J ?_))));rintro pG ⟨dh,dm,du,h_,eN,bV,dG,kc,n15,dO,ik,fx,a17,n17,eP,jj,n18,fo⟩ ⟨Z9,dW,eK,fF,fG⟩;rw[jT.l1] at Z9;refine rc T 6 (cd J Z9 (λZ9=>?_) (λZ9=>?_))
 ·refine rc T 7 ?_;obtain⟨di,Z9⟩:=az Z9;obtain⟨VK,Va,uK⟩:=df.addr di.1 di.2;refine ix T J uK di (bx J (gd T (cs:=[(ii (rd l dG).Id),(ii (rd l dG).Cell),(ii (rd l dG).Goal)]) J J J J J J (iu (k:=lT) (rO df 0) uK di J)) (nc T J (λI4=>ro T 1 (sg T 6 J (ro T 7 ?_)))));obtain⟨gv,Z9⟩:=az Z9;obtain⟨C4,Vc,AN⟩:=Ge.addr gv.1 gv.2;refine ix T J AN gv (le T 0 (rO Ge 0) AN gv J J (kr (xV.R b5 I4) [] [2,2,2,2,2] J acn Z9 (xV.c (ag:=(rj.mk dm du h_ eN bV)) · eK fF fG) (λv25 Z9=>?_)));rintro _ _ ⟨a22,mr,a23,n23,jL,a24,n24,rK,iv,hU,mj,rfl,rfl⟩;refine fz J (ro T 2 (cb J Z9 (λZ9=>?_) (λZ9=>?_)))
  ·refine rc T 2 (lm T 6 J (aV (c_ (k:=lT) T [v25.2.2] J J J J J J J J J (λa25 ig jG=>?_))));obtain⟨ze,Z9⟩:=az Z9;refine aV (eF (k:=lT) (xs:=dh) T (g:=1) J J J J J J J J J J dW (oO jG 7) ze J (λa26 n26 pd od=>ro T 2 (ke [3,8,13,55,56,57] [0,0,0,0,0,0] J J (rx T 7 (ar (_,_,_,_,_,_,_,_,_,_,_,_,_,_,_,_,_,_) [0,0,0,0,0,0] ⟨Z9,od,iv,hU,mj⟩ J J)))))
  refine rc T 8 (ar (_,_,_,_,_,_,_,_,_,_,_,_,_,_,_,_,_,_) [0,0,0,0,0,0] ⟨Z9,dW,iv,hU,mj⟩ J J)
 refine rc T 6 (dq mix aA ?_)
 iterate 4 refine au T J ?_
 refine cw T 2 J J J (au T J (au T J (au T J (cw T 2 J J J ?_))))
 iterate 4 refine au T J ?_
 refine cM (rx T 2 ?_)
 cases Z9;exact p1 T J [1,3,3,0] ⟨kc,n15,dO,a17,n17,eP,jj,n18,fo,dW,fF,fG,J,J⟩ J
end
end Go.Proofs.YthodkonhneebbaaGreatDoor
