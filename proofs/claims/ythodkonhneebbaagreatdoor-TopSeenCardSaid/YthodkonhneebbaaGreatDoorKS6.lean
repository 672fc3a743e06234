/- What the functions of some packages compute, each as a function of plain Lean, with its contract. No condition. -/
import Derived.Test.YthodkonhneebbaaGreatDoorKST
import Derived.Test.YthodkonhneebbaaGreatDoorKS5
namespace Go.Proofs.YthodkonhneebbaaGreatDoor
open Go.Hx
set_option maxRecDepth 100000
set_option linter.unusedSimpArgs false
set_option linter.unusedVariables false
set_option maxHeartbeats 4000000
set_option autoImplicit true
set_option relaxedAutoImplicit true
noncomputable section
def nh.f (ag:fb) (n:Int):Option ((List Int)×Er×fb):=if(aa ((List.length ag.b:Int)-ag.ba))<n then(some ([],(Er.eF 6),ag)) else(if(0<=(aa ((aa (ag.ba+n))-n))/\(aa ((aa (ag.ba+n))-n))<=(aa (ag.ba+n))/\(aa (ag.ba+n))<=(List.length ag.b:Int)) then(some ((aA ag.b (aa ((aa (ag.ba+n))-n)) (aa (ag.ba+n))),Er.nil,(fb.mk ag.b (aa (ag.ba+n))))) else none)
def nh.R (el:Nat->Addr) (aW:Nat) (y0:Value) (xr:List Int) (ar:Option Addr) (nr:Nat) (r:((List Int)×Er×fb)):bg:=λu G=> ∃(a0:Option Addr) (n0:Nat) (v1:Value) (H1:Hp),dA (Fl.int .u8) xr ar nr r.1 a0 n0/\List.length r.1<=n0/\gp 414 el r.2.1 v1 H1/\u=(.tuple #[(ll a0 r.1 n0),v1])/\G=[H1,(cl aW 340 [y0,(ii r.2.2.ba)])]
theorem nh.c (H:nh.f ag n=some r) (hG:fW 414 fp iw el F) (na:aP (Fl.int .u8) ag.b iq F) (kC:List.length ag.b<=hU):
 QR 278 [(pp aW),(ii n)] [(cl aW 340 [(ll iq ag.b hU),(ii ag.ba)])] [] F (nh.R el aW (ll iq ag.b hU) ag.b iq hU r):=by
 unfold nh.f at H;refine aD Tryz.func278 J J (λW=>rc T 8 (dx mix ay (au T J (au T J (au T J (aO J J J (aw T J J J J (aK (j:=0) J J)) ?_))))))
 iterate 4 refine au T J ?_
 refine aO J J J (aw T J J J J (aK (j:=0) J J)) (au T J (au T J (au T J (dh (rx T 1 (cd J H (λH=>?_) (λH=>?_)))))))
 ·refine rc T 1 (dx mix ay (aO J J J (aw T J J J J (rY (j:=1) J hG (g:=6) (by decide))) (au T J (au T J (dh (rx T 3 ?_))))))
  cases H;refine bq (p1 T J [2,0,0] ⟨none,0,(.iface 414 (.pointer (some (el 6)))),[],dA.nil,(Nat.zero_le _),oB,J,J⟩ J)
 refine rc T 7 (lf T 0 J (ro T 4 (sg T 0 J (ro T 3 (dx mix ay (au T J (au T J (au T J (aO J J J (aw T J J J J (aK (j:=0) J J)) (au T J (au T J (au T J (aO J J J (aw T J J J J (aK (j:=0) J J)) ?_)))))))))))))
 iterate 5 refine au T J ?_
 refine aO J J J (aw T J J J J (aK (j:=0) J J)) ?_;obtain⟨c2,H⟩:=az H;refine aO J J J (kE T J J J J J J c2 kC) (au T J (au T J (dh (rx T 2 ?_))))
 cases H;refine bq (p1 T J [2,0,0] ⟨(gm iq hU (Int.toNat (aa ((aa (ag.ba+n))-n))) 1),(hU-Int.toNat (aa ((aa (ag.ba+n))-n))),.nilIface,[],(dA.sub dA.self kC c2),(mO c2 kC),uG,J,J⟩ J)
def ql.f (ag:fb) (n:Int):Option ((List Int)×Er×fb):=(nh.f ag n).bind λv1=>(if(Er.isNil v1.2.1)=true then((wI.f v1.1 0).bind λv4=>some v4) else(some false)).bind λx2=>if x2=true then(some (v1.1,(Er.eF 5),(fb.mk ag.b v1.2.2.ba))) else(some (v1.1,v1.2.1,(fb.mk ag.b v1.2.2.ba)))
def ql.R (el:Nat->Addr) (aW:Nat) (y0:Value) (xr:List Int) (ar:Option Addr) (nr:Nat) (r:((List Int)×Er×fb)):bg:=λu G=> ∃(a0:Option Addr) (n0:Nat) (v1:Value) (H1:Hp),dA (Fl.int .u8) xr ar nr r.1 a0 n0/\List.length r.1<=n0/\gp 414 el r.2.1 v1 H1/\u=(.tuple #[(ll a0 r.1 n0),v1])/\G=[H1,(cl aW 340 [y0,(ii r.2.2.ba)])]
theorem ql.c (H:ql.f ag n=some r) (hG:fW 414 fp iw el F) (na:aP (Fl.int .u8) ag.b iq F) (kC:List.length ag.b<=hU):
 QR 279 [(pp aW),(ii n)] [(cl aW 340 [(ll iq ag.b hU),(ii ag.ba)])] [] F (ql.R el aW (ll iq ag.b hU) ag.b iq hU r):=by
 unfold ql.f at H;refine aD Tryz.func279 J J (λW=>rc T 10 (kr (nh.R el aW (ll iq ag.b hU) ag.b iq hU) [] [0] J NP H (nh.c · (dG hG (j:=0) J) (rO na 0) kC) (λv1 H=>?_)));rintro _ _ ⟨a2,n2,v3,H3,D2,Jx,s3,rfl,rfl⟩;refine fz J (ro T 8 (mq H [6,7] [0,0,0] (λz3 (x2:Bool)=>(x2=z3,[(19,(bb x2))],[])) J J (λz3 Z2 _=>?_) ?_))
 ·refine rc T 2 (br J (JO T J J J (rP s3 (j:=1) J)) (ro T 1 (ab 16 J Z2 (λZ2=>?_) (λZ2=>?_))))
  ·refine ro T 1 (k [] J NH Z2 (wI.c · (oz D2 (rO na 0) kC) Jx) (λv4 Z2=>ro T 3 (am _ [0,0,0] (oi Z2) J J)))
  refine ro T 5 (am _ [0,0,0] (oi Z2) J J)
 rintro _ x2 rfl H;refine cb J H (λH=>?_) (λH=>?_)
 ·refine rc T 1 (lg T J (rY (j:=0) J hG (g:=5) (by decide)) (ro T 12 ?_))
  cases H;refine bq (p1 T J [3,2,0] ⟨a2,n2,(.iface 414 (.pointer (some (el 5)))),[],D2,Jx,oB,J,J⟩ J)
 refine rc T 11 ?_
 cases H;exact p1 T J [1,1,0] ⟨a2,n2,v3,H3,D2,Jx,s3,J,J⟩ J
def pE.l0:Nat->fb->Int->Int->List Int->Option (Sum ((List Int)×Er×fb) ((List Int)×Int))
 |0,_,_,_,_=>none
 |k8+1,ag,n,x6,x7=>if(List.length x7:Int)<n then((nh.f (fb.mk ag.b x6) 2).bind λv9=>if(!(Er.isNil v9.2.1))=true then(some (Sum.inl ([],v9.2.1,(fb.mk ag.b v9.2.2.ba)))) else(if(0<=(0:Int)/\(0:Int)<(List.length v9.1:Int)) then(if(0<=(1:Int)/\(1:Int)<(List.length v9.1:Int)) then((if(((rd v9.1 1)==0)||(decide ((aa ((aa (rd v9.1 0))+1))>(aa (n-(List.length x7:Int))))))=true then(some true) else(if(List.length x7:Int)>0 then(if(0<=(aa ((List.length x7:Int)-1))/\(aa ((List.length x7:Int)-1))<(List.length x7:Int)) then(some ((rd x7 (aa ((List.length x7:Int)-1)))==(rd v9.1 1))) else none) else(some false))).bind λaN=>if aN=true then(some (Sum.inl ([],(Er.eF 5),(fb.mk ag.b v9.2.2.ba)))) else((lL.f [(rd v9.1 1)] (aa ((aa (rd v9.1 0))+1))).bind λv12=>if(List.length x7+List.length v12<=1099511627776) then(pE.l0 k8 ag n v9.2.2.ba (x7++v12)) else none)) else none) else none)) else(some (Sum.inr (x7,x6)))
def pE.f (ag:fb) (n:Int):Option ((List Int)×Er×fb):=(pE.l0 fuel ag n ag.ba []).bind λzz=>match zz with |Sum.inl q=>some q |Sum.inr (x1,x2)=>some (x1,Er.nil,(fb.mk ag.b x2))
def pE.R (el:Nat->Addr) (aW:Nat) (y0:Value) (r:((List Int)×Er×fb)):bg:=λu G=> ∃(a0 n0 H0:_) (v1:Value) (H1:Hp),aj (Fl.int .u8) 5 r.1 a0 n0 H0/\gp 414 el r.2.1 v1 H1/\u=(.tuple #[(ll a0 r.1 n0),v1])/\G=[H0,H1,(cl aW 340 [y0,(ii r.2.2.ba)])]
theorem pE.c (H:pE.f ag n=some r) (hG:fW 414 fp iw el F) (na:aP (Fl.int .u8) ag.b iq F) (kC:List.length ag.b<=hU):
 QR 281 [(pp aW),(ii n)] [(cl aW 340 [(ll iq ag.b hU),(ii ag.ba)])] [] F (pE.R el aW (ll iq ag.b hU) r):=by
 unfold pE.f at H;refine aD Tryz.func281 J J (λW=>rc T 11 (mq H [] [1] (λz3 (⟨x1,x2,a2,n2,H2⟩:List Int×Int×Option Addr×Nat×Hp)=>((Sum.inr (x1,x2))=z3/\aj (Fl.int .u8) 5 x1 a2 n2 H2,[(6,(ll a2 x1 n2))],[H2,(cl aW 340 [(ll iq ag.b hU),(ii x2)])])) J J (λz3 Z1 H=>?_) ?_))
 ·refine rc T 1 (bq (lq [0,1] [1] (λ(⟨k8,x6,x7,a4,n4,H4⟩:Nat×Int×List Int×Option Addr×Nat×Hp)=>(pE.l0 k8 ag n x6 x7=some z3/\aj (Fl.int .u8) 5 x7 a4 n4 H4,[(6,(ll a4 x7 n4))],[(cl aW 340 [(ll iq ag.b hU),(ii x6)]),H4])) J J (fuel,ag.ba,[],none,0,[]) [1,0,0] ⟨Z1,aj.nil⟩ J J ?_));rintro k8 ⟨x6,x7,a4,n4,H4⟩ ⟨Z2,s4⟩;rw[pE.l0] at Z2;refine rc T 9 (cd J Z2 (λZ2=>?_) (λZ2=>?_))
  ·refine rc T 6 (kr (nh.R el aW (ll iq ag.b hU) ag.b iq hU) [] [1] J NP Z2 (nh.c (ag:=(fb.mk ag.b x6)) · (dG hG (j:=0) J) (rO na 0) kC) (λv9 Z2=>?_));rintro _ _ ⟨a5,n5,v6,H6,F1,Ri,s6,rfl,rfl⟩;refine fz J (ro T 11 (br J (Ea T J J J (rP s6 (j:=2) J)) (ro T 2 (cb J Z2 (λZ2=>?_) (λZ2=>?_)))))
   ·refine rc T 13 ?_;obtain rfl:=Option.some.inj Z2;obtain rfl:=Option.some.inj (show some ([],v9.2.1,(fb.mk ag.b v9.2.2.ba))=some r from H)
    refine bq (p1 T J [4,2,2,0] ⟨none,0,[],v6,H6,aj.nil,s6,J,J⟩ J)
   refine rc T 3 (dx mix ay (au T J ?_));obtain⟨c6,Z2⟩:=az Z2;obtain⟨q8,o8,e8⟩:=(dA.r F1 na kC).addr c6.1 c6.2;refine aO J J J (cC T J J J J J e8 c6.1 c6.2) (aO J J J (aw T J J J J (g_ (k:=(Fl.int .u8)) (oz F1 (rO na 0) kC) e8 c6 0 J)) (au T J (au T J (au T J ?_))));obtain⟨c7,Z2⟩:=az Z2;refine aO J J J (cC T J J J J J e8 c7.1 c7.2) (aO J J J (aw T J J J J (g_ (k:=(Fl.int .u8)) (oz F1 (rO na 0) kC) e8 c7 0 J)) (au T J (au T J (dh (rx T 2 (mq Z2 [0,1,6,9,10] [0,2,0] (λlV (aN:Bool)=>(aN=lV,[(55,(bb aN))],[])) J J (λlV Z8 _=>?_) ?_))))))
   ·refine rc T 4 (go T [3,4,5,6,7,8,9] 33 [0,1,6,9,10] 40 J J J J J J J (ro T 1 (ab 41 J Z8 (λZ8=>?_) (λZ8=>?_))))
    ·refine ro T 16 (am _ [0,2,0] (oi Z8) J J)
    refine ro T 4 (ad 45 J Z8 (λZ8=>?_) (λZ8=>?_))
    ·refine ro T 4 ?_;obtain⟨eJ,Z8⟩:=az Z8;obtain⟨q9,o9,e9⟩:=s4.r.addr eJ.1 eJ.2;refine ix T J e9 eJ (le T 0 (oO s4 1) e9 eJ J J (ro T 6 (am _ [0,2,0] (oi Z8) J J)))
    refine ro T 12 (am _ [0,2,0] (oi Z8) J J)
   rintro _ aN rfl Z2;refine cb J Z2 (λZ2=>?_) (λZ2=>?_)
   ·refine rc T 1 (dx mix ay (aO J J J (aw T J J J J (rY (j:=0) J hG (g:=5) (by decide))) (au T J (au T J (dh (rx T 7 ?_))))))
    obtain rfl:=Option.some.inj Z2;obtain rfl:=Option.some.inj (show some ([],(Er.eF 5),(fb.mk ag.b v9.2.2.ba))=some r from H)
    refine bq (bq (p1 T J [3,3,1,0] ⟨none,0,[],(.iface 414 (.pointer (some (el 5)))),[],aj.nil,oB,J,J⟩ J))
   refine rc T 5 (aX (cY (k:=(Fl.int .u8)) T [(rd v9.1 1)] J J J J J J J J J (λa12 dq dz=>ro T 1 (kr lL.R [] [] J TS Z2 (lL.c · (oO dz 3) dz.bT) (λv12 Z2=>?_)))));rintro _ _ ⟨dK,n13,dV,dm,rfl,rfl⟩;refine fz J ?_;obtain⟨pj,Z2⟩:=az Z2;refine aX (dW (k:=(Fl.int .u8)) (xs:=x7) T (g:=2) J J J J J J J J J J s4 (oO dm 4) pj J (λje n14 fX gF=>ro T 4 (ar (_,_,_,_,_) [0,0,0] ⟨Z2,gF⟩ J J)))
  refine rc T 5 (am (_,_,_,_,_) [0,1,0] ⟨oi Z2,s4⟩ J J)
 rintro _ ⟨x1,x2,a2,n2,H2⟩ ⟨rfl,s2⟩ H;refine rc T 8 ?_
 cases H;refine bq (p1 T J [1,2,1,0] ⟨a2,n2,H2,.nilIface,[],s2,uG,J,J⟩ J)
def tI.f (ag:fb) (n:Int):Option ((List Int)×Er×fb):=(nh.f ag 1).bind λv1=>if(!(Er.isNil v1.2.1))=true then(some ([],v1.2.1,(fb.mk ag.b v1.2.2.ba))) else(if(0<=(0:Int)/\(0:Int)<(List.length v1.1:Int)) then(if((rd v1.1 0)==0)=true then((ql.f (fb.mk ag.b v1.2.2.ba) 1).bind λv2=>(lL.f v2.1 n).bind λv3=>some (v3,v2.2.1,(fb.mk ag.b v2.2.2.ba))) else(if((rd v1.1 0)==1)=true then((ql.f (fb.mk ag.b v1.2.2.ba) n).bind λv4=>some (v4.1,v4.2.1,(fb.mk ag.b v4.2.2.ba))) else(if((rd v1.1 0)==2)=true then((pE.f (fb.mk ag.b v1.2.2.ba) n).bind λv5=>some (v5.1,v5.2.1,(fb.mk ag.b v5.2.2.ba))) else(some ([],(Er.eF 5),(fb.mk ag.b v1.2.2.ba)))))) else none)
def tI.R (el:Nat->Addr) (aW:Nat) (y0:Value) (xr:List Int) (ar:Option Addr) (nr:Nat) (r:((List Int)×Er×fb)):bg:=λu G=> ∃(a0 n0 H0:_) (v1:Value) (H1:Hp),IY (Fl.int .u8) 5 xr ar nr r.1 a0 n0 H0/\gp 414 el r.2.1 v1 H1/\u=(.tuple #[(ll a0 r.1 n0),v1])/\G=[H0,H1,(cl aW 340 [y0,(ii r.2.2.ba)])]
theorem tI.c (H:tI.f ag n=some r) (hG:fW 414 fp iw el F) (na:aP (Fl.int .u8) ag.b iq F) (kC:List.length ag.b<=hU):
 QR 252 [(pp aW),(ii n)] [(cl aW 340 [(ll iq ag.b hU),(ii ag.ba)])] [] F (tI.R el aW (ll iq ag.b hU) ag.b iq hU r):=by
 unfold tI.f at H;refine aD Tryz.func252 J J (λW=>rc T 9 (kr (nh.R el aW (ll iq ag.b hU) ag.b iq hU) [] [0] J NP H (nh.c · (dG hG (j:=0) J) (rO na 0) kC) (λv1 H=>?_)));rintro _ _ ⟨a2,n2,v3,H3,D2,Jx,s3,rfl,rfl⟩;refine fz J (ro T 11 (br J (Ea T J J J (rP s3 (j:=1) J)) (ro T 2 (cb J H (λH=>?_) (λH=>?_)))))
 ·refine rc T 9 ?_
  cases H;refine bq (p1 T J [3,1,1,0] ⟨none,0,[],v3,H3,(.inl ⟨dA.nil,Nat.zero_le _,J⟩),s3,J,J⟩ J)
 refine rc T 6 ?_;obtain⟨c3,H⟩:=az H;obtain⟨q5,o5,e5⟩:=(dA.r D2 na kC).addr c3.1 c3.2;refine ix T J e5 c3 (le T 0 (oz D2 (rO na 0) kC) e5 c3 J J (ro T 9 (cb J H (λH=>?_) (λH=>?_))))
 ·refine rc T 3 (kr (ql.R el aW (ll iq ag.b hU) ag.b iq hU) [] [2] J TR H (ql.c (ag:=(fb.mk ag.b v1.2.2.ba)) · (dG hG (j:=0) J) (rO na 0) kC) (λv2 H=>?_));rintro _ _ ⟨a6,n6,v7,H7,b6_,c6_,s7,rfl,rfl⟩;refine fz J (ro T 11 (kr lL.R [] [] J TS H (lL.c · (oz b6_ (rO na 0) kC) c6_) (λv3 H=>?_)));rintro _ _ ⟨a8,n8,H8,s8,rfl,rfl⟩;refine fz J (ro T 4 (ke [4,5] [0,1,1,1] J J (rx T 4 ?_)))
  cases H;exact p1 T J [3,1,1,0] ⟨a8,n8,H8,v7,H7,(.inr s8),s7,J,J⟩ J
 refine rc T 6 (cb J H (λH=>?_) (λH=>?_))
 ·refine rc T 4 (kr (ql.R el aW (ll iq ag.b hU) ag.b iq hU) [] [2] J TR H (ql.c (ag:=(fb.mk ag.b v1.2.2.ba)) · (dG hG (j:=0) J) (rO na 0) kC) (λv4 H=>?_));rintro _ _ ⟨a9,n9,v10,b_,b9_,c9_,bP,rfl,rfl⟩;refine fz J (ro T 9 ?_)
  cases H;refine bq (p1 T J [4,2,2,0] ⟨a9,n9,[],v10,b_,(.inl ⟨b9_,c9_,J⟩),bP,J,J⟩ J)
 refine rc T 6 (cb J H (λH=>?_) (λH=>?_))
 ·refine rc T 4 (kr (pE.R el aW (ll iq ag.b hU)) [] [2] J ad' H (pE.c (ag:=(fb.mk ag.b v1.2.2.ba)) · (dG hG (j:=0) J) (rO na 0) kC) (λv5 H=>?_));rintro _ _ ⟨a12,n12,dq,lG,dV,dz,dm,rfl,rfl⟩;refine fz J (ro T 9 ?_)
  cases H;exact p1 T J [2,2,2,0] ⟨a12,n12,dq,lG,dV,(.inr dz),dm,J,J⟩ J
 refine rc T 4 (dx mix ay (aO J J J (aw T J J J J (rY (j:=0) J hG (g:=5) (by decide))) (au T J (au T J (dh (rx T 2 ?_))))))
 cases H;refine bq (bq (p1 T J [3,3,2,0] ⟨none,0,[],(.iface 414 (.pointer (some (el 5)))),[],(.inl ⟨dA.nil,Nat.zero_le _,J⟩),oB,J,J⟩ J))
def Db.f (ag:Int) (ai:aL):Option Bool:=if(0<=(0:Int)/\(0:Int)<(List.length ai.C:Int)) then(some (ag !=(rd ai.C 0))) else none
theorem Db.c (H:Db.f ag ai=some r) (Ht:(uz,Obj.cells #[(ii ai.W),(ii ai.H),(ll Jg ai.C KZ)] 139 (0,0))∈F) (Ek:aP (Fl.int .u8) ai.C Jg F) (Rk:List.length ai.C<=KZ):
 QU 304 [(.int .u8 ag),(pp uz)] [] F (bb r):=by
 unfold Db.f at H;refine aD Tryz.func304 J J (λW=>rc T 9 (lg T J (nL (j:=0) Ht J J) ?_));obtain⟨c1,H⟩:=az H;obtain⟨q1,o1,e1⟩:=Ek.addr c1.1 c1.2;refine ix T J e1 c1 (le T 0 (rO Ek 0) e1 c1 J J (ro T 5 ?_))
 cases H;exact p0 T J [0] J
def rk.l0:Nat->(List Int)->aL->Int->Option Int
 |0,_,_,_=>none
 |k3+1,s,fD,x2=>if x2<(List.length s:Int) then(if(0<=x2/\x2<(List.length s:Int)) then((Db.f (rd s x2) fD).bind λv4=>if v4=true then(some x2) else(rk.l0 k3 s fD (aa (x2+1)))) else none) else(some (-1))
def rk.f (s:(List Int)) (fD:aL):Option Int:=rk.l0 fuel s fD 0
theorem rk.c (H:rk.f s fD=some r) (iW:aP (Fl.int .u8) s iF F) (qM:List.length s<=iL) (CQ:(Cb,Obj.cells #[(ii fD.W),(ii fD.H),(ll B4 fD.C C1)] 139 (0,0))∈F) (Cm:aP (Fl.int .u8) fD.C B4 F) (Cg:List.length fD.C<=C1):
 QU 305 [(ll iF s iL),(.func (.func 304) #[] #[(pp Cb)])] [] F (ii r):=by
 unfold rk.f at H;refine aD Tryz.func305 J J (λW=>rc T 14 (lq [0,1,7] [0] (λ(⟨k3,x2⟩:Nat×Int)=>(rk.l0 k3 s fD x2=some r,[(8,(ii x2))],[])) J J (fuel,0) [0] H J J ?_));rintro k3 x2 Z1;replace Z1:rk.l0 (k3+1) s fD x2=some r:=Z1;rw[rk.l0] at Z1;refine rc T 6 (cd J Z1 (λZ1=>?_) (λZ1=>?_))
 ·refine rc T 15 ?_;obtain⟨c3,Z1⟩:=az Z1;obtain⟨q1,o1,e1⟩:=iW.addr c3.1 c3.2;refine ix T J e1 c3 (le T 0 (rO iW 0) e1 c3 J J (k [] J ael Z1 (Db.c · (qh CQ (j:=0) J) (rO Cm 0) Cg) (λv4 Z1=>ro T 2 (cb J Z1 (λZ1=>?_) (λZ1=>?_)))))
  ·refine rc T 12 ?_
   cases Z1;exact p0 T J [0] J
  refine rc T 8 (ar _ [0] Z1 J J)
 refine rc T 11 ?_
 cases Z1;exact p0 T J [0] J
def Dw.f (s:(List Int)) (fD:aL):Option Bool:=(rk.f s fD).bind λv1=>some (decide (v1≥0))
theorem Dw.c (H:Dw.f s fD=some r) (iW:aP (Fl.int .u8) s iF F) (qM:List.length s<=iL) (CQ:(Cb,Obj.cells #[(ii fD.W),(ii fD.H),(ll B4 fD.C C1)] 139 (0,0))∈F) (Cm:aP (Fl.int .u8) fD.C B4 F) (Cg:List.length fD.C<=C1):
 QU 303 [(ll iF s iL),(.func (.func 304) #[] #[(pp Cb)])] [] F (bb r):=by
 unfold Dw.f at H;refine aD Tryz.func303 J J (λW=>rc T 9 (k [] J aem H (rk.c · (rO iW 0) qM (qh CQ (j:=0) J) (rO Cm 0) Cg) (λv1 H=>ro T 5 ?_)))
 cases H;exact p0 T J [0] J
def jz.l1:Nat->aL->Int->Int->Option Int
 |0,_,_,_=>none
 |xE+1,t,x5,aU=>(if(aa (x5+aU))<(List.length t.C:Int) then(if(0<=(aa (x5+aU))/\(aa (x5+aU))<(List.length t.C:Int)) then(if(0<=x5/\x5<(List.length t.C:Int)) then(some ((rd t.C (aa (x5+aU)))==(rd t.C x5))) else none) else none) else(some false)).bind λbY=>if bY=true then(jz.l1 xE t x5 (aa (aU+1))) else(some aU)
def jz.l0:Nat->aL->List Int->Int->Option (List Int)
 |0,_,_,_=>none
 |k6+1,t,x4,x5=>if x5<(List.length t.C:Int) then(((jz.l1 fuel t x5 1).bind λaN=>if(0<=x5/\x5<(List.length t.C:Int)) then(if(List.length x4+2<=1099511627776) then(some ((x4++[(bU (aa (aN-1))),(rd t.C x5)]),(aa (x5+aN)))) else none) else none).bind λ(x7,x8)=>jz.l0 k6 t x7 x8) else(some x4)
def jz.f (t:aL) (form:Int):Option (List Int):=if(form==0)=true then((Dw.f t.C t).bind λv1=>if v1=true then(some []) else(if(0<=(0:Int)/\(0:Int)<(List.length t.C:Int)) then(if(List.length [(bU form)]+1<=1099511627776) then(some ([(bU form)]++[(rd t.C 0)])) else none) else none)) else(if(form==1)=true then(if(List.length [(bU form)]+List.length t.C<=1099511627776) then(some ([(bU form)]++t.C)) else none) else(jz.l0 fuel t [(bU form)] 0))
def jz.R (r:(List Int)):bg:=λu G=> ∃a0 n0 H0,aj (Fl.int .u8) 5 r a0 n0 H0/\(r=[]->a0=none)/\u=(ll a0 r n0)/\G=[H0]
theorem jz.c (H:jz.f t form=some r) (dR:aP (Fl.int .u8) t.C iG F) (fw:List.length t.C<=iM):
 QR 297 [(.agg #[(ii t.W),(ii t.H),(ll iG t.C iM)]),(ii form)] [] [] F (jz.R r):=by
 unfold jz.f at H;refine aD Tryz.func297 J J (λW=>rc T 2 (nc T J (λb1=>ro T 7 (aX (cY (k:=(Fl.int .u8)) T [(bU form)] J J J J J J J J J (λa2 H2 s2=>ro T 16 (cb J H (λH=>?_) (λH=>?_))))))))
 ·refine rc T 4 (lf T 1 J (ro T 1 (k [] J aek H (Dw.c · (rO dR 0) fw (zu (j:=1) J) (rO dR 0) fw) (λv1 H=>ro T 2 (cb J H (λH=>?_) (λH=>?_))))))
  ·refine rc T 9 ?_
   cases H;refine bq (p1 T J [3,0] ⟨none,0,[],aj.nil,(λ_=>rfl),J,J⟩ J)
  refine rc T 6 (lf T 1 J ?_);obtain⟨c4,H⟩:=az H;obtain⟨q4,o4,e4⟩:=dR.addr c4.1 c4.2;refine ix T J e4 c4 (le T 0 (rO dR 0) e4 c4 J J (aX (cY (k:=(Fl.int .u8)) T [(rd t.C 0)] J J J J J J J J J (λa5 H5 s5=>?_))));obtain⟨c5,H⟩:=az H;refine aX (dW (k:=(Fl.int .u8)) (xs:=[(bU form)]) T (g:=2) J J J J J J J J J J s2 (oO s5 3) c5 J (λa6 n6 H6 s6=>ro T 2 (ke [4] [0,1] J J (rx T 4 ?_))))
  cases H;exact p1 T J [1,0] ⟨a6,n6,H6,s6,(O' (.inr J)),J,J⟩ J
 refine rc T 6 (cb J H (λH=>?_) (λH=>?_))
 ·refine rc T 4 (lf T 1 J ?_);obtain⟨c7,H⟩:=az H;refine aX (dW (k:=(Fl.int .u8)) (xs:=[(bU form)]) T (g:=2) J J J J J J J J J J s2 (rO dR 0) c7 J (λa7 n7 H7 s7=>ro T 2 (ke [4] [0,1] J J (rx T 4 ?_))))
  cases H;exact p1 T J [1,0] ⟨a7,n7,H7,s7,(O' (.inl J)),J,J⟩ J
 refine rc T 10 (lq [2] [0,0] (λ(⟨k6,x4,x5,a9,n9,H9⟩:Nat×List Int×Int×Option Addr×Nat×Hp)=>(jz.l0 k6 t x4 x5=some r/\aj (Fl.int .u8) 5 x4 a9 n9 H9/\(x4=[]->a9=none),[(5,(ll a9 x4 n9)),(6,(ii x5))],[H9])) J J (fuel,[(bU form)],0,a2,(List.length [(bU form)]),H2) [0,0,0] ⟨H,s2,(λe=>by cases e)⟩ J J ?_)
 rintro k6 ⟨x4,x5,a9,n9,H9⟩ ⟨Z8,s9,r9⟩;rw[jz.l0] at Z8;refine rc T 5 (lf T 1 J (ro T 4 (cd J Z8 (λZ8=>?_) (λZ8=>?_))))
 ·refine rc T 2 (mn Z8 [2] [0,0] (λz9 (⟨x7,x8,cB,n10,b_⟩:List Int×Int×Option Addr×Nat×Hp)=>((x7,x8)=z9/\aj (Fl.int .u8) 5 x7 cB n10 b_/\(x7=[]->cB=none),[(5,(ll cB x7 n10)),(6,(ii x8))],[b_])) J J (λz9 lZ _=>?_) ?_)
  ·refine rc T 6 (mq lZ [2,5,6] [0,0,0] (λlV (aN:Int)=>(aN=lV,[(7,(ii aN))],[])) J J (λlV bf _=>?_) ?_)
   ·refine rc T 1 (lq [2,5,6] [0,0,0] (λ(⟨xE,aU⟩:Nat×Int)=>(jz.l1 xE t x5 aU=some lV,[(7,(ii aU))],[])) J J (fuel,1) [0,0,0] bf J J ?_);rintro xE aU bt;replace bt:jz.l1 (xE+1) t x5 aU=some lV:=bt;rw[jz.l1] at bt;refine rc T 1 (mq bt [2,5,6,7] [0,0,0] (λIW (bY:Bool)=>(bY=IW,[(57,(bb bY))],[])) J J (λIW ff _=>?_) ?_)
    ·refine dx mix ay ?_
     iterate 4 refine au T J ?_
     refine aO J J J (aw T J J J J (aK (j:=1) J J)) (au T J (au T J (au T J (qd 43 J ff (λff=>?_) (λff=>?_)))))
     ·refine au T J (aO J J J (aw T J J J J (aK (j:=1) J J)) (au T J (au T J (au T J ?_))));obtain⟨yM,ff⟩:=az ff;obtain⟨q11,o11,yQ⟩:=dR.addr yM.1 yM.2;refine aO J J J (cC T J J J J J yQ yM.1 yM.2) (aO J J J (aw T J J J J (g_ (k:=(Fl.int .u8)) (rO dR 0) yQ yM 0 J)) (au T J (aO J J J (aw T J J J J (aK (j:=1) J J)) (au T J ?_))));obtain⟨pY,ff⟩:=az ff;refine aO J J J (cC T J J J J J yQ pY.1 pY.2) (aO J J J (aw T J J J J (g_ (k:=(Fl.int .u8)) (rO dR 0) yQ pY 0 J)) (au T J (au T J (dh (rx T 1 (am _ [0,0,0] (oi ff) J J))))))
     iterate 14 refine au T J ?_
     refine dh (rx T 1 (am _ [0,0,0] (oi ff) J J))
    rintro _ bY rfl bt;refine cb J bt (λbt=>?_) (λbt=>?_)
    ·refine rc T 10 (ar _ [0,0,0] bt J J)
    refine rc T 5 (am _ [0,0,0] (oi bt) J J)
   rintro _ aN rfl lZ;refine rc T 7 (lf T 1 J (ro T 1 ?_));obtain⟨lM,lZ⟩:=az lZ;obtain⟨wo,Pd,sV⟩:=dR.addr lM.1 lM.2;refine ix T J sV lM (le T 0 (rO dR 0) sV lM J J (aX (cY (k:=(Fl.int .u8)) T [(bU (aa (aN-1))),(rd t.C x5)] J J J J J J J J J (λdK dV dm=>?_))));obtain⟨Av,lZ⟩:=az lZ;refine aX (dW (k:=(Fl.int .u8)) (xs:=x4) T (g:=2) J J J J J J J J J J s9 (oO dm 3) Av J (λje n14 fX gF=>ro T 11 (am (_,_,_,_,_) [0,0,0] ⟨oi lZ,gF,(O' (.inr J))⟩ J J)))
  rintro _ ⟨x7,x8,cB,n10,b_⟩ ⟨rfl,bP,Pp⟩ Z8;refine rx T 1 (ar (_,_,_,_,_) [0,0,0] ⟨Z8,bP,Pp⟩ J J)
 refine rc T 12 ?_
 cases Z8;exact p1 T J [2,0] ⟨a9,n9,H9,s9,r9,J,J⟩ J
def lA.l0:Nat->aL->Int->List Int->Int->Option (Int×(List Int))
 |0,_,_,_,_=>none
 |k7+1,t,x4,x5,x6=>if x6<3 then((jz.f t x6).bind λv8=>(if(!List.isEmpty v8)=true then(if(List.isEmpty x5)=true then(some true) else(some (decide ((List.length v8:Int)<(List.length x5:Int))))) else(some false)).bind λx9=>if x9=true then(lA.l0 k7 t x6 v8 (aa (x6+1))) else(lA.l0 k7 t x4 x5 (aa (x6+1)))) else(some (x4,x5))
def lA.f (t:aL):Option (Int×(List Int)):=lA.l0 fuel t (-1) [] 0
def lA.R (r:(Int×(List Int))):bg:=λu G=> ∃a0 n0 H0,aj (Fl.int .u8) 5 r.2 a0 n0 H0/\(r.2=[]->a0=none)/\u=(.tuple #[(ii r.1),(ll a0 r.2 n0)])/\G=[H0]
theorem lA.c (H:lA.f t=some r) (dR:aP (Fl.int .u8) t.C iG F) (fw:List.length t.C<=iM):
 QR 282 [(.agg #[(ii t.W),(ii t.H),(ll iG t.C iM)])] [] [] F (lA.R r):=by
 unfold lA.f at H;refine aD Tryz.func282 J J (λW=>rc T 2 (nc T J (λb1=>ro T 17 (bq (lq [1] [0,0] (λ(⟨k7,x4,x5,x6,a3,n3,H3⟩:Nat×Int×List Int×Int×Option Addr×Nat×Hp)=>(lA.l0 k7 t x4 x5 x6=some r/\aj (Fl.int .u8) 5 x5 a3 n3 H3/\(x5=[]->a3=none),[(4,(ii x4)),(5,(ll a3 x5 n3)),(8,(ii x6))],[H3])) J J (fuel,(-1),[],0,none,0,[]) [0,0,0] ⟨H,aj.nil,(λ_=>rfl)⟩ J J ?_)))));rintro k7 ⟨x4,x5,x6,a3,n3,H3⟩ ⟨Z1,s3,r3⟩;rw[lA.l0] at Z1;refine rc T 6 (cd J Z1 (λZ1=>?_) (λZ1=>?_))
 ·refine rc T 12 (lm T 1 J (ro T 1 (kr jz.R [] [] J aeg Z1 (jz.c · (rO dR 0) fw) (λv8 Z1=>?_))));rintro _ _ ⟨a4,n4,H4,s4,r4,rfl,rfl⟩;refine fz J (ro T 3 (mq Z1 [1,4,5,6,7,8] [0,0,0,0] (λoo (x9:Bool)=>(x9=oo,[(26,(bb x9))],[])) J J (λoo Z4 _=>?_) ?_))
  ·refine rc T 2 (br J (acf T J J J J s4 r4) (ro T 1 (ab 16 J Z4 (λZ4=>?_) (λZ4=>?_))))
   ·refine ro T 1 (br J (ace T J J J J s3 r3) (ro T 1 (ab 19 J Z4 (λZ4=>?_) (λZ4=>?_))))
    ·refine ro T 9 (am _ [0,0,0,0] (oi Z4) J J)
    refine ro T 9 (am _ [0,0,0,0] (oi Z4) J J)
   refine ro T 12 (am _ [0,0,0,0] (oi Z4) J J)
  rintro _ x9 rfl Z1;refine cb J Z1 (λZ1=>?_) (λZ1=>?_)
  ·refine rc T 13 (ar (_,_,_,_,_,_) [0,0,1] ⟨Z1,s4,r4⟩ J J)
  refine rc T 8 (ar (_,_,_,_,_,_) [0,0,0] ⟨Z1,s3,r3⟩ J J)
 refine rc T 14 ?_
 cases Z1;exact p1 T J [2,0] ⟨a3,n3,H3,s3,r3,J,J⟩ J
def tG.f (t:aL):Option ((List Int)×Int):=(uh.f t).bind λv1=>if(!v1)=true then(some ([],1)) else((lA.f t).bind λv2=>some (v2.2,0))
def tG.R (r:((List Int)×Int)):bg:=λu G=> ∃a0 n0 H0,aj (Fl.int .u8) 5 r.1 a0 n0 H0/\u=(.tuple #[(ll a0 r.1 n0),(ii r.2)])/\G=[H0]
theorem tG.c (H:tG.f t=some r) (dR:aP (Fl.int .u8) t.C iG F) (fw:List.length t.C<=iM):
 QR 253 [(.agg #[(ii t.W),(ii t.H),(ll iG t.C iM)])] [] [] F (tG.R r):=by
 unfold tG.f at H;refine aD Tryz.func253 J J (λW=>rc T 2 (nc T J (λb1=>ro T 7 (lm T 1 J (k [] J J9 H (uh.c · (rO dR 0) fw) (λv1 H=>ro T 3 (cb J H (λH=>?_) (λH=>?_))))))))
 ·refine rc T 8 ?_
  cases H;refine bq (p1 T J [2,0] ⟨none,0,[],aj.nil,J,J⟩ J)
 refine rc T 4 (lm T 1 J (kr lA.R [] [] J aea H (lA.c · (rO dR 0) fw) (λv2 H=>?_)));rintro _ _ ⟨a3,n3,H3,s3,r3,rfl,rfl⟩;refine fz J (ro T 15 ?_)
 cases H;exact p1 T J [2,0] ⟨a3,n3,H3,s3,J,J⟩ J
def wk.f (ag:fb) (w:Int) (h:Int):Option (aL×Er×fb):=(tI.f ag (aa (w*h))).bind λv1=>(nX.f v1.1).bind λv2=>(if(Er.isNil v1.2.1)=true then((tG.f (aL.mk w h v2)).bind λv5=>if(0<=(0:Int)/\(0:Int)<=v1.2.2.ba/\v1.2.2.ba<=(List.length ag.b:Int)) then((D4.f v5.1 (aA ag.b 0 v1.2.2.ba)).bind λv6=>if(!v6)=true then(some (Er.eF 5)) else(some v1.2.1)) else none) else(some v1.2.1)).bind λx3=>if(Er.isNil x3)=true then(some ((aL.mk w h v2),Er.nil,(fb.mk ag.b v1.2.2.ba))) else((vF.f x3 (Er.eF 6)).bind λv7=>if v7=true then(some ((aL.mk 0 0 []),(Er.wrap 343 [v1.2.2.ba,2] x3),(fb.mk ag.b v1.2.2.ba))) else(some ((aL.mk 0 0 []),(Er.wrap 343 [v1.2.2.ba,3] x3),(fb.mk ag.b v1.2.2.ba))))
def wk.R (el:Nat->Addr) (aW:Nat) (y0:Value) (r:(aL×Er×fb)):bg:=λu G=> ∃(a0 n0 H0:_) (v1:Value) (H1:Hp),aj (Fl.int .u8) 5 r.1.C a0 n0 H0/\gp 414 el r.2.1 v1 H1/\u=(.tuple #[(.agg #[(ii r.1.W),(ii r.1.H),(ll a0 r.1.C n0)]),v1])/\G=[H0,H1,(cl aW 340 [y0,(ii r.2.2.ba)])]
theorem wk.c (H:wk.f ag w h=some r) (hG:fW 414 fp iw el F) (na:aP (Fl.int .u8) ag.b iq F) (kC:List.length ag.b<=hU):
 QR 230 [(pp aW),(ii w),(ii h)] [(cl aW 340 [(ll iq ag.b hU),(ii ag.ba)])] [] F (wk.R el aW (ll iq ag.b hU) r):=by
 unfold wk.f at H;refine aD Tryz.func230 J J (λW=>rc T 2 (nc T J (λb2=>ro T 9 (kr (tI.R el aW (ll iq ag.b hU) ag.b iq hU) [] [0] J adY H (tI.c · (dG hG (j:=0) J) (rO na 0) kC) (λv1 H=>?_)))));rintro _ _ ⟨a3,n3,H3,v4,H4,s3,s4,rfl,rfl⟩;refine fz J (ro T 12 (kr nX.R [] [] J Ny H (nX.c · (aay s3 (j:=2) J (rO na 0) kC) s3.bT) (λv2 H=>?_)));rintro _ _ ⟨a5,n5,H5,s5,rfl,rfl⟩;refine fz J (ro T 1 (nc T J (λb6=>sg T 6 J (ro T 1 (ke [0,6,9,10] [0,0,1,1,1,1] J J (rx T 1 (mq H [0,6,10] [0,2,0,2,1] (λz4 (⟨x3,DG,H7⟩:Er×Value×Hp)=>(x3=z4/\gp 414 el x3 DG H7,[(9,DG)],[H7])) J J (λz4 Z3 _=>?_) ?_)))))))
 ·refine rc T 3 (br J (JO T J J J (rP s4 (j:=2) J)) (ro T 2 (cb J Z3 (λZ3=>?_) (λZ3=>?_))))
  ·refine rc T 2 (lm T 5 J (kr tG.R [] [] J adZ Z3 (tG.c (t:=(aL.mk w h v2)) · (oO s5 4) s5.bT) (λv5 Z3=>?_)));rintro _ _ ⟨a8,n8,H8,s8,rfl,rfl⟩;refine fz J (ro T 8 (dx mix ay ?_))
   iterate 4 refine au T J ?_
   refine aO J J J (aw T J J J J (aK (j:=3) J J)) (au T J (au T J (au T J (aO J J J (aw T J J J J (aK (j:=3) J J)) ?_))));obtain⟨c6,Z3⟩:=az Z3;refine aO J J J (kE T J J J J J J c6 kC) ?_;obtain⟨v6,V7,Z3⟩:=gu Z3;refine uy J J J J J J ad0 J (D4.c V7 (oO s8 6) s8.bT (nj (rO na 0) c6 kC) (mO c6 kC)) (au T J (dh (rx T 1 (cb J Z3 (λZ3=>?_) (λZ3=>?_)))))
   ·refine rc T 1 (lg T J (rY (j:=0) J hG (g:=5) (by decide)) (ro T 3 (bq (am (_,_,_) [0,2,0,2,1,2] ⟨oi Z3,oB⟩ J J))))
   refine rc T 2 (am (_,_,_) [0,2,0,2,1,0] ⟨oi Z3,s4⟩ J J)
  refine rc T 2 (am (_,_,_) [0,2,0,2,1,0] ⟨oi Z3,s4⟩ J J)
 rintro _ ⟨x3,DG,H7⟩ ⟨rfl,s7⟩ H;refine rc T 4 (br J (JO T J J J (rP s7 (j:=5) J)) (ro T 2 (cb J H (λH=>?_) (λH=>?_))))
 ·refine rc T 2 (lm T 3 J (sg T 2 J (ro T 5 ?_)))
  cases H;refine bq (pb T J (.cQ (j:=2) [(ii w),(ii h),(ll a5 v2 n5)] J J J J J J J (.tmp J .nil)) [4,5,1,0] ⟨(_,_),a5,n5,H5,.nilIface,[],s5,uG,J,J⟩ J J)
 refine rc T 7 (lf T 1 J (ro T 1 (br J (Ss (vs:=[(0,(ii v1.2.2.ba)),(1,(ii 3)),(2,DG)]) T [(0,[(ii v1.2.2.ba)]),(1,[(ii 3)]),(2,[DG])] J J J J J (by simp only[List.map,R_ s7];rfl) J) ?_)))
 refine nc T J (λgd=>ro T 7 (lg T J (rY (j:=0) J hG (g:=6) (by decide)) (k [] J Kc H (vF.c x3 (Er.eF 6) _ _ · (dG hG (j:=0) J) (rP s7 (j:=5) J) JC) (λv7 H=>ro T 2 (cb J H (λH=>?_) (λH=>?_))))))
 ·refine rc T 4 (sg T 6 J (ro T 6 (f_ [6,5] J (br J (iu T J J J J) (sg T 2 J (ro T 2 (ke [6,7] [0,0,0,2] J J (rx T 2 ?_))))))))
  cases H;refine bq (pb T J (.cQ (j:=2) [(ii 0),(ii 0),nl] J J J J J J J (.tmp J .nil)) [4,3,1,0] ⟨(_,_),none,0,[],(.iface 343 (pp gd)),(List.flatten [(cl gd 346 [(ii v1.2.2.ba),(ii 2),DG]),H7]),aj.nil,(p9 s7),J,J⟩ J J)
 refine rc T 6 (f_ [6,5] J (br J (iu T J J J J) (sg T 2 J (ro T 4 ?_))))
 cases H;refine bq (pb T J (.cQ (j:=2) [(ii 0),(ii 0),nl] J J J J J J J (.tmp J .nil)) [6,5,1,0] ⟨(_,_),none,0,[],(.iface 343 (pp gd)),(List.flatten [(cl gd 346 [(ii v1.2.2.ba),(ii 3),DG]),H7]),aj.nil,(p9 s7),J,J⟩ J J)
def q_.f (b:(List Int)) (w:Int) (h:Int):Option (aL×Int×Int):=if((((decide (w<1))||(decide (w>16)))||(decide (h<1)))||(decide (h>16)))=true then(some ((aL.mk 0 0 []),0,1)) else((wk.f (fb.mk b 0) w h).bind λv1=>(Er.FU 343 v1.2.1).bind λv2=>cT v2 (some (v1.1,v1.2.2.ba,0)) (λsB=>some ((aL.mk 0 0 []),0,sB.2.1)))
def q_.R (el:Nat->Addr) (r:(aL×Int×Int)):bg:=λu G=> ∃a0 n0 H0,aj (Fl.int .u8) 5 r.1.C a0 n0 H0/\u=(.tuple #[(.agg #[(ii r.1.W),(ii r.1.H),(ll a0 r.1.C n0)]),(ii r.2.1),(ii r.2.2)])/\G=[H0]
theorem q_.c (H:q_.f b w h=some r) (hG:fW 414 fp iw el F) (fh:aP (Fl.int .u8) b gY F) (fJ:List.length b<=gP):
 QR 192 [(ll gY b gP),(ii w),(ii h)] [] [] F (q_.R el r):=by
 unfold q_.f at H;refine aD Tryz.func192 J J (λW=>rc T 2 (nc T J (λb1=>ro T 10 (go T [3,4,5] 14 [0,1,2,6] 17 J J J J J J J (ro T 1 (go T [7,8,9] 18 [0,1,2,6] 21 J J J J J J J (ro T 1 (go T [11,12,13] 22 [0,1,2,6] 25 J J J J J J J (ro T 2 (cb J H (λH=>?_) (λH=>?_)))))))))))
 ·refine rc T 3 (sg T 1 J (ro T 6 ?_))
  cases H;refine bq (pb T J (.cQ (j:=1) [(ii 0),(ii 0),nl] J J J J J J J (.tmp J (.tmp J .nil))) [2,0] ⟨(_,_),none,0,[],aj.nil,J,J⟩ J J)
 refine rc T 6 (nc T J (λb3=>ro T 8 (kr (wk.R el b3 (ll gY b gP)) [] [2] J adJ H (wk.c (ag:=(fb.mk b 0)) · (dG hG (j:=0) J) (rO fh 0) fJ) (λv1 H=>?_))));rintro _ _ ⟨a4,n4,H4,v5,H5,s4,s5,rfl,rfl⟩;refine fz J (ro T 3 (sg T 1 J (ro T 2 (ks [6,9,10] J (rx T 4 (nc T J (λb6=>sg T 5 J (ro T 5 (br J (iu T J J J J) ?_)))))))));obtain⟨v2,V3,H⟩:=gu H;rcases v2 with _ |sB
 ·replace H:=eW J H;obtain⟨M5,MV⟩:=Zf V3 s5;subst M5;subst MV;refine aX (sO (As:=[(cl b6 343 [(.pointer none)])]) (R:=[F,(cl b1 139 [(ii v1.1.W),(ii v1.1.H),(ll a4 v1.1.C n4)]),H4,[],(cl b3 340 [(ll gY b gP),(ii v1.2.2.ba)])]) (B:=λ_=>[(cl b6 343 [(.pointer none)])]) [5] J J J J Ke J J (M1.n _ (dG hG (j:=0) J)) (λ_=>ro T 2 (eT J (rc T 3 (ke [6,9] [0,0,0,1] J J (fz J (rz [] mix (bO bN) (λhg pf=>av 0 sz hg pf J (gA T 1 J J J J J J J) (ha T 4 [1,2,3] sz hg pf J (av 4 sz hg pf J (aw T J J J J (aK (j:=3) J J)) (ao 5 (sf T 1 J (an sz (ha T 0 [6,7] sz hg pf J (ae (rx T 2 ?_))))))))))))))))
  cases H;exact pb T J (.cQ (j:=1) [(ii v1.1.W),(ii v1.1.H),(ll a4 v1.1.C n4)] J J J J J J J (.tmp J (.tmp J .nil))) [2,0] ⟨(_,_),a4,n4,H4,s4,J,J⟩ J J
 replace H:=eX J H;obtain⟨b7,v8_,YA,H8,M5,MV,s8⟩:=Zg V3 s5;subst M5;subst MV;refine Jo (j:=3) J (aX (sO (As:=[(cl b6 343 [(.pointer none)])]) (R:=[F,(cl b1 139 [(ii v1.1.W),(ii v1.1.H),(ll a4 v1.1.C n4)]),H4,[(b7,Obj.cells #[(ii sB.1),(ii sB.2.1),v8_] YA (0,0))],(cl b3 340 [(ll gY b gP),(ii v1.2.2.ba)]),H8]) (B:=λ_=>[(cl b6 343 [(pp b7)])]) [5] J J J J Ke J J (M1.s _ _ (dG hG (j:=0) J)) (λ_=>ro T 2 (mu J (rc T 1 (ke [6,11] [0,0,0,0,1,1] J J (fz J (rg [] [0,1,1,1,1] mix (bO bN) (λhg pf=>ha T 7 [0] (so [0,1,1,1,1]) hg pf J (av 1 (so [0,1,1,1,1]) hg pf J (aw T J J J J (aK (j:=4) J J)) (ha T 4 [2,3] (so [0,1,1,1,1]) hg pf J (av 4 (so [0,1,1,1,1]) hg pf J (aw T J J J J (aK (j:=2) J J)) (ao 5 (sf T 1 J (an (so [0,1,1,1,1]) (ha T 1 [6] (so [0,1,1,1,1]) hg pf J (ha T 0 [7] (so [0,1,1,1,1]) hg pf J (ae (rx T 3 ?_)))))))))))))))))))
 cases H;refine bq (pb T J (.cQ (j:=1) [(ii 0),(ii 0),nl] J J J J J J J (.tmp J (.tmp J .nil))) [6,0] ⟨(_,_),none,0,[],aj.nil,J,J⟩ J J)
end
noncomputable section
def og.f (w:Int) (h:Int):Option Bool:=some ((((decide (w≥1))&&(decide (w<=1024)))&&(decide (h≥1)))&&(decide (h<=1024)))
theorem og.c (H:og.f w h=some r):
 QU 96 [(ii w),(ii h)] [] F (bb r):=by
 unfold og.f at H;refine aD Tryz.func96 J J (λW=>rc T 10 (ga T [3,4,5] 7 [1] 10 J J J J J J J (ro T 1 (ga T [7,8,9] 11 [1] 14 J J J J J J J (ro T 1 (ga T [11,12,13] 15 [] 18 J J J J J J J (ro T 4 ?_)))))))
 cases H;exact p0 T J [0] J
def qA.f (w:Int) (h:Int):Option (Int×Int):=(og.f w h).bind λv1=>if(!v1)=true then(some (0,0)) else(some ((aa (Int.tdiv (aa ((aa (w+16))-1)) 16)),(aa (Int.tdiv (aa ((aa (h+16))-1)) 16))))
theorem qA.c (H:qA.f w h=some r):
 QU 59 [(ii w),(ii h)] [] F (.tuple #[(ii r.1),(ii r.2)]):=by
 unfold qA.f at H;refine aD Tryz.func59 J J (λW=>rc T 11 (k [] J Cr H (og.c ·) (λv1 H=>ro T 3 (cb J H (λH=>?_) (λH=>?_)))))
 ·refine rc T 8 ?_
  cases H;exact p0 T J [0] J
 refine rc T 17 ?_
 cases H;exact p0 T J [0] J
def zZ.f (w:Int) (h:Int) (bI:Int):Option (Int×Int×Bool):=(qA.f w h).bind λv1=>if((decide (bI<0))||(decide (bI≥(aa (v1.1*v1.2)))))=true then(some (0,0,false)) else(if(¬v1.1=0) then(if(¬v1.1=0) then(some ((aa ((Int.tmod bI v1.1)*16)),(aa ((aa (Int.tdiv bI v1.1))*16)),true)) else none) else none)
theorem zZ.c (H:zZ.f w h bI=some r):
 QU 201 [(ii w),(ii h),(ii bI)] [] F (.tuple #[(ii r.1),(ii r.2.1),(bb r.2.2)]):=by
 unfold zZ.f at H;refine aD Tryz.func201 J J (λW=>rc T 11 (k [] J Gy H (qA.c ·) (λv1 H=>ro T 13 (go T [3,4,5,6,7,8] 19 [2,9] 25 J J J J J J J (ro T 2 (cb J H (λH=>?_) (λH=>?_)))))))
 ·refine rc T 9 ?_
  cases H;exact p0 T J [0] J
 refine rc T 3 (dx mix ay (au T J (au T J ?_)));obtain⟨c3,H⟩:=az H;refine aO J J J (vK J J J c3) (au T J (au T J (au T J ?_)));obtain⟨c4,H⟩:=az H;refine aO J J J (vJ J J J c4) ?_
 iterate 4 refine au T J ?_
 refine dh (rx T 2 ?_)
 cases H;exact p0 T J [0] J
def rA.f (w:Int) (h:Int) (bI:Int):Option (Int×Int):=(zZ.f w h bI).bind λv1=>if(!v1.2.2)=true then(some (0,0)) else(some ((if(aa (w-v1.1))<16 then(aa (w-v1.1)) else 16),(if(aa (h-v1.2.1))<16 then(aa (h-v1.2.1)) else 16)))
theorem rA.c (H:rA.f w h bI=some r):
 QU 172 [(ii w),(ii h),(ii bI)] [] F (.tuple #[(ii r.1),(ii r.2)]):=by
 unfold rA.f at H;refine aD Tryz.func172 J J (λW=>rc T 11 (k [] J TA H (zZ.c ·) (λv1 H=>ro T 16 (cb J H (λH=>?_) (λH=>?_)))))
 ·refine rc T 8 ?_
  cases H;exact p0 T J [0] J
 refine rc T 17 ?_
 cases H;exact p0 T J [0] J
def zY.f (w:Int) (h:Int) (x:Int) (y:Int):Option Int:=(og.f w h).bind λv1=>if(((((!v1)||(decide (x<0)))||(decide (x≥w)))||(decide (y<0)))||(decide (y≥h)))=true then(some (-1)) else(some (aa ((aa (y*w))+x)))
theorem zY.c (H:zY.f w h x y=some r):
 QU 202 [(ii w),(ii h),(ii x),(ii y)] [] F (ii r):=by
 unfold zY.f at H;refine aD Tryz.func202 J J (λW=>rc T 10 (k [] J Cr H (og.c ·) (λv1 H=>ro T 2 (go T [5,6,7] 13 [0,1,2,3] 16 J J J J J J J (ro T 1 (go T [9,10,11,12] 17 [0,1,2,3] 21 J J J J J J J (ro T 1 (go T [14,15,16] 22 [0,1,2,3] 25 J J J J J J J (ro T 1 (go T [18,19,20,21] 26 [0,2,3] 30 J J J J J J J (ro T 2 (cb J H (λH=>?_) (λH=>?_)))))))))))))
 ·refine rc T 7 ?_
  cases H;exact p0 T J [0] J
 refine rc T 13 ?_
 cases H;exact p0 T J [0] J
def um.f (w:Int) (h:Int) (bI:Int) (p3:Int):Option Int:=(zZ.f w h bI).bind λv1=>(rA.f w h bI).bind λv2=>if(((!v1.2.2)||(decide (p3<0)))||(decide (p3≥(aa (v2.1*v2.2)))))=true then(some (-1)) else(if(¬v2.1=0) then(if(¬v2.1=0) then((zY.f w h (aa (v1.1+(Int.tmod p3 v2.1))) (aa (v1.2.1+(aa (Int.tdiv p3 v2.1))))).bind λv3=>some v3) else none) else none)
theorem um.c (H:um.f w h bI p3=some r):
 QU 173 [(ii w),(ii h),(ii bI),(ii p3)] [] F (ii r):=by
 unfold um.f at H;refine aD Tryz.func173 J J (λW=>rc T 10 (k [] J TA H (zZ.c ·) (λv1 H=>ro T 14 (k [] J Gv H (rA.c ·) (λv2 H=>ro T 13 (go T [3,4,5] 31 [0,1,3,9,10,12,13] 34 J J J J J J J (ro T 1 (go T [7,8,9,10,11,12] 35 [0,1,3,9,10,12] 41 J J J J J J J (ro T 2 (cb J H (λH=>?_) (λH=>?_)))))))))))
 ·refine rc T 7 ?_
  cases H;exact p0 T J [0] J
 refine rc T 3 (dx mix ay ?_)
 iterate 5 refine au T J ?_
 obtain⟨c4,H⟩:=az H;refine aO J J J (vK J J J c4) ?_
 iterate 4 refine au T J ?_
 obtain⟨c5,H⟩:=az H;refine aO J J J (vJ J J J c5) (au T J ?_);obtain⟨v3,V6,H⟩:=gu H;refine uy J J J J J J TB J (zY.c V6) (au T J (dh (rx T 2 ?_)))
 cases H;exact p0 T J [0] J
def wS.f (w:Int) (h:Int) (cell:Int):Option Bool:=(og.f w h).bind λv1=>some ((v1&&(decide (cell≥0)))&&(decide (cell<(aa (w*h)))))
theorem wS.c (H:wS.f w h cell=some r):
 QU 95 [(ii w),(ii h),(ii cell)] [] F (bb r):=by
 unfold wS.f at H;refine aD Tryz.func95 J J (λW=>rc T 9 (k [] J Cr H (og.c ·) (λv1 H=>ro T 1 (ga T [4,5,6] 10 [0,1,2] 13 J J J J J J J (ro T 1 (ga T [8,9,10,11,12,13] 14 [] 20 J J J J J J J (ro T 4 ?_)))))))
 cases H;exact p0 T J [0] J
def wR.f (w:Int) (h:Int) (cell:Int):Option (Int×Int):=(wS.f w h cell).bind λv1=>if(!v1)=true then(some ((-1),(-1))) else(if(¬w=0) then(if(¬w=0) then(some ((Int.tmod cell w),(aa (Int.tdiv cell w)))) else none) else none)
theorem wR.c (H:wR.f w h cell=some r):
 QU 58 [(ii w),(ii h),(ii cell)] [] F (.tuple #[(ii r.1),(ii r.2)]):=by
 unfold wR.f at H;refine aD Tryz.func58 J J (λW=>rc T 12 (k [] J NW H (wS.c ·) (λv1 H=>ro T 3 (cb J H (λH=>?_) (λH=>?_)))))
 ·refine rc T 8 ?_
  cases H;exact p0 T J [0] J
 refine rc T 3 (dx mix ay (au T J (au T J ?_)));obtain⟨c3,H⟩:=az H;refine aO J J J (vK J J J c3) (au T J (au T J ?_));obtain⟨c4,H⟩:=az H;refine aO J J J (vJ J J J c4) (au T J (au T J (dh (rx T 2 ?_))))
 cases H;exact p0 T J [0] J
def gR.f (w:Int) (h:Int) (cell:Int):Option Int:=(wR.f w h cell).bind λv1=>if v1.1<0 then(some (-1)) else((qA.f w h).bind λv2=>some (aa ((aa ((aa (Int.tdiv v1.2 16))*v2.1))+(aa (Int.tdiv v1.1 16)))))
theorem gR.c (H:gR.f w h cell=some r):
 QU 26 [(ii w),(ii h),(ii cell)] [] F (ii r):=by
 unfold gR.f at H;refine aD Tryz.func26 J J (λW=>rc T 10 (k [] J NU H (wR.c ·) (λv1 H=>ro T 14 (cd J H (λH=>?_) (λH=>?_)))))
 ·refine rc T 7 ?_
  cases H;exact p0 T J [0] J
 refine rc T 6 (k [] J Gy H (qA.c ·) (λv2 H=>ro T 20 ?_))
 cases H;exact p0 T J [0] J
def mj.f (w:Int) (h:Int) (cell:Int) (side:Int):Option Int:=(wR.f w h cell).bind λv1=>if v1.1<0 then(some (-1)) else((if(side==0)=true then(some (Sum.inr (v1.1,(aa (v1.2+(-1)))))) else(if(side==2)=true then(some (Sum.inr (v1.1,(aa (v1.2+1))))) else(if(side==3)=true then(some (Sum.inr ((aa (v1.1+(-1))),v1.2))) else(if(side==1)=true then(some (Sum.inr ((aa (v1.1+1)),v1.2))) else(if(side==4)=true then(some (Sum.inr (v1.1,v1.2))) else(some (Sum.inl (-1)))))))).bind λzz=>match zz with |Sum.inl q=>some q |Sum.inr (x2,x3)=>(zY.f w h x2 x3).bind λv5=>some v5)
theorem mj.c (H:mj.f w h cell side=some r):
 QU 207 [(ii w),(ii h),(ii cell),(ii side)] [] F (ii r):=by
 unfold mj.f at H;refine aD Tryz.func207 J J (λW=>rc T 10 (k [] J NU H (wR.c ·) (λv1 H=>ro T 14 (cd J H (λH=>?_) (λH=>?_)))))
 ·refine rc T 7 ?_
  cases H;exact p0 T J [0] J
 refine rc T 7 (mq H [0,1] [0] (λz4 (⟨x2,x3⟩:Int×Int)=>((Sum.inr (x2,x3))=z4,[(9,(ii x2)),(10,(ii x3))],[])) J J (λz4 Z3 H=>?_) ?_)
 ·refine rc T 26 (cb J Z3 (λZ3=>?_) (λZ3=>?_))
  ·refine rc T 29 (am (_,_) [0] (oi Z3) J J)
  refine rc T 9 (cb J Z3 (λZ3=>?_) (λZ3=>?_))
  ·refine rc T 26 (am (_,_) [0] (oi Z3) J J)
  refine rc T 9 (cb J Z3 (λZ3=>?_) (λZ3=>?_))
  ·refine rc T 29 (am (_,_) [0] (oi Z3) J J)
  refine rc T 9 (cb J Z3 (λZ3=>?_) (λZ3=>?_))
  ·refine rc T 26 (am (_,_) [0] (oi Z3) J J)
  refine rc T 8 (cb J Z3 (λZ3=>?_) (λZ3=>?_))
  ·refine rc T 17 (am (_,_) [0] (oi Z3) J J)
  refine rc T 25 ?_;obtain rfl:=Option.some.inj Z3;obtain rfl:=Option.some.inj (show some (-1)=some r from H)
  exact p0 T J [0] J
 rintro _ ⟨x2,x3⟩ rfl H;refine rc T 6 (k [] J TB H (zY.c ·) (λv5 H=>ro T 4 ?_))
 cases H;exact p0 T J [0] J
def ry.f (w:Int) (h:Int) (cell:Int):Option Int:=(wR.f w h cell).bind λv1=>if v1.1<0 then(some (-1)) else((gR.f w h cell).bind λv2=>(rA.f w h v2).bind λv3=>some (aa ((aa ((Int.tmod v1.2 16)*v3.1))+(Int.tmod v1.1 16))))
theorem ry.c (H:ry.f w h cell=some r):
 QU 165 [(ii w),(ii h),(ii cell)] [] F (ii r):=by
 unfold ry.f at H;refine aD Tryz.func165 J J (λW=>rc T 10 (k [] J NU H (wR.c ·) (λv1 H=>ro T 14 (cd J H (λH=>?_) (λH=>?_)))))
 ·refine rc T 7 ?_
  cases H;exact p0 T J [0] J
 refine rc T 9 (k [] J rU H (gR.c ·) (λv2 H=>k [] J Gv H (rA.c ·) (λv3 H=>ro T 20 ?_)))
 cases H;exact p0 T J [0] J
def qB.l0:Nat->Int->Int->Int->Int->Int->Option Int
 |0,_,_,_,_,_=>none
 |k7+1,w,h,a,b,x6=>if x6<=4 then((mj.f w h a x6).bind λv8=>if(v8==b)=true then(some x6) else(qB.l0 k7 w h a b (aa (x6+1)))) else(some 5)
def qB.f (w:Int) (h:Int) (a:Int) (b:Int):Option Int:=((wS.f w h a).bind λv3=>if(!v3)=true then(some true) else((wS.f w h b).bind λv4=>some (!v4))).bind λx1=>if x1=true then(some 5) else(qB.l0 fuel w h a b 0)
theorem qB.c (H:qB.f w h a b=some r):
 QU 178 [(ii w),(ii h),(ii a),(ii b)] [] F (ii r):=by
 unfold qB.f at H;refine aD Tryz.func178 J J (λW=>rc T 6 (mq H [0,1,2,3] [0] (λz2 (x1:Bool)=>(x1=z2,[(21,(bb x1))],[])) J J (λz2 Z1 _=>?_) ?_))
 ·refine rc T 4 (k [] J NW Z1 (wS.c ·) (λv3 Z1=>ro T 2 (ab 15 J Z1 (λZ1=>?_) (λZ1=>?_))))
  ·refine ro T 8 (am _ [0] (oi Z1) J J)
  refine ro T 3 (k [] J NW Z1 (wS.c ·) (λv4 Z1=>ro T 4 (am _ [0] (oi Z1) J J)))
 rintro _ x1 rfl H;refine cb J H (λH=>?_) (λH=>?_)
 ·refine rc T 7 ?_
  cases H;exact p0 T J [0] J
 refine rc T 9 (lq [0,1,2,3] [0] (λ(⟨k7,x6⟩:Nat×Int)=>(qB.l0 k7 w h a b x6=some r,[(9,(ii x6))],[])) J J (fuel,0) [0] H J J ?_);rintro k7 x6 Z6;replace Z6:qB.l0 (k7+1) w h a b x6=some r:=Z6;rw[qB.l0] at Z6;refine rc T 7 (cd J Z6 (λZ6=>?_) (λZ6=>?_))
 ·refine rc T 10 (k [] J AN Z6 (mj.c ·) (λv8 Z6=>ro T 4 (cb J Z6 (λZ6=>?_) (λZ6=>?_))))
  ·refine rc T 12 ?_
   cases Z6;exact p0 T J [0] J
  refine rc T 9 (ar _ [0] Z6 J J)
 refine rc T 11 ?_
 cases Z6;exact p0 T J [0] J
end
noncomputable section
def B8.f (w:Int) (h:Int):Option Int:=(qA.f w h).bind λv1=>some (aa (v1.1*v1.2))
theorem B8.c (H:B8.f w h=some r):
 QU 191 [(ii w),(ii h)] [] F (ii r):=by
 unfold B8.f at H;refine aD Tryz.func191 J J (λW=>rc T 9 (k [] J Gy H (qA.c ·) (λv1 H=>ro T 16 ?_)))
 cases H;exact p0 T J [0] J
def ox.l0:Nat->aL->aL->Int->List Int->Int->Option (List Int)
 |0,_,_,_,_,_=>none
 |k6+1,m,t,v1,x4,x5=>if x5<t.H then(if(0<=(aa (v1+(aa (x5*m.W))))/\(aa (v1+(aa (x5*m.W))))<=(List.length x4:Int)/\(List.length x4:Int)<=(List.length x4:Int)) then(if(0<=(aa (x5*t.W))/\(aa (x5*t.W))<=(aa ((aa (x5+1))*t.W))/\(aa ((aa (x5+1))*t.W))<=(List.length t.C:Int)) then(ox.l0 k6 m t v1 (cm x4 (Int.toNat (aa (v1+(aa (x5*m.W))))) (min (List.length (aA t.C (aa (x5*t.W)) (aa ((aa (x5+1))*t.W)))) (List.length (aA x4 (aa (v1+(aa (x5*m.W)))) (List.length x4:Int)))) (aA t.C (aa (x5*t.W)) (aa ((aa (x5+1))*t.W)))) (aa (x5+1))) else none) else none) else(some x4)
def ox.f (m:aL) (bI:Int) (t:aL):Option (List Int):=(um.f m.W m.H bI 0).bind λv1=>ox.l0 fuel m t v1 m.C 0
def ox.R (ajW:Option Addr) (aj3:Nat) (aj1:Nat) (r:(List Int)):bg:=λu G=> ∃(H0:Hp),aj (Fl.int .u8) 5 r ajW aj3 H0/\List.length r=aj1/\u=(.tuple #[])/\G=[H0]
theorem ox.c (H:ox.f m bI t=some r) (aiC:aj (Fl.int .u8) 5 m.C pa oK Qk) (dR:aP (Fl.int .u8) t.C iG F) (fw:List.length t.C<=iM):
 QR 193 [(.agg #[(ii m.W),(ii m.H),(ll pa m.C oK)]),(ii bI),(.agg #[(ii t.W),(ii t.H),(ll iG t.C iM)])] [Qk] [] F (ox.R pa oK (List.length m.C) r):=by
 unfold ox.f at H;refine aD Tryz.func193 J J (λW=>rc T 2 (nc T J (λb2=>nc T J (λb3=>ro T 5 (lf T 2 J (ro T 1 (lf T 2 J (ro T 1 (k [] J J3 H (um.c ·) (λv1 H=>ro T 6 (lf T 3 J (ro T 4 (lq [3,5,6,15] [1,2] (λ(⟨k6,x4,x5,H5⟩:Nat×List Int×Int×Hp)=>(ox.l0 k6 m t v1 x4 x5=some r/\aj (Fl.int .u8) 5 x4 pa oK H5/\List.length x4=List.length m.C,[(16,(ii x5))],[(cl b2 30 [(ii m.W),(ii m.H),(ll pa x4 oK)]),H5])) J J (fuel,m.C,0,Qk) [1,2,1,0] ⟨H,aiC,J⟩ J J ?_)))))))))))));rintro k6 ⟨x4,x5,H5⟩ ⟨Z2,s5,l5⟩;rw[ox.l0] at Z2;refine rc T 6 (cd J Z2 (λZ2=>?_) (λZ2=>?_))
 ·refine rc T 10 (fz J (rz [21] mix (bO bN) (λhg pf=>ha T 21 [0] sz hg pf J (av 1 sz hg pf J (aw T J J J J (aK (j:=2) J J)) (ha T 17 [2,3,4] sz hg pf J (av 5 sz hg pf J (aw T J J J J (aK (j:=2) J J)) (ha T 14 [6,7] sz hg pf J ?_)))))));obtain⟨c4,Z2⟩:=az Z2;refine av 8 sz hg pf J (kE T J J J J J J c4 s5.bT) (ha T 12 [9] sz hg pf J (av 10 sz hg pf J (aw T J J J J (aK (j:=1) J J)) (ha T 9 [11,12] sz hg pf J (av 13 sz hg pf J (aw T J J J J (aK (j:=1) J J)) (ha T 4 [14,15,16,17] sz hg pf J (av 18 sz hg pf J (aw T J J J J (aK (j:=1) J J)) (ha T 2 [19] sz hg pf J ?_)))))));obtain⟨c5,Z2⟩:=az Z2;refine av 20 sz hg pf J (kE T J J J J J J c5 fw) (ao 21 ?_);have L6:(Int.toNat (aa (v1+(aa (x5*m.W)))))+(List.length (aA x4 (aa (v1+(aa (x5*m.W)))) (List.length x4:Int)))<=List.length x4:=(It c4);refine B5 (k:=(Fl.int .u8)) (xs:=x4) (ys:=(aA t.C (aa (x5*t.W)) (aa ((aa (x5+1))*t.W)))) (lo:=(Int.toNat (aa (v1+(aa (x5*m.W)))))) (g:=3) T J J J J J J J J s5 (nj (rO dR 0) c5 fw) (.inr J) L6 (λH6 s6=>?_);have V7:(0<=(aa (v1+(aa (x5*m.W))))/\(aa (v1+(aa (x5*m.W))))<=(List.length x4:Int)/\(List.length x4:Int)<=(List.length (cm x4 (Int.toNat (aa (v1+(aa (x5*m.W))))) (min (List.length (aA t.C (aa (x5*t.W)) (aa ((aa (x5+1))*t.W)))) (List.length (aA x4 (aa (v1+(aa (x5*m.W)))) (List.length x4:Int)))) (aA t.C (aa (x5*t.W)) (aa ((aa (x5+1))*t.W)))):Int)):=by simp only[l8 L6];exact c4
  refine kg [3,5,6,7,15,16,19,21,22,23,24,25,26,28,29,30,31,32,33,34,35,36,37,38,39,40] [0,0,1] [0,0,1,0] [(20,(ll pa (cm x4 (Int.toNat (aa (v1+(aa (x5*m.W))))) (min (List.length (aA t.C (aa (x5*t.W)) (aa ((aa (x5+1))*t.W)))) (List.length (aA x4 (aa (v1+(aa (x5*m.W)))) (List.length x4:Int)))) (aA t.C (aa (x5*t.W)) (aa ((aa (x5+1))*t.W)))) oK)),(27,(ll (gm pa oK (Int.toNat (aa (v1+(aa (x5*m.W))))) 1) (aA (cm x4 (Int.toNat (aa (v1+(aa (x5*m.W))))) (min (List.length (aA t.C (aa (x5*t.W)) (aa ((aa (x5+1))*t.W)))) (List.length (aA x4 (aa (v1+(aa (x5*m.W)))) (List.length x4:Int)))) (aA t.C (aa (x5*t.W)) (aa ((aa (x5+1))*t.W)))) (aa (v1+(aa (x5*m.W)))) (List.length x4:Int)) (oK-Int.toNat (aa (v1+(aa (x5*m.W)))))))] [(cl b2 30 [(ii m.W),(ii m.H),(ll pa (cm x4 (Int.toNat (aa (v1+(aa (x5*m.W))))) (min (List.length (aA t.C (aa (x5*t.W)) (aa ((aa (x5+1))*t.W)))) (List.length (aA x4 (aa (v1+(aa (x5*m.W)))) (List.length x4:Int)))) (aA t.C (aa (x5*t.W)) (aa ((aa (x5+1))*t.W)))) oK)])] J J ⟨(by first |rfl |(simp only[ll,l8 L6];rfl)),(by simp only[ll];rw[i_ V7,<-i_ c4];rfl),trivial⟩ (by first |rfl |(simp only[ll,l8 L6];rfl)) (an sl (ae (rx T 7 ?_)))
  exact ar (_,_,_) [0,0,1,0] ⟨Z2,s6,(Eq.trans (l8 L6) l5)⟩ J J
 refine rc T 4 (jq ?_)
 cases Z2;exact p1 T J [3,0] ⟨H5,s5,l5,J,J⟩ J
def pe.l0:Nat->(List Int)->Int->List Int->List Int->Int->Option (aL×Er)
 |0,_,_,_,_,_=>none
 |k9+1,b,v2,x6,x7,x8=>if x8<v2 then((rA.f (aa (BitVec.toNat (BitVec.ofInt (IntKind.bits .i64) (aa (rd b 0))|||BitVec.ofInt (IntKind.bits .i64) (aa ((aa (rd b 1))*2^8))))) (aa (BitVec.toNat (BitVec.ofInt (IntKind.bits .i64) (aa (rd b 2))|||BitVec.ofInt (IntKind.bits .i64) (aa ((aa (rd b 3))*2^8))))) x8).bind λv10=>(q_.f x6 v10.1 v10.2).bind λv11=>if(v11.2.2 !=0)=true then(some ((aL.mk 0 0 []),(Er.wrap 301 [x8] (Er.num 243 v11.2.2)))) else((ox.f (aL.mk (aa (BitVec.toNat (BitVec.ofInt (IntKind.bits .i64) (aa (rd b 0))|||BitVec.ofInt (IntKind.bits .i64) (aa ((aa (rd b 1))*2^8))))) (aa (BitVec.toNat (BitVec.ofInt (IntKind.bits .i64) (aa (rd b 2))|||BitVec.ofInt (IntKind.bits .i64) (aa ((aa (rd b 3))*2^8))))) x7) x8 v11.1).bind λv12=>if(0<=v11.2.1/\v11.2.1<=(List.length x6:Int)/\(List.length x6:Int)<=(List.length x6:Int)) then(pe.l0 k9 b v2 (aA x6 v11.2.1 (List.length x6:Int)) v12 (aa (x8+1))) else none)) else(if(List.length x6:Int)>0 then(some ((aL.mk 0 0 []),(Er.num 243 3))) else(some ((aL.mk (aa (BitVec.toNat (BitVec.ofInt (IntKind.bits .i64) (aa (rd b 0))|||BitVec.ofInt (IntKind.bits .i64) (aa ((aa (rd b 1))*2^8))))) (aa (BitVec.toNat (BitVec.ofInt (IntKind.bits .i64) (aa (rd b 2))|||BitVec.ofInt (IntKind.bits .i64) (aa ((aa (rd b 3))*2^8))))) x7),Er.nil)))
def pe.f (b:(List Int)):Option (aL×Er):=if(List.length b:Int)<4 then(some ((aL.mk 0 0 []),(Er.num 243 2))) else(if(0<=(0:Int)/\(0:Int)<(List.length b:Int)) then(if(0<=(1:Int)/\(1:Int)<(List.length b:Int)) then(if(0<=(2:Int)/\(2:Int)<(List.length b:Int)) then(if(0<=(3:Int)/\(3:Int)<(List.length b:Int)) then((og.f (aa (BitVec.toNat (BitVec.ofInt (IntKind.bits .i64) (aa (rd b 0))|||BitVec.ofInt (IntKind.bits .i64) (aa ((aa (rd b 1))*2^8))))) (aa (BitVec.toNat (BitVec.ofInt (IntKind.bits .i64) (aa (rd b 2))|||BitVec.ofInt (IntKind.bits .i64) (aa ((aa (rd b 3))*2^8)))))).bind λv1=>if(!v1)=true then(some ((aL.mk 0 0 []),(Er.num 243 3))) else(if(0<=(4:Int)/\(4:Int)<=(List.length b:Int)/\(List.length b:Int)<=(List.length b:Int)) then(if(0<=(aa ((aa (BitVec.toNat (BitVec.ofInt (IntKind.bits .i64) (aa (rd b 0))|||BitVec.ofInt (IntKind.bits .i64) (aa ((aa (rd b 1))*2^8)))))*(aa (BitVec.toNat (BitVec.ofInt (IntKind.bits .i64) (aa (rd b 2))|||BitVec.ofInt (IntKind.bits .i64) (aa ((aa (rd b 3))*2^8)))))))/\(aa ((aa (BitVec.toNat (BitVec.ofInt (IntKind.bits .i64) (aa (rd b 0))|||BitVec.ofInt (IntKind.bits .i64) (aa ((aa (rd b 1))*2^8)))))*(aa (BitVec.toNat (BitVec.ofInt (IntKind.bits .i64) (aa (rd b 2))|||BitVec.ofInt (IntKind.bits .i64) (aa ((aa (rd b 3))*2^8)))))))<=1099511627776) then((B8.f (aa (BitVec.toNat (BitVec.ofInt (IntKind.bits .i64) (aa (rd b 0))|||BitVec.ofInt (IntKind.bits .i64) (aa ((aa (rd b 1))*2^8))))) (aa (BitVec.toNat (BitVec.ofInt (IntKind.bits .i64) (aa (rd b 2))|||BitVec.ofInt (IntKind.bits .i64) (aa ((aa (rd b 3))*2^8)))))).bind λv2=>pe.l0 fuel b v2 (aA b 4 (List.length b:Int)) (List.replicate (Int.toNat (aa ((aa (BitVec.toNat (BitVec.ofInt (IntKind.bits .i64) (aa (rd b 0))|||BitVec.ofInt (IntKind.bits .i64) (aa ((aa (rd b 1))*2^8)))))*(aa (BitVec.toNat (BitVec.ofInt (IntKind.bits .i64) (aa (rd b 2))|||BitVec.ofInt (IntKind.bits .i64) (aa ((aa (rd b 3))*2^8)))))))) (0:Int)) 0) else none) else none)) else none) else none) else none) else none)
def pe.R (el:Nat->Addr) (r:(aL×Er)):bg:=λu G=> ∃(a0 n0 H0:_) (v1:Value) (H1:Hp),aj (Fl.int .u8) 5 r.1.C a0 n0 H0/\gp 414 el r.2 v1 H1/\u=(.tuple #[(.agg #[(ii r.1.W),(ii r.1.H),(ll a0 r.1.C n0)]),v1])/\G=[H0,H1]
theorem pe.c (H:pe.f b=some r) (hG:fW 414 fp iw el F) (fh:aP (Fl.int .u8) b gY F) (fJ:List.length b<=gP):
 QR 147 [(ll gY b gP)] [] [] F (pe.R el r):=by
 unfold pe.f at H;refine aD Tryz.func147 J J (λW=>rc T 2 (nc T J (λb1=>ro T 11 (cd J H (λH=>?_) (λH=>?_)))))
 ·refine rc T 3 (br J (iu T J J J J) (sg T 1 J (ro T 5 ?_)))
  cases H;refine bq (bq (pb T J (.cQ (j:=1) [(ii 0),(ii 0),nl] J J J J J J J (.tmp J .nil)) [2,2,0] ⟨(_,_),none,0,[],(.iface 243 (ii 2)),[],aj.nil,rN,J,J⟩ J J))
 refine rc T 3 (ks [0,2] J (fz J (rg [] [0,0] mix (bO bN) (λhg pf=>ha T 22 [0] sz hg pf J ?_))));obtain⟨c2,H⟩:=az H;obtain⟨q4,o4,e4⟩:=fh.addr c2.1 c2.2;refine av 1 sz hg pf J (cC T J J J J J e4 c2.1 c2.2) (av 2 sz hg pf J (aw T J J J J (g_ (k:=(Fl.int .u8)) (rO fh 0) e4 c2 0 J)) (ha T 18 [3,4] sz hg pf J ?_));obtain⟨c3,H⟩:=az H;refine av 5 sz hg pf J (cC T J J J J J e4 c3.1 c3.2) (av 6 sz hg pf J (aw T J J J J (g_ (k:=(Fl.int .u8)) (rO fh 0) e4 c3 0 J)) (ha T 12 [7,8,9,10] sz hg pf J ?_));obtain⟨c4,H⟩:=az H;refine av 11 sz hg pf J (cC T J J J J J e4 c4.1 c4.2) (av 12 sz hg pf J (aw T J J J J (g_ (k:=(Fl.int .u8)) (rO fh 0) e4 c4 0 J)) (ha T 8 [13,14] sz hg pf J ?_));obtain⟨c5,H⟩:=az H;refine av 15 sz hg pf J (cC T J J J J J e4 c5.1 c5.2) (av 16 sz hg pf J (aw T J J J J (g_ (k:=(Fl.int .u8)) (rO fh 0) e4 c5 0 J)) (ha T 2 [17,18,19,20] sz hg pf J (ao 21 (nw T J (λb5=>an (so [0,0]) (ao 22 (sf T 2 J (an (so [0,0]) (ae (rx T 5 (lf T 2 J (ro T 1 (lf T 2 J (k [] J Cr H (og.c ·) (λv1 H=>ro T 3 (cb J H (λH=>?_) (λH=>?_)))))))))))))))))
 ·refine rc T 3 (br J (iu T J J J J) (sg T 1 J (ro T 5 ?_)))
  cases H;refine bq (bq (pb T J (.cQ (j:=1) [(ii 0),(ii 0),nl] J J J J J J J (.tmp J .nil)) [3,3,0] ⟨(_,_),none,0,[],(.iface 243 (ii 3)),[],aj.nil,rN,J,J⟩ J J))
 refine rc T 5 ?_;obtain⟨c8,H⟩:=az H;refine br J (kE T J J J J J J c8 fJ) (ro T 6 (lf T 2 J (ro T 1 (lf T 2 J (ro T 1 ?_)))));obtain⟨c9,H⟩:=az H;refine aX (yE (k:=(Fl.int .u8)) T (0:Int) J J J J J J J J c9 J (λa8 n8 H8 s8=>ro T 1 (sg T 2 J (ro T 6 (lf T 2 J (ro T 1 (lf T 2 J (k [] J adm H (B8.c ·) (λv2 H=>ro T 4 (lq [2,4,58] [0,0] (λ(⟨k9,x6,x7,x8,dj,n11,a12,n12,dq⟩:Nat×List Int×List Int×Int×Option Addr×Nat×Option Addr×Nat×Hp)=>(pe.l0 k9 b v2 x6 x7 x8=some r/\dA (Fl.int .u8) b gY gP x6 dj n11/\List.length x6<=n11/\aj (Fl.int .u8) 5 x7 a12 n12 dq,[(0,(ll dj x6 n11)),(59,(ii x8))],[(cl b5 30 [(ii (aa (BitVec.toNat (BitVec.ofInt (IntKind.bits .i64) (aa (rd b 0))|||BitVec.ofInt (IntKind.bits .i64) (aa ((aa (rd b 1))*2^8)))))),(ii (aa (BitVec.toNat (BitVec.ofInt (IntKind.bits .i64) (aa (rd b 2))|||BitVec.ofInt (IntKind.bits .i64) (aa ((aa (rd b 3))*2^8)))))),(ll a12 x7 n12)]),dq])) J J (fuel,(aA b 4 (List.length b:Int)),(List.replicate (Int.toNat (aa ((aa (BitVec.toNat (BitVec.ofInt (IntKind.bits .i64) (aa (rd b 0))|||BitVec.ofInt (IntKind.bits .i64) (aa ((aa (rd b 1))*2^8)))))*(aa (BitVec.toNat (BitVec.ofInt (IntKind.bits .i64) (aa (rd b 2))|||BitVec.ofInt (IntKind.bits .i64) (aa ((aa (rd b 3))*2^8)))))))) (0:Int)),0,(gm gY gP (Int.toNat 4) 1),(gP-Int.toNat 4),a8,n8,H8) [0,0,0,0] ⟨H,(dA.sub dA.self fJ c8),(mO c8 fJ),s8⟩ J J ?_))))))))))
 rintro k9 ⟨x6,x7,x8,dj,n11,a12,n12,dq⟩ ⟨bf,yH,Au,dz⟩;rw[pe.l0] at bf;refine rc T 6 (cd J bf (λbf=>?_) (λbf=>?_))
 ·refine rc T 13 (lf T 2 J (ro T 1 (lf T 2 J (ro T 1 (k [] J Gv bf (rA.c ·) (λv10 bf=>ro T 12 (kr (q_.R el) [] [] J adn bf (q_.c · (dG hG (j:=0) J) (oz yH (rO fh 0) fJ) Au) (λv11 bf=>?_))))))));rintro _ _ ⟨dK,n13,dV,dm,rfl,rfl⟩;refine fz J (ro T 4 (nc T J (λJr=>sg T 5 J (ro T 11 (cb J bf (λbf=>?_) (λbf=>?_))))))
  ·refine rc T 5 (br J (iu T J J J J) (ro T 1 (nc T J (λoy=>bq (f_ [6,6] J (br J (iu T J J J J) (sg T 1 J (ro T 10 ?_))))))))
   cases bf;refine bq (pb T J (.cQ (j:=1) [(ii 0),(ii 0),nl] J J J J J J J (.tmp J .nil)) [7,6,0] ⟨(_,_),none,0,[],(.iface 301 (pp oy)),(List.flatten [(cl oy 303 [(ii x8),(.iface 243 (ii v11.2.2))]),[]]),aj.nil,(p9 rN),J,J⟩ J J)
  refine rc T 4 (lm T 2 J (ro T 1 (lm T 5 J (kr (ox.R a12 n12 (List.length x7)) [] [3] J ado bf (ox.c (m:=(aL.mk (aa (BitVec.toNat (BitVec.ofInt (IntKind.bits .i64) (aa (rd b 0))|||BitVec.ofInt (IntKind.bits .i64) (aa ((aa (rd b 1))*2^8))))) (aa (BitVec.toNat (BitVec.ofInt (IntKind.bits .i64) (aa (rd b 2))|||BitVec.ofInt (IntKind.bits .i64) (aa ((aa (rd b 3))*2^8))))) x7)) · dz (oO dm 3) dm.bT) (λv12 bf=>?_)))))
  rintro _ _ ⟨kT,ie,l19,rfl,rfl⟩;refine fz J (kg [0,2,4,9,58,59] [0,0,3] [0,0,3,0] [] [(cl b5 30 [(ii (aa (BitVec.toNat (BitVec.ofInt (IntKind.bits .i64) (aa (rd b 0))|||BitVec.ofInt (IntKind.bits .i64) (aa ((aa (rd b 1))*2^8)))))),(ii (aa (BitVec.toNat (BitVec.ofInt (IntKind.bits .i64) (aa (rd b 2))|||BitVec.ofInt (IntKind.bits .i64) (aa ((aa (rd b 3))*2^8)))))),(ll a12 v12 n12)])] J J trivial (by first |rfl |(simp only[ll,l19];rfl)) (ro T 5 ?_))
  obtain⟨jI,bf⟩:=az bf;refine br J (kE T J J J J J J jI Au) (ro T 9 (ar (_,_,_,_,_,_,_,_) [0,0,1,0] ⟨bf,(dA.sub yH fJ jI),(mO jI Au),ie⟩ J J))
 refine rc T 13 (cd J bf (λbf=>?_) (λbf=>?_))
 ·refine rc T 3 (br J (iu T J J J J) (sg T 1 J (ro T 5 ?_)))
  cases bf;refine bq (bq (pb T J (.cQ (j:=1) [(ii 0),(ii 0),nl] J J J J J J J (.tmp J .nil)) [4,4,0] ⟨(_,_),none,0,[],(.iface 243 (ii 3)),[],aj.nil,rN,J,J⟩ J J))
 refine rc T 4 (lm T 2 J (sg T 1 J (ro T 4 ?_)))
 cases bf;refine bq (pb T J (.cQ (j:=1) [(ii (aa (BitVec.toNat (BitVec.ofInt (IntKind.bits .i64) (aa (rd b 0))|||BitVec.ofInt (IntKind.bits .i64) (aa ((aa (rd b 1))*2^8)))))),(ii (aa (BitVec.toNat (BitVec.ofInt (IntKind.bits .i64) (aa (rd b 2))|||BitVec.ofInt (IntKind.bits .i64) (aa ((aa (rd b 3))*2^8)))))),(ll a12 x7 n12)] J J J J J J J (.tmp J .nil)) [3,3,0] ⟨(_,_),a12,n12,dq,.nilIface,[],dz,uG,J,J⟩ J J)
def xe.f (b:(List Int)):Option (aL×Int):=(pe.f b).bind λv1=>(yR.f v1.2).bind λv2=>if(Option.isSome v2)=true then(some ((aL.mk 0 0 []),(Option.getD v2 0))) else(some (v1.1,0))
def xe.R (el:Nat->Addr) (r:(aL×Int)):bg:=λu G=> ∃a0 n0 H0,aj (Fl.int .u8) 5 r.1.C a0 n0 H0/\u=(.tuple #[(.agg #[(ii r.1.W),(ii r.1.H),(ll a0 r.1.C n0)]),(ii r.2)])/\G=[H0]
theorem xe.c (H:xe.f b=some r) (hG:fW 414 fp iw el F) (fh:aP (Fl.int .u8) b gY F) (fJ:List.length b<=gP):
 QR 114 [(ll gY b gP)] [] [] F (xe.R el r):=by
 unfold xe.f at H;refine aD Tryz.func114 J J (λW=>rc T 2 (nc T J (λb1=>ro T 6 (kr (pe.R el) [] [] J ac1 H (pe.c · (dG hG (j:=0) J) (rO fh 0) fJ) (λv1 H=>?_)))));rintro _ _ ⟨a2,n2,H2,v3,H3,s2,s3,rfl,rfl⟩;refine fz J (ro T 3 (nc T J (λb4=>sg T 4 J (ro T 6 (nc T J (λb5=>sg T 5 J (ro T 1 (ks [2,4,5,6] J (rx T 4 (br J (iu T J J J J) ?_))))))))));obtain⟨v2,V2,H⟩:=gu H;refine aX (sO (As:=[(cl b5 243 [(ii 0)])]) (R:=[F,(cl b1 30 [(ii 0),(ii 0),nl]),H2,H3,(cl b4 30 [(ii v1.1.W),(ii v1.1.H),(ll a2 v1.1.C n2)])]) (B:=λ_=>[(cl b5 243 [(ii (Option.getD v2 0))])]) [5] J J J J Ke J J (yR.c v1.2 v2 _ V2 (dG hG (j:=0) J) (rP s3 (j:=3) J)) (λ_=>ro T 2 (cb J H (λH=>?_) (λH=>?_))))
 ·refine rc T 1 (ke [2,6] [0,0,3] J J (fz J (rz [] mix (bO bN) (λhg pf=>ha T 3 [0] sz hg pf J (av 1 sz hg pf J (aw T J J J J (aK (j:=2) J J)) (ao 2 (sf T 1 J (an sz (ha T 0 [3] sz hg pf J (ae (rx T 1 (rc T 2 ?_))))))))))))
  cases H;refine bq (pb T J (.cQ (j:=1) [(ii 0),(ii 0),nl] J J J J J J J (.tmp J .nil)) [3,0] ⟨(_,_),none,0,[],aj.nil,J,J⟩ J J)
 refine rc T 4 (lm T 4 J (sg T 1 J (ro T 4 ?_)))
 cases H;exact pb T J (.cQ (j:=1) [(ii v1.1.W),(ii v1.1.H),(ll a2 v1.1.C n2)] J J J J J J J (.tmp J .nil)) [2,0] ⟨(_,_),a2,n2,H2,s2,J,J⟩ J J
def yG.f (m:aL):Option Bool:=((og.f m.W m.H).bind λv3=>if v3=true then(if((List.length m.C:Int)==(aa (m.W*m.H)))=true then((wI.f m.C 0).bind λv4=>some (!v4)) else(some false)) else(some false)).bind λx1=>some x1
theorem yG.c (H:yG.f m=some r) (tf:aP (Fl.int .u8) m.C pa F) (vx:List.length m.C<=oK):
 QU 148 [(.agg #[(ii m.W),(ii m.H),(ll pa m.C oK)])] [] F (bb r):=by
 unfold yG.f at H;refine aD Tryz.func148 J J (λW=>rc T 2 (nc T J (λb1=>ro T 3 (mq H [] [0] (λz2 (x1:Bool)=>(x1=z2,[(2,(bb x1))],[])) J J (λz2 Z1 _=>?_) ?_))))
 ·refine rc T 2 (lf T 1 J (ro T 1 (lf T 1 J (k [] J Cr Z1 (og.c ·) (λv3 Z1=>ro T 1 (ab 8 J Z1 (λZ1=>?_) (λZ1=>?_)))))))
  ·refine ro T 1 (lf T 1 J (ro T 2 (lf T 1 J (ro T 1 (lf T 1 J (ro T 4 (ab 19 J Z1 (λZ1=>?_) (λZ1=>?_))))))))
   ·refine ro T 1 (lf T 1 J (k [] J NH Z1 (wI.c · (rO tf 0) vx) (λv4 Z1=>ro T 5 (am _ [0] (oi Z1) J J))))
   refine ro T 8 (am _ [0] (oi Z1) J J)
  refine ro T 19 (am _ [0] (oi Z1) J J)
 rintro _ x1 rfl H;refine rc T 1 ?_
 cases H;exact p0 T J [0] J
end
noncomputable section
def sY.f (cells:Int):Option (Option fA):=if((decide (cells<1))||(decide (cells>1048576)))=true then(some none) else(if(0<=cells/\cells<=1099511627776) then(some (some (fA.mk (List.replicate (Int.toNat cells) (0:Int)) 0))) else none)
def sY.R (r:(Option fA)):bg:=λu G=> ∃(u0:Value) (G0:List Hp),Yl r u0 G0/\u=u0/\G=G0
theorem sY.c (H:sY.f cells=some r):
 QR 153 [(ii cells)] [] [] F (sY.R r):=by
 unfold sY.f at H;refine aD Tryz.func153 J J (λW=>rc T 11 (go T [3,4,5] 5 [0] 8 J J J J J J J (ro T 2 (cb J H (λH=>?_) (λH=>?_)))))
 ·refine rc T 7 ?_
  cases H;exact p1 T J [0] ⟨_,_,⟨J,J⟩,J,J⟩ J
 refine rc T 5 ?_;obtain⟨c2,H⟩:=az H;refine aX (yE (k:=(Fl.int .u32)) T (0:Int) J J J J J J J J c2 J (λa1 n1 H1 s1=>ro T 1 (nc T J (λb2=>ro T 4 ?_))))
 cases H;exact p1 T J [2,1,0] ⟨_,_,⟨b2,a1,n1,H1,s1,J,J⟩,J,J⟩ J
def yT.f (ag:fA) (cell:Int):Option Bool:=(if cell≥0 then(some (decide (cell<(List.length ag.words:Int)))) else(some false)).bind λx1=>some x1
theorem yT.c (H:yT.f ag cell=some r) (kj:aj (Fl.int .u32) 65 ag.words mr mF o0):
 QU 195 [(pp aW),(ii cell)] [(cl aW 221 [(ll mr ag.words mF),(ii ag.count)]),o0] F (bb r):=by
 unfold yT.f at H;refine aD Tryz.func195 J J (λW=>rc T 5 (mq H [] [2,0,0] (λz2 (x1:Bool)=>(x1=z2,[(4,(bb x1))],[])) J J (λz2 Z1 _=>?_) ?_))
 ·refine rc T 8 (ad 11 J Z1 (λZ1=>?_) (λZ1=>?_))
  ·refine ro T 4 (lf T 0 J (ro T 6 (am _ [2,0,0] (oi Z1) J J)))
  refine ro T 11 (am _ [2,0,0] (oi Z1) J J)
 rintro _ x1 rfl H;refine rc T 1 ?_
 cases H;exact p0 T J [1,1,0] J
def qO.f (ag:fA) (cell:Int):Option Int:=(yT.f ag cell).bind λv1=>if(!v1)=true then(some (-1)) else(if(0<=cell/\cell<(List.length ag.words:Int)) then(some (aa ((aa (rd ag.words cell))-1))) else none)
theorem qO.c (H:qO.f ag cell=some r) (kj:aj (Fl.int .u32) 65 ag.words mr mF o0):
 QU 154 [(pp aW),(ii cell)] [(cl aW 221 [(ll mr ag.words mF),(ii ag.count)]),o0] F (ii r):=by
 unfold qO.f at H;refine aD Tryz.func154 J J (λW=>rc T 10 (k [0,0] J Tx H (yT.c · kj) (λv1 H=>ro T 3 (cb J H (λH=>?_) (λH=>?_)))))
 ·refine rc T 7 ?_
  cases H;exact p0 T J [0,0,0] J
 refine rc T 7 (lf T 0 J (ro T 1 ?_));obtain⟨c3,H⟩:=az H;obtain⟨q3,o3,e3⟩:=kj.r.addr c3.1 c3.2;refine ix T J e3 c3 (le T 0 (oO kj 1) e3 c3 J J (ro T 6 ?_))
 cases H;exact p0 T J [0,0,0] J
def yS.f (ag:fA) (cell:Int):Option Bool:=((yT.f ag cell).bind λv3=>if v3=true then(if(0<=cell/\cell<(List.length ag.words:Int)) then(some ((rd ag.words cell)==0)) else none) else(some false)).bind λx1=>some x1
theorem yS.c (H:yS.f ag cell=some r) (kj:aj (Fl.int .u32) 65 ag.words mr mF o0):
 QU 196 [(pp aW),(ii cell)] [(cl aW 221 [(ll mr ag.words mF),(ii ag.count)]),o0] F (bb r):=by
 unfold yS.f at H;refine aD Tryz.func196 J J (λW=>rc T 5 (mq H [] [2,0,0] (λz2 (x1:Bool)=>(x1=z2,[(4,(bb x1))],[])) J J (λz2 Z1 _=>?_) ?_))
 ·refine rc T 3 (k [0,0] J Tx Z1 (yT.c · kj) (λv3 Z1=>ro T 1 (ab 8 J Z1 (λZ1=>?_) (λZ1=>?_))))
  ·refine ro T 3 (lf T 0 J (ro T 1 ?_));obtain⟨c4,Z1⟩:=az Z1;obtain⟨q3,o3,e3⟩:=kj.r.addr c4.1 c4.2;refine ix T J e3 c4 (le T 0 (oO kj 1) e3 c4 J J (ro T 5 (am _ [2,0,0] (oi Z1) J J)))
  refine ro T 12 (am _ [2,0,0] (oi Z1) J J)
 rintro _ x1 rfl H;refine rc T 1 ?_
 cases H;exact p0 T J [1,1,0] J
def sW.f (ag:fA) (cell:Int) (p2:Int):Option (Bool×fA):=(yS.f ag cell).bind λv1=>if(((!v1)||(decide (p2<0)))||(decide (p2≥4294967295)))=true then(some (false,ag)) else(if(0<=cell/\cell<(List.length ag.words:Int)) then(some (true,(fA.mk (List.set ag.words (Int.toNat cell) (IA (aa (p2+1)))) (aa (ag.count+1))))) else none)
def sW.R (aW:Nat) (r:(Bool×fA)):bg:=λu G=> ∃a0 n0 H0,aj (Fl.int .u32) 65 r.2.words a0 n0 H0/\u=(bb r.1)/\G=[(cl aW 221 [(ll a0 r.2.words n0),(ii r.2.count)]),H0]
theorem sW.c (H:sW.f ag cell p2=some r) (kj:aj (Fl.int .u32) 65 ag.words mr mF o0):
 QR 157 [(pp aW),(ii cell),(ii p2)] [(cl aW 221 [(ll mr ag.words mF),(ii ag.count)]),o0] [] F (sW.R aW r):=by
 unfold sW.f at H;refine aD Tryz.func157 J J (λW=>rc T 10 (k [0,0] J Tz H (yS.c · kj) (λv1 H=>ro T 2 (go T [5,6,7] 11 [0,1,2] 14 J J J J J J J (ro T 1 (go T [9,10,11] 15 [0,1,2] 18 J J J J J J J (ro T 2 (cb J H (λH=>?_) (λH=>?_)))))))))
 ·refine rc T 7 ?_
  cases H;exact p1 T J [0,0,0] ⟨mr,mF,o0,kj,J,J⟩ J
 refine rc T 7 (lf T 0 J (ro T 4 ?_));obtain⟨c3,H⟩:=az H;obtain⟨q3,o3,e3⟩:=kj.r.addr c3.1 c3.2;refine ix T J e3 c3 (aX (kX (k:=(Fl.int .u32)) T 1 0 (IA (aa (p2+1))) J J J J J J kj e3 c3 J J J (λH4 s4=>kg [0] [1,1] [1,1,0] [] [(cl aW 221 [(ll mr (List.set ag.words (Int.toNat cell) (IA (aa (p2+1)))) mF),(ii ag.count)])] J J trivial dJ (ro T 7 (lf T 2 J (ro T 3 (sg T 2 J (ro T 8 ?_))))))))
 cases H;exact p1 T J [2,0,0] ⟨mr,mF,H4,s4,J,J⟩ J
def sX.f (ag:fA) (cell:Int):Option (Int×fA):=(qO.f ag cell).bind λv1=>if(v1 !=(-1))=true then(if(0<=cell/\cell<(List.length ag.words:Int)) then(some (v1,(fA.mk (List.set ag.words (Int.toNat cell) 0) (aa (ag.count-1))))) else none) else(some (v1,ag))
def sX.R (aW:Nat) (r:(Int×fA)):bg:=λu G=> ∃a0 n0 H0,aj (Fl.int .u32) 65 r.2.words a0 n0 H0/\u=(ii r.1)/\G=[(cl aW 221 [(ll a0 r.2.words n0),(ii r.2.count)]),H0]
theorem sX.c (H:sX.f ag cell=some r) (kj:aj (Fl.int .u32) 65 ag.words mr mF o0):
 QR 160 [(pp aW),(ii cell)] [(cl aW 221 [(ll mr ag.words mF),(ii ag.count)]),o0] [] F (sX.R aW r):=by
 unfold sX.f at H;refine aD Tryz.func160 J J (λW=>rc T 9 (k [0,0] J Gt H (qO.c · kj) (λv1 H=>ro T 10 (cb J H (λH=>?_) (λH=>?_)))))
 ·refine rc T 5 (lf T 0 J (ro T 1 ?_));obtain⟨c3,H⟩:=az H;obtain⟨q3,o3,e3⟩:=kj.r.addr c3.1 c3.2;refine ix T J e3 c3 (aX (kX (k:=(Fl.int .u32)) T 1 0 0 J J J J J J kj e3 c3 J J J (λH4 s4=>kg [0,5] [1,1] [1,1,0] [] [(cl aW 221 [(ll mr (List.set ag.words (Int.toNat cell) 0) mF),(ii ag.count)])] J J trivial dJ (ro T 6 (lf T 2 J (ro T 3 (sg T 2 J (ro T 9 ?_))))))))
  cases H;exact p1 T J [2,0,0] ⟨mr,mF,H4,s4,J,J⟩ J
 refine rc T 9 ?_
 cases H;exact p1 T J [0,0,0] ⟨mr,mF,o0,kj,J,J⟩ J
def xo.f (ag:fA) (ai:Int) (p2:Int):Option (Bool×fA):=((qO.f ag ai).bind λv3=>if(v3==(-1))=true then(some true) else((yS.f ag p2).bind λv4=>some (!v4))).bind λx1=>if x1=true then(some (false,ag)) else((sX.f ag ai).bind λv5=>(sW.f v5.2 p2 v5.1).bind λv6=>some (v6.1,v6.2))
def xo.R (aW:Nat) (r:(Bool×fA)):bg:=λu G=> ∃a0 n0 H0,aj (Fl.int .u32) 65 r.2.words a0 n0 H0/\u=(bb r.1)/\G=[(cl aW 221 [(ll a0 r.2.words n0),(ii r.2.count)]),H0]
theorem xo.c (H:xo.f ag ai p2=some r) (kj:aj (Fl.int .u32) 65 ag.words mr mF o0):
 QR 167 [(pp aW),(ii ai),(ii p2)] [(cl aW 221 [(ll mr ag.words mF),(ii ag.count)]),o0] [] F (xo.R aW r):=by
 unfold xo.f at H;refine aD Tryz.func167 J J (λW=>rc T 6 (mq H [0,1,2] [2,0,0] (λz2 (x1:Bool)=>(x1=z2,[(16,(bb x1))],[])) J J (λz2 Z1 _=>?_) ?_))
 ·refine rc T 3 (k [0,0] J Gt Z1 (qO.c · kj) (λv3 Z1=>ro T 2 (ab 11 J Z1 (λZ1=>?_) (λZ1=>?_))))
  ·refine ro T 7 (am _ [2,0,0] (oi Z1) J J)
  refine ro T 2 (k [0,0] J Tz Z1 (yS.c · kj) (λv4 Z1=>ro T 4 (am _ [2,0,0] (oi Z1) J J)))
 rintro _ x1 rfl H;refine cb J H (λH=>?_) (λH=>?_)
 ·refine rc T 7 ?_
  cases H;exact p1 T J [1,1,0] ⟨mr,mF,o0,kj,J,J⟩ J
 refine rc T 8 (kr (sX.R aW) [] [1,1] J Tr H (sX.c · kj) (λv5 H=>?_));rintro _ _ ⟨a3,n3,H3,s3,rfl,rfl⟩;refine fz J (kr (sW.R aW) [] [1,1] J Tq H (sW.c · s3) (λv6 H=>?_));rintro _ _ ⟨a4,n4,H4,s4,rfl,rfl⟩;refine fz J (ro T 4 ?_)
 cases H;exact p1 T J [1,1,0] ⟨a4,n4,H4,s4,J,J⟩ J
def xp.f (ag:fA):Option (List Int):=(zS.f ag.words).bind λv1=>some v1
def xp.R (r:(List Int)):bg:=λu G=> ∃a0 n0 H0,aj (Fl.int .u32) 65 r a0 n0 H0/\u=(ll a0 r n0)/\G=[H0]
theorem xp.c (H:xp.f ag=some r) (kj:aj (Fl.int .u32) 65 ag.words mr mF o0):
 QR 98 [(pp aW)] [(cl aW 221 [(ll mr ag.words mF),(ii ag.count)]),o0] [(cl aW 221 [(ll mr ag.words mF),(ii ag.count)]),o0] F (xp.R r):=by
 unfold xp.f at H;refine aD Tryz.func98 J J (λW=>rc T 12 (eT J (rc T 7 (lf T 0 J (kr zS.R [] [] J acY H (zS.c · (oO kj 1) kj.bT) (λv1 H=>?_))))));rintro _ _ ⟨a3,n3,H3,s3,rfl,rfl⟩;refine fz J (ro T 4 ?_)
 cases H;exact p1 T J [3,0,0,0] ⟨a3,n3,H3,s3,J,J⟩ J
end
noncomputable section
def pF.l0:Nat->Int->Int->(List aF)->Int->(List (Int×Bool))->Int->Option Bool
 |0,_,_,_,_,_,_=>none
 |k8+1,w,h,l,x5,x6,x7=>if x7<(List.length l:Int) then(if(0<=x7/\x7<(List.length l:Int)) then((if(rd l x7).Id<=x5 then(some true) else((gR.f w h ((rd l x7).Cell)).bind λv11=>if v11<0 then(some true) else((gR.f w h ((rd l x7).Goal)).bind λv12=>if v12<0 then(some true) else(some (aR x6 ((rd l x7).Cell)))))).bind λx9=>if x9=true then(some false) else(pF.l0 k8 w h l ((rd l x7).Id) (cJ x6 ((rd l x7).Cell) true) (aa (x7+1)))) else none) else(some true)
def pF.f (w:Int) (h:Int) (l:(List aF)):Option Bool:=(og.f w h).bind λv1=>if(!v1)=true then(some false) else(pF.l0 fuel w h l (-1) ([]:(List (Int×Bool))) 0)
theorem pF.c (H:pF.f w h l=some r) (dr:aP lQ l iE F) (gB:List.length l<=iy):
 QU 61 [(ii w),(ii h),(ll iE l iy)] [] F (bb r):=by
 unfold pF.f at H;refine aD Tryz.func61 J J (λW=>rc T 10 (k [] J Cr H (og.c ·) (λv1 H=>ro T 3 (cb J H (λH=>?_) (λH=>?_)))))
 ·refine rc T 7 ?_
  cases H;exact p0 T J [0] J
 refine rc T 11 (aX (vt T (Ky.int .i64 u3) (λx:Bool=>Value.bool x) J J J ⟨_,_,J⟩ (λa1 H1 s1=>ro T 12 (lq [0,1,18,19] [0] (λ(⟨k8,x5,x6,x7,a3,H3⟩:Nat×Int×(List (Int×Bool))×Int×Nat×Hp)=>(pF.l0 k8 w h l x5 x6 x7=some r/\cV (Ky.int .i64 u3) (λx:Bool=>Value.bool x) x6 a3 H3,[(7,(ii x5)),(8,(.map (some a3))),(20,(ii x7))],[H3])) J J (fuel,(-1),([]:(List (Int×Bool))),0,a1,H1) [0,0] ⟨H,s1⟩ J J ?_))));rintro k8 ⟨x5,x6,x7,a3,H3⟩ ⟨Z3,s3⟩;rw[pF.l0] at Z3;refine rc T 6 (cd J Z3 (λZ3=>?_) (λZ3=>?_))
 ·refine rc T 6 ?_;obtain⟨c5,Z3⟩:=az Z3;obtain⟨q4,o4,e4⟩:=dr.addr c5.1 c5.2;refine ix T J e4 c5 (br J (fC T (cs:=[(ii (rd l x7).Id),(ii (rd l x7).Cell),(ii (rd l x7).Goal)]) J J J J J J (iv (k:=lQ) (rO dr 0) e4 c5 J)) (nc T J (λb5=>sg T 2 J (ro T 3 (mq Z3 [0,1,8,10,18,19,20] [0,0,0] (λoo (x9:Bool)=>(x9=oo,[(49,(bb x9))],[])) J J (λoo Z6 _=>?_) ?_)))))
  ·refine rc T 2 (lf T 2 J (ro T 3 (ad 28 J Z6 (λZ6=>?_) (λZ6=>?_))))
   ·refine ro T 23 (am _ [0,0,0] (oi Z6) J J)
   refine ro T 3 (lf T 2 J (k [] J rU Z6 (gR.c ·) (λv11 Z6=>ro T 3 (ad 36 J Z6 (λZ6=>?_) (λZ6=>?_)))))
   ·refine ro T 15 (am _ [0,0,0] (oi Z6) J J)
   refine ro T 3 (lf T 2 J (k [] J rU Z6 (gR.c ·) (λv12 Z6=>ro T 3 (ad 44 J Z6 (λZ6=>?_) (λZ6=>?_)))))
   ·refine ro T 7 (am _ [0,0,0] (oi Z6) J J)
   refine ro T 2 (lf T 2 J (br J (qa (k:=(rd l x7).Cell) T (Ky.int .i64 u3) (λx:Bool=>Value.bool x) J J J J J (oJ s3 (j:=1) J)) (ro T 3 (am _ [0,0,0] (oi Z6) J J))))
  rintro _ x9 rfl Z3;refine cb J Z3 (λZ3=>?_) (λZ3=>?_)
  ·refine rc T 12 ?_
   cases Z3;exact p0 T J [0] J
  refine rc T 2 (fz J (rz [6] mix (bO bN) (λhg pf=>ha T 5 [0,1] sz hg pf J (av 2 sz hg pf J (aw T J J J J (aK (j:=2) J J)) (ha T 3 [3] sz hg pf J (av 4 sz hg pf J (aw T J J J J (aK (j:=2) J J)) (ha T 1 [5] sz hg pf J (ao 6 (pX (g:=1) (m:=x6) (k:=(rd l x7).Cell) (v:=true) T (Ky.int .i64 u3) (λx:Bool=>Value.bool x) J J J J J J J s3 (λH6 s6=>an sl (ae (rx T 7 (ar (_,_,_,_,_) [0,0] ⟨Z3,s6⟩ J J)))))))))))))
 refine rc T 11 ?_
 cases Z3;exact p0 T J [0] J
def nR.l0:Nat->(List aF)->List Int->(List (Int×Bool))->Int->Option (List Int)
 |0,_,_,_,_=>none
 |k7+1,l,x4,x5,x6=>if x6<(List.length l:Int) then(if(0<=x6/\x6<(List.length l:Int)) then(if(!(aR x5 ((rd l x6).Goal)))=true then(if(List.length x4+1<=1099511627776) then(nR.l0 k7 l (x4++[(rd l x6).Goal]) (cJ x5 ((rd l x6).Goal) true) (aa (x6+1))) else none) else(nR.l0 k7 l x4 x5 (aa (x6+1)))) else none) else(some x4)
def nR.f (l:(List aF)):Option (List Int):=nR.l0 fuel l [] ([]:(List (Int×Bool))) 0
def nR.R (r:(List Int)):bg:=λu G=> ∃a0 n0 H0,aj (Fl.int .i64) 3 r a0 n0 H0/\u=(ll a0 r n0)/\G=[H0]
theorem nR.c (H:nR.f l=some r) (dr:aP lQ l iE F) (gB:List.length l<=iy):
 QR 29 [(ll iE l iy)] [] [] F (nR.R r):=by
 unfold nR.f at H;refine aD Tryz.func29 J J (λW=>rc T 12 (aX (vt T (Ky.int .i64 u3) (λx:Bool=>Value.bool x) J J J trivial (λa1 H1 s1=>ro T 12 (bq (lq [8,9] [0] (λ(⟨k7,x4,x5,x6,a4,n4,H4,a5,H5⟩:Nat×List Int×(List (Int×Bool))×Int×Option Addr×Nat×Hp×Nat×Hp)=>(nR.l0 k7 l x4 x5 x6=some r/\aj (Fl.int .i64) 3 x4 a4 n4 H4/\cV (Ky.int .i64 u3) (λx:Bool=>Value.bool x) x5 a5 H5,[(3,(ll a4 x4 n4)),(4,(.map (some a5))),(10,(ii x6))],[H4,H5])) J J (fuel,[],([]:(List (Int×Bool))),0,none,0,[],a1,H1) [0,1,0] ⟨H,aj.nil,s1⟩ J J ?_))))));rintro k7 ⟨x4,x5,x6,a4,n4,H4,a5,H5⟩ ⟨Z1,s4,s5⟩;rw[nR.l0] at Z1;refine rc T 6 (cd J Z1 (λZ1=>?_) (λZ1=>?_))
 ·refine rc T 6 ?_;obtain⟨c3,Z1⟩:=az Z1;obtain⟨q6,o6,e6⟩:=dr.addr c3.1 c3.2;refine ix T J e6 c3 (br J (fC T (cs:=[(ii (rd l x6).Id),(ii (rd l x6).Cell),(ii (rd l x6).Goal)]) J J J J J J (iv (k:=lQ) (rO dr 0) e6 c3 J)) (nc T J (λb7=>sg T 3 J (ro T 6 (lf T 3 J (br J (qa (k:=(rd l x6).Goal) T (Ky.int .i64 u3) (λx:Bool=>Value.bool x) J J J J J (oJ s5 (j:=2) J)) (ro T 3 (cb J Z1 (λZ1=>?_) (λZ1=>?_)))))))))
  ·refine rc T 4 (lf T 3 J (aX (pX (g:=2) (m:=x5) (k:=(rd l x6).Goal) (v:=true) T (Ky.int .i64 u3) (λx:Bool=>Value.bool x) J J J J J J J s5 (λH8 s8=>ro T 5 (lf T 3 J (aX (cY (k:=(Fl.int .i64)) T [(rd l x6).Goal] J J J J J J J J J (λa9 H9 s9=>?_))))))));obtain⟨c5,Z1⟩:=az Z1;refine aX (dW (k:=(Fl.int .i64)) (xs:=x4) T (g:=1) J J J J J J J J J J s4 (oO s9 4) c5 J (λcB n10 b_ bP=>ro T 2 (ke [3,4,8,9,10] [0,0,0] J J (rx T 7 (ar (_,_,_,_,_,_,_,_) [0,0,0] ⟨Z1,bP,s8⟩ J J)))))
  refine rc T 8 (ar (_,_,_,_,_,_,_,_) [0,0,0] ⟨Z1,s4,s5⟩ J J)
 refine rc T 12 ?_
 cases Z1;exact p1 T J [1,0] ⟨a4,n4,H4,s4,J,J⟩ J
def kc.l1:Nat->(List Int)->(List (Int×(List ck)))->List Int->List ck->Int->Option (List ck)
 |0,_,_,_,_,_=>none
 |KJ+1,v17,cg,eA,qC,lU=>if lU<(List.length v17:Int) then(if(0<=lU/\lU<(List.length v17:Int)) then(if(¬(rd v17 lU)∈eA) then(if(List.length qC+List.length (aR cg (rd v17 lU))<=1099511627776) then(kc.l1 KJ v17 cg ((rd v17 lU)::eA) (qC++(aR cg (rd v17 lU))) (aa (lU+1))) else none) else none) else none) else(some qC)
def kc.l0:Nat->Int->Int->(List aF)->(List (Int×(List ck)))->(List ((Int×Int)×Int))->Int->Option (List ck)
 |0,_,_,_,_,_,_=>none
 |k8+1,w,h,l,x5,x6,x7=>if x7<(List.length l:Int) then((if(0<=x7/\x7<(List.length l:Int)) then((gR.f w h ((rd l x7).Cell)).bind λv12=>(if(!(bR x6 ((rd l x7).Goal,v12)))=true then(if(List.length (aR x5 ((rd l x7).Goal))+1<=1099511627776) then(some ((cJ x5 ((rd l x7).Goal) ((aR x5 ((rd l x7).Goal))++[(ck.mk ((rd l x7).Goal) v12 [])])),(cJ x6 ((rd l x7).Goal,v12) (List.length (aR x5 ((rd l x7).Goal)):Int)),(List.length (aR x5 ((rd l x7).Goal)):Int))) else none) else(some (x5,x6,(aR x6 ((rd l x7).Goal,v12))))).bind λ(aU,bc,bY)=>if(0<=bY/\bY<(List.length (aR aU ((rd l x7).Goal)):Int)) then(if(List.length ((rd (aR aU ((rd l x7).Goal)) bY).de)+1<=1099511627776) then(some ((tr aU ((rd l x7).Goal) (List.set (aR aU ((rd l x7).Goal)) (Int.toNat bY) (ck.mk ((rd (aR aU ((rd l x7).Goal)) bY).Goal) ((rd (aR aU ((rd l x7).Goal)) bY).fe) ((rd (aR aU ((rd l x7).Goal)) bY).de++[(rd l x7).Id])))),bc)) else none) else none) else none).bind λ(x9,aN)=>kc.l0 k8 w h l x9 aN (aa (x7+1))) else((nR.f l).bind λv17=>kc.l1 fuel v17 x5 [] [] 0)
def kc.f (w:Int) (h:Int) (l:(List aF)):Option (List ck):=(pF.f w h l).bind λv1=>if(!v1)=true then(some []) else(kc.l0 fuel w h l ([]:(List (Int×(List ck)))) ([]:(List ((Int×Int)×Int))) 0)
def kc.R (r:(List ck)):bg:=λu G=> ∃a0 n0 H0,fI pG 120 r a0 n0 H0/\u=(ll a0 r n0)/\G=[H0]
theorem kc.c (H:kc.f w h l=some r) (dr:aP lQ l iE F) (gB:List.length l<=iy):
 QR 28 [(ii w),(ii h),(ll iE l iy)] [] [] F (kc.R r):=by
 unfold kc.f at H;refine aD Tryz.func28 J J (λW=>rc T 11 (k [] J T6 H (pF.c · (rO dr 0) gB) (λv1 H=>ro T 3 (cb J H (λH=>?_) (λH=>?_)))))
 ·refine rc T 7 ?_
  cases H;refine bq (p1 T J [1,0] ⟨none,0,[],fI.nil,J,J⟩ J)
 refine rc T 4 (aX (vt T (Ky.int .i64 u3) uP J J J trivial (λa2 H2 s2=>ro T 5 (aX (vt T (Ky.pair T .i64 J J J lS u3) (λx:Int=>Value.int .i64 x) J J J trivial (λa3 H3 s3=>ro T 12 (lq [0,1,2,26,27] [0] (λ(⟨k8,x5,x6,x7,a6,H6,a7,H7⟩:Nat×(List (Int×(List ck)))×(List ((Int×Int)×Int))×Int×Nat×Hp×Nat×Hp)=>(kc.l0 k8 w h l x5 x6 x7=some r/\w9 (fI pG 120) (Ky.int .i64 u3) [] x5 a6 H6/\cV (Ky.pair T .i64 J J J lS u3) (λx:Int=>Value.int .i64 x) x6 a7 H7,[(7,(.map (some a6))),(8,(.map (some a7))),(28,(ii x7))],[H6,H7])) J J (fuel,([]:(List (Int×(List ck)))),([]:(List ((Int×Int)×Int))),0,a2,H2,a3,H3) [0,0,0] ⟨H,(agt (S:=(fI pG 120)) s2),s3⟩ J J ?_)))))));rintro k8 ⟨x5,x6,x7,a6,H6,a7,H7⟩ ⟨Z3,s6,s7⟩;rw[kc.l0] at Z3;refine rc T 6 (cd J Z3 (λZ3=>?_) (λZ3=>?_))
 ·refine rc T 2 (mq Z3 [0,1,2,26,27,28] [0] (λlV (⟨x9,aN,a8,H8,a9,H9⟩:(List (Int×(List ck)))×(List ((Int×Int)×Int))×Nat×Hp×Nat×Hp)=>((x9,aN)=lV/\w9 (fI pG 120) (Ky.int .i64 u3) [] x9 a8 H8/\cV (Ky.pair T .i64 J J J lS u3) (λx:Int=>Value.int .i64 x) aN a9 H9,[(7,(.map (some a8))),(8,(.map (some a9)))],[H8,H9])) J J (λlV Z5 _=>?_) ?_)
  ·refine rc T 3 ?_;obtain⟨c6,Z5⟩:=az Z5;obtain⟨Ld,K5,p8⟩:=dr.addr c6.1 c6.2;refine ix T J p8 c6 (br J (fC T (cs:=[(ii (rd l x7).Id),(ii (rd l x7).Cell),(ii (rd l x7).Goal)]) J J J J J J (iv (k:=lQ) (rO dr 0) p8 c6 J)) (nc T J (λjU=>sg T 3 J (ro T 7 (lf T 3 J (k [] J rU Z5 (gR.c ·) (λv12 Z5=>ro T 6 (lf T 3 J (ro T 1 (br J (JM T J J J J J J) (nc T J (λkY=>sg T 4 J (ro T 5 (lm T 4 J (br J (qa (k:=((rd l x7).Goal,v12)) T (Ky.pair T .i64 J J J lS u3) (λx:Int=>Value.int .i64 x) J J J J J (oJ s7 (j:=2) J)) (ro T 7 (mq Z5 [0,1,2,10,26,27,28] [0,2] (λIW (⟨aU,bc,bY,dK,dV,je,fX⟩:(List (Int×(List ck)))×(List ((Int×Int)×Int))×Int×Nat×Hp×Nat×Hp)=>((aU,bc,bY)=IW/\w9 (fI pG 120) (Ky.int .i64 u3) [] aU dK dV/\cV (Ky.pair T .i64 J J J lS u3) (λx:Int=>Value.int .i64 x) bc je fX,[(7,(.map (some dK))),(8,(.map (some je))),(13,(ii bY))],[dV,fX])) J J (λIW Z8 _=>?_) ?_)))))))))))))))))
   ·refine rc T 6 (cb J Z8 (λZ8=>?_) (λZ8=>?_))
    ·refine rc T 4 (lf T 3 J (FX (j:=1) (fI.nil (kd:=pG) (E:=120)) ((rd l x7).Goal) bd J s6 (λjS n15 dI fY dP fU=>br J (Gi (kx:=(rd l x7).Goal) (v:=(jS,List.length (aR x5 ((rd l x7).Goal)),n15)) T (Ky.int .i64 u3) J J J J J (G6 (j:=1) J fU)) (ro T 3 (ZJ (j:=1) (q:=5) J fU J J dP J (λeH fq=>ke [0,1,2,7,8,10,11,12,13,26,27,28] [0,0,0,0,0] J J (rx T 4 (lm T 4 J (ro T 1 (aX (pX (g:=2) (m:=x6) (k:=((rd l x7).Goal,v12)) (v:=(List.length (aR x5 ((rd l x7).Goal)):Int)) T (Ky.pair T .i64 J J J lS u3) (λx:Int=>Value.int .i64 x) J J J J J J J s7 (λft fF=>ro T 2 (ke [0,1,2,7,8,10,11,13,26,27,28] [0,0,0,0] J J (fz J (rg [13] [0,1,1] mix (bO bN) (λhg pf=>ha T 12 [0,1] (so [0,1,1]) hg pf J (av 2 (so [0,1,1]) hg pf J (aw T J J J J (aK (j:=2) J J)) (ha T 9 [3,4] (so [0,1,1]) hg pf J (av 5 (so [0,1,1]) hg pf J (aw T J J J J (aK (j:=2) J J)) (ha T 7 [7] (so [0,1,1]) hg pf J (av 8 (so [0,1,1]) hg pf J (aw T J J J J (aK (j:=2) J J)) (ha T 4 [9,10] (so [0,1,1]) hg pf J (gK 6 11 ?_ ?_)))))))))))))))))))))))
     ·refine FX (j:=1) (fI.nil (kd:=pG) (E:=120)) ((rd l x7).Goal) bd J fq (λkW n19 kT oq ie me=>lK J (Gi (kx:=(rd l x7).Goal) (v:=(kW,List.length (aR x5 ((rd l x7).Goal)),n19)) T (Ky.int .i64 u3) J J J J J (G6 (j:=1) J me)) (an (so [0,1,1]) (ao 11 (bq (f_ [5] J (B7 (kd:=pG) (E:=120) (q:=5) (c:=[(ii (rd l x7).Goal),(ii v12),nl]) T (ck.mk ((rd l x7).Goal) v12 []) J J J J J J J J J J ⟨none,0,[],(aj.nil (k:=(Fl.int .i64)) (E:=3)),J,J⟩ (λa23 jE gG=>an (so [0,1,1]) (ao 12 ?_))))))));obtain⟨iT,Z8⟩:=az Z8;refine B6 (kd:=pG) (xs:=(aR x5 ((rd l x7).Goal))) (ys:=[(ck.mk ((rd l x7).Goal) v12 [])]) T (g:=4) (q:=6) J J J J J J J J J J ie J J gG iT J (λa24 n24 rG mf=>an (so [0,1,1]) (ao 13 (QS (q:=4) (kx:=(rd l x7).Goal) (ys:=((aR x5 ((rd l x7).Goal))++[(ck.mk ((rd l x7).Goal) v12 [])])) T (Ky.int .i64 u3) 1 J J J J J J J me J J mf (λgV jh=>an sl (ae (rx T 1 (am (_,_,_,_,_,_,_) [0,2,0,0] ⟨oi Z8,jh,fF⟩ J J)))))))
     refine bq (f_ [4] J (B7 (kd:=pG) (E:=120) (q:=4) (c:=[(ii (rd l x7).Goal),(ii v12),nl]) T (ck.mk ((rd l x7).Goal) v12 []) J J J J J J J J J J ⟨none,0,[],(aj.nil (k:=(Fl.int .i64)) (E:=3)),J,J⟩ (λa28 sC jO=>an (so [0,1,1]) (ao 6 (FX (j:=1) (fI.nil (kd:=pG) (E:=120)) ((rd l x7).Goal) bd J fq (λyC n29 qF rH pI pJ=>lK J (Gi (kx:=(rd l x7).Goal) (v:=(yC,List.length (aR x5 ((rd l x7).Goal)),n29)) T (Ky.int .i64 u3) J J J J J (G6 (j:=1) J pJ)) (an (so [0,1,1]) (ao 12 ?_))))))));obtain⟨eJ,Z8⟩:=az Z8;refine B6 (kd:=pG) (xs:=(aR x5 ((rd l x7).Goal))) (ys:=[(ck.mk ((rd l x7).Goal) v12 [])]) T (g:=6) (q:=5) J J J J J J J J J J pI J J jO eJ J (λa31 n31 Ag wz=>an (so [0,1,1]) (ao 13 (QS (q:=6) (kx:=(rd l x7).Goal) (ys:=((aR x5 ((rd l x7).Goal))++[(ck.mk ((rd l x7).Goal) v12 [])])) T (Ky.int .i64 u3) 1 J J J J J J J pJ J J wz (λFy wA=>an sl (ae (rx T 1 (am (_,_,_,_,_,_,_) [0,2,0,0] ⟨oi Z8,wA,fF⟩ J J)))))))
    refine rc T 2 (am (_,_,_,_,_,_,_) [0,2,0,0] ⟨oi Z8,s6,s7⟩ J J)
   rintro _ ⟨aU,bc,bY,dK,dV,je,fX⟩ ⟨rfl,dm,gF⟩ Z5;refine rc T 4 (lf T 1 J (FX (j:=2) (fI.nil (kd:=pG) (E:=120)) ((rd l x7).Goal) bd J dm (λa33 n33 Fz ur si tN=>br J (Gi (kx:=(rd l x7).Goal) (v:=(a33,List.length (aR aU ((rd l x7).Goal)),n33)) T (Ky.int .i64 u3) J J J J J (G6 (j:=2) J tN)) (ro T 1 ?_))));obtain⟨ir,Z5⟩:=az Z5;obtain⟨q35,o35,MU⟩:=si.r.addr ir.1 ir.2;refine ix T J MU ir (ro T 3 (Mn (j:=4) J si ir (λ_ _ FB o37 Dn=>?_)));obtain⟨yD,n36,yu,xY,rfl,rfl⟩:=o37;refine Mq (ks [0,1,2,7,8,10,15,26,27,28] J (fz J (rg [8,11] [0,0,0,0,0,0] mix (bO bN) (λhg pf=>ha T 8 [0,1,2,3] sz hg pf J (av 4 sz hg pf J (aw T J J J J (CH (j:=4) J (vq.cells Dn) MU 2 J)) (ha T 6 [5] sz hg pf J (av 6 sz hg pf J (aw T J J J J (aK (j:=1) J J)) (ao 7 (cY (k:=(Fl.int .i64)) T [(rd l x7).Id] J J J J J J J J J (λJd Ah Bm=>an (so [0,0,0,0,0,0]) (ao 8 ?_)))))))))));obtain⟨jr,Z5⟩:=az Z5;refine dW (k:=(Fl.int .i64)) (xs:=(rd (aR aU ((rd l x7).Goal)) bY).de) T (g:=5) J J J J J J J J J J xY (oO Bm 6) jr J (λa39 n39 LR Bn=>an sl (hb T 9 sl hg pf J (hb T 10 sl hg pf J (ao 11 (Mo T 4 2 [(ii (rd (aR aU ((rd l x7).Goal)) bY).Goal),(ii (rd (aR aU ((rd l x7).Goal)) bY).fe),(ll a39 ((rd (aR aU ((rd l x7).Goal)) bY).de++[(rd l x7).Id]) n39)] J J J J J J Dn MU J J J J (λLS E6=>an sl (ae (f_ [5] J (Mm (j:=4) (q:=6) (ck.mk ((rd (aR aU ((rd l x7).Goal)) bY).Goal) ((rd (aR aU ((rd l x7).Goal)) bY).fe) ((rd (aR aU ((rd l x7).Goal)) bY).de++[(rd l x7).Id])) J E6 J J ⟨a39,n39,LR,Bn,J,J⟩ (λgI tP=>QT (j:=2) (q:=4) (List.set (aR aU ((rd l x7).Goal)) (Int.toNat bY) (ck.mk ((rd (aR aU ((rd l x7).Goal)) bY).Goal) ((rd (aR aU ((rd l x7).Goal)) bY).fe) ((rd (aR aU ((rd l x7).Goal)) bY).de++[(rd l x7).Id]))) J tN J J tP (by simp only[List.length_set]) (λFC zL=>rx T 2 (am (_,_,_,_,_,_) [0,1,1] ⟨oi Z5,zL,gF⟩ J J))))))))))))
  rintro _ ⟨x9,aN,a8,H8,a9,H9⟩ ⟨rfl,s8,s9⟩ Z3;refine rc T 5 (ar (_,_,_,_,_,_,_) [0,0,0] ⟨Z3,s8,s9⟩ J J)
 refine rc T 14 (kr nR.R [] [] J aed Z3 (nR.c · (rO dr 0) gB) (λv17 Z3=>?_));rintro _ _ ⟨a44,n44,Ya,Dp,rfl,rfl⟩;refine fz J (ro T 5 (bq (lq [89,90] [0,2] (λ(⟨KJ,cg,eA,qC,lU,Jf,FD,FK,n48,FE⟩:Nat×(List (Int×(List ck)))×List Int×List ck×Int×Nat×Hp×Option Addr×Nat×Hp)=>(kc.l1 KJ v17 cg eA qC lU=some r/\w9 (fI pG 120) (Ky.int .i64 u3) eA cg Jf FD/\fI pG 120 qC FK n48 FE,[(7,(.map (some Jf))),(16,(ll FK qC n48)),(91,(ii lU))],[FD,FE])) J J (fuel,x5,[],[],0,a6,H6,none,0,[]) [0,2,0,1] ⟨Z3,s6,fI.nil⟩ J J ?_)));rintro KJ ⟨cg,eA,qC,lU,Jf,FD,FK,n48,FE⟩ ⟨cA,HZ,Li⟩;rw[kc.l1] at cA;refine rc T 6 (cd J cA (λcA=>?_) (λcA=>?_))
 ·refine rc T 6 ?_;obtain⟨jI,cA⟩:=az cA;obtain⟨q49,o49,RY⟩:=Dp.r.addr jI.1 jI.2;refine ix T J RY jI (le T 0 (oO Dp 1) RY jI J J (ro T 7 ?_));obtain⟨lM,cA⟩:=az cA;refine FX (j:=2) (fI.nil (kd:=pG) (E:=120)) (rd v17 lU) lM J HZ (λa50 n50 Yd Ye PK Lj=>br J (Gi (kx:=(rd v17 lU)) (v:=(a50,List.length (aR cg (rd v17 lU)),n50)) T (Ky.int .i64 u3) J J J J J (G6 (j:=2) J Lj)) ?_);obtain⟨Av,cA⟩:=az cA;refine aX (B6 (kd:=pG) (xs:=qC) (ys:=(aR cg (rd v17 lU))) T (g:=3) (q:=4) J J J J J J J J J J Li J J PK Av J (λL4 n52 LU E7=>ro T 2 (ZK (j:=2) J Lj (λYf PL=>rx T 7 (ar (_,_,_,_,_,_,_,_,_) [0,0,0,0] ⟨cA,PL,E7⟩ J J)))))
 refine rc T 12 ?_
 cases cA;exact p1 T J [3,0] ⟨FK,n48,FE,Li,J,J⟩ J
end
end Go.Proofs.YthodkonhneebbaaGreatDoor
