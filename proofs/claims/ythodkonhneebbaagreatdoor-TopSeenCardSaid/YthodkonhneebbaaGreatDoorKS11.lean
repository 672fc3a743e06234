/- What the functions of some packages compute, each as a function of plain Lean, with its contract. No condition. -/
import Derived.Test.YthodkonhneebbaaGreatDoorKST
import Derived.Test.YthodkonhneebbaaGreatDoorKS7
import Derived.Test.YthodkonhneebbaaGreatDoorKS8
import Derived.Test.YthodkonhneebbaaGreatDoorKS10
import Derived.Test.YthodkonhneebbaaGreatDoorKS5
import Derived.Test.YthodkonhneebbaaGreatDoorKS6
namespace Go.Proofs.YthodkonhneebbaaGreatDoor
open Go.Hx
set_option maxRecDepth 100000
set_option linter.unusedSimpArgs false
set_option linter.unusedVariables false
set_option maxHeartbeats 4000000
set_option autoImplicit true
set_option relaxedAutoImplicit true
noncomputable section
def HR.f:Option Int:=some 0
theorem HR.c (H:HR.f=some r):
 QU 108 [(.pointer none)] [] F (uu r):=by
 unfold HR.f at H;refine aD Tryz.func108 J J (λW=>rc T 12 (mu J (rc T 7 ?_)))
 cases H;exact p0 T J [0] J
def HS.f (ag:ki) (jX:dM) (fi:bC):Option Int:=some ag.count
theorem HS.c (H:HS.f ag jX fi=some r) (cK:uw ag aW l7 jV db) (zN:mQ jX l7 jV oZ) (pM:iP fi jV mm):
 QU 108 [(pp aW)] [db,oZ,mm] F (uu r):=by
 unfold HS.f at H;refine aD Tryz.func108 J J (λW=>rc T 12 (eT J (rc T 3 ?_)));obtain⟨BK,H7,s7,lr⟩:=(λx=>x) cK;refine bS 0 (congrArg some lr) (fz J (rc T 4 (lf T 3 J (ro T 4 ?_))))
 cases H;refine dw [3,3] J lr (p0 T J [3,0,0,0] J)
def ra.f (m:dM) (g:bC):Option (Option ki):=some (some (ki.mk none 0))
def ra.R (w0:Nat) (w1:Nat) (r:(Option ki)):bg:=λu G=> ∃(u0:Value) (G0:List Hp),Ys w0 w1 r u0 G0/\u=u0/\G=G0
theorem ra.c (H:ra.f m g=some r) (sk:mQ m iS fo np) (fM:iP g fo gr):
 QR 151 [(pp iS),(pp fo)] [np,gr] [np,gr] F (ra.R iS fo r):=by
 unfold ra.f at H;refine aD Tryz.func151 J J (λW=>rc T 16 (eT J (rc T 7 (nc T J (λb3=>ro T 4 ?_)))))
 cases H;refine bq (f_ [3,3] J (p1 T J [3,0,0,0] ⟨_,_,⟨b3,(List.flatten [(cl b3 233 [(pp iS),(pp fo),(.pointer none),(uu 0)]),[]]),(show uw (ki.mk none 0) b3 iS fo (List.flatten [(cl b3 233 [(pp iS),(pp fo),(.pointer none),(uu 0)]),[]]) from⟨(.pointer none),[],(show LX none iS fo (.pointer none) [] from⟨J,J⟩),J⟩),J,J⟩,J,J⟩ J))
def HT.f:Option Unit:=some ()
theorem HT.c (H:HT.f=some r):
 QU 118 [(.pointer none)] [] F (.tuple #[]):=by
 unfold HT.f at H;refine aD Tryz.func118 J J (λW=>rc T 6 (eT J (rc T 1 (jq ?_))))
 cases H;exact p0 T J [0] J
def Bj.f (ag:ki) (jX:dM) (fi:bC):Option ki:=some (ki.mk none ag.count)
def Bj.R (ny:Nat) (OH:Nat) (OI:Nat) (r:ki):bg:=λu G=> ∃(H0:Hp),uw r ny OH OI H0/\u=(.tuple #[])/\G=[H0]
theorem Bj.c (H:Bj.f ag jX fi=some r) (cK:uw ag aW l7 jV db) (zN:mQ jX l7 jV oZ) (pM:iP fi jV mm):
 QR 118 [(pp aW)] [db,oZ,mm] [oZ,mm] F (Bj.R aW l7 jV r):=by
 unfold Bj.f at H;refine aD Tryz.func118 J J (λW=>rc T 6 (mu J ?_));obtain⟨BK,H7,s7,lr⟩:=(λx=>x) cK;refine bS 0 (congrArg some lr) (fz J (rc T 4 (sg T 3 J (ro T 1 (jq ?_)))))
 cases H;refine bq (f_ [3,4] J (p1 T J [4,0,0,0] ⟨(List.flatten [(cl aW 233 [(pp l7),(pp jV),(.pointer none),(uu ag.count)]),[]]),(show uw (ki.mk none ag.count) aW l7 jV (List.flatten [(cl aW 233 [(pp l7),(pp jV),(.pointer none),(uu ag.count)]),[]]) from⟨(.pointer none),[],(show LX none l7 jV (.pointer none) [] from⟨J,J⟩),J⟩),J,J⟩ J))
def jB.l1:Nat->Int->bC->(Int×Int)->(List (Int×Int))->Int->Int->List dL->Int->Option ((List (Int×Int))×(List dL))
 |0,_,_,_,_,_,_,_,_=>none
 |pz+1,goal,fi,v1,bj,bc,aU,cg,eA=>if eA<=3 then((mj.f v1.1 v1.2 bc eA).bind λv25=>(if v25<0 then(some true) else((gR.f v1.1 v1.2 v25).bind λv28=>(gR.f v1.1 v1.2 goal).bind λpR=>if(v28 !=pR)=true then(some true) else((iU.f fi v25).bind λv30=>some (v30==255)))).bind λiA=>if iA=true then(jB.l1 pz goal fi v1 bj bc aU cg (aa (eA+1))) else((iU.f fi bc).bind λv31=>(nG.f (e_.mk cg) (aa (aU+v31)) v25).bind λv32=>jB.l1 pz goal fi v1 bj bc aU v32.l (aa (eA+1)))) else(some ((cJ bj bc aU),cg))
def jB.l0:Nat->Int->bC->(Int×Int)->(List (Int×Int))->List dL->Int->Int->Bool->Option (List (Int×Int))
 |0,_,_,_,_,_,_,_,_=>none
 |zo+1,goal,fi,v1,bj,bx,aU,bc,bY=>if bY=true then((if(bR bj bc)=true then(some (bj,bx)) else(jB.l1 fuel goal fi v1 bj bc aU bx 0)).bind λ(cD,cy)=>(nF.f (e_.mk cy)).bind λv33=>jB.l0 zo goal fi v1 cD v33.2.2.2.l v33.1 v33.2.1 v33.2.2.1) else(some bj)
def jB.f (ag:ki) (goal:Int) (jX:dM) (fi:bC):Option (List (Int×Int)):=(iV.f fi).bind λv1=>(iU.f fi goal).bind λv2=>if(v2==255)=true then(some ([]:(List (Int×Int)))) else((vT.f).bind λv3=>cT v3 (none) (λAd=>(nG.f Ad 0 goal).bind λv4=>(nF.f v4).bind λv5=>jB.l0 fuel goal fi v1 ([]:(List (Int×Int))) v5.2.2.2.l v5.1 v5.2.1 v5.2.2.1))
def jB.R (r:(List (Int×Int))):bg:=λu G=> ∃(a0:Nat) (H0:Hp),cV (Ky.int .i64 u3) (λx:Int=>Value.int .i64 x) r a0 H0/\u=(.map (some a0))/\G=[H0]
theorem jB.c (H:jB.f ag goal jX fi=some r) (cK:uw ag aW l7 jV db) (zN:mQ jX l7 jV oZ) (pM:iP fi jV mm):
 QR 214 [(pp aW),(ii goal)] [db,oZ,mm] [db,oZ,mm] F (jB.R r):=by
 unfold jB.f at H;refine aD Tryz.func214 J J (λW=>rc T 6 ?_);obtain⟨BK,H7,s7,lr⟩:=(λx=>x) cK;refine bS 0 (congrArg some lr) (fz J (rc T 4 (lf T 3 J (k [1] J uK H (iV.c · pM) (λv1 H=>ro T 9 (aX (vt T (Ky.int .i64 u3) (λx:Int=>Value.int .i64 x) J J J trivial (λa8 H8 s8=>ro T 9 (lf T 3 J (ro T 1 (k [1] J vO H (iU.c · pM) (λv2 H=>ro T 3 (cb J H (λH=>?_) (λH=>?_))))))))))))))
 ·refine rc T 8 ?_
  cases H;refine dw [3,3] J lr (p1 T J [3,3,0,0,0] ⟨a8,H8,s8,J,J⟩ J)
 refine rc T 4 (kr vT.R [] [] J TE H (vT.c ·) (λv3 H=>?_));rintro _ _ ⟨_,_,O5,rfl,rfl⟩;rcases v3 with _ |Ad
 ·replace H:=eW J H
  cases H
 replace H:=eX J H;obtain⟨b9,cB,n10,b_,bP,rfl,rfl⟩:=O5;refine ro T 7 (kr (nG.R b9) [] [6,6] J J7 H (nG.c · bP) (λv4 H=>?_));rintro _ _ ⟨dj,n11,cz,c_,rfl,rfl⟩;refine fz J (ro T 1 (ks [0,1,5,6,7,8] J (rx T 5 (kr (nF.R b9) [] [6,6] J J8 H (nF.c · c_) (λv5 H=>?_)))));rintro _ _ ⟨a12,n12,dq,dz,rfl,rfl⟩;refine fz J (ro T 10 (lq [0,1,5,6,8] [2,2,2,0,0] (λ(⟨zo,bj,bx,aU,bc,bY,jS,dI,jT,n16,fY⟩:Nat×(List (Int×Int))×List dL×Int×Int×Bool×Nat×Hp×Option Addr×Nat×Hp)=>(jB.l0 zo goal fi v1 bj bx aU bc bY=some r/\cV (Ky.int .i64 u3) (λx:Int=>Value.int .i64 x) bj jS dI/\aj fL 359 bx jT n16 fY,[(7,(.map (some jS))),(9,(ii aU)),(10,(ii bc)),(11,(bb bY))],[dI,(cl b9 357 [(ll jT bx n16)]),fY])) J J (fuel,([]:(List (Int×Int))),v5.2.2.2.l,v5.1,v5.2.1,v5.2.2.1,a8,H8,a12,n12,dq) [2,2,2,0,0,0,0,0] ⟨H,s8,dz⟩ J J ?_));rintro zo ⟨bj,bx,aU,bc,bY,jS,dI,jT,n16,fY⟩ ⟨Z8,dP,fU⟩;rw[jB.l0] at Z8;refine rc T 6 (cb J Z8 (λZ8=>?_) (λZ8=>?_))
 ·refine rc T 2 (mq Z8 [0,1,5,6,8] [0,0,0,0,0] (λQh (⟨cD,cy,a17,eH,jo,n18,ft⟩:(List (Int×Int))×List dL×Nat×Hp×Option Addr×Nat×Hp)=>((cD,cy)=Qh/\cV (Ky.int .i64 u3) (λx:Int=>Value.int .i64 x) cD a17 eH/\aj fL 359 cy jo n18 ft,[(7,(.map (some a17)))],[eH,(cl b9 357 [(ll jo cy n18)]),ft])) J J (λQh lZ _=>?_) ?_)
  ·refine rc T 6 (br J (qa (k:=bc) T (Ky.int .i64 u3) (λx:Int=>Value.int .i64 x) J J J J J (oJ dP (j:=5) J)) (ro T 12 (cb J lZ (λlZ=>?_) (λlZ=>?_))))
   ·refine rc T 4 (am (_,_,_,_,_,_,_) [0,0,0,0,0,0,0,0] ⟨oi lZ,dP,fU⟩ J J)
   refine rc T 7 (aX (pX (g:=5) (m:=bj) (k:=bc) (v:=aU) T (Ky.int .i64 u3) (λx:Int=>Value.int .i64 x) J J J J J J J dP (λkT ie=>ro T 8 (lq [0,1,5,6,7,8,9,10] [0,0,0,0,0,0] (λ(⟨pz,cg,eA,a21,n21,kq⟩:Nat×List dL×Int×Option Addr×Nat×Hp)=>(jB.l1 pz goal fi v1 bj bc aU cg eA=some Qh/\aj fL 359 cg a21 n21 kq,[(14,(ii eA))],[(cl b9 357 [(ll a21 cg n21)]),kq])) J J (fuel,bx,0,jT,n16,fY) [0,0,0,0,0,0,0,0] ⟨lZ,fU⟩ J J ?_))));rintro pz ⟨cg,eA,a21,n21,kq⟩ ⟨bt,jC⟩;rw[jB.l1] at bt;refine rc T 7 (cd J bt (λbt=>?_) (λbt=>?_))
   ·refine rc T 10 (k [] J AN bt (mj.c ·) (λv25 bt=>ro T 4 (mq bt [0,1,5,6,7,8,9,10,14,15] [0,0,0,0,0,0,0,0] (λIX (iA:Bool)=>(iA=IX,[(90,(bb iA))],[])) J J (λIX cA _=>?_) ?_)))
    ·refine rc T 4 (ad 71 J cA (λcA=>?_) (λcA=>?_))
     ·refine ro T 21 (am _ [0,0,0,0,0,0,0,0] (oi cA) J J)
     refine ro T 3 (k [] J rU cA (gR.c ·) (λv28 cA=>ro T 3 (k [] J rU cA (gR.c ·) (λpR cA=>ro T 3 (ab 82 J cA (λcA=>?_) (λcA=>?_))))))
     ·refine ro T 10 (am _ [0,0,0,0,0,0,0,0] (oi cA) J J)
     refine ro T 3 (lf T 1 J (ro T 1 (k [4] J vO cA (iU.c · pM) (λv30 cA=>ro T 4 (am _ [0,0,0,0,0,0,0,0] (oi cA) J J)))))
    rintro _ iA rfl bt;refine cb J bt (λbt=>?_) (λbt=>?_)
    ·refine rc T 10 (ar (_,_,_,_,_) [0,0,0,0,0,0,0,0] ⟨bt,jC⟩ J J)
    refine rc T 8 (lf T 1 J (ro T 1 (k [4] J vO bt (iU.c · pM) (λv31 bt=>ro T 2 (kr (nG.R b9) [] [6,6] J J7 bt (nG.c (h:=(e_.mk cg)) · jC) (λv32 bt=>?_))))));rintro _ _ ⟨a22,n22,lX,iz,rfl,rfl⟩;refine fz J (ro T 9 (ar (_,_,_,_,_) [0,0,0,0,0,0,0,0] ⟨bt,iz⟩ J J))
   refine rc T 6 (am (_,_,_,_,_,_,_) [0,0,0,0,0,0,0,0] ⟨oi bt,ie,jC⟩ J J)
  rintro _ ⟨cD,cy,a17,eH,jo,n18,ft⟩ ⟨rfl,fq,fF⟩ Z8;refine rc T 2 (kr (nF.R b9) [] [6,6] J J8 Z8 (nF.c (h:=(e_.mk cy)) · fF) (λv33 Z8=>?_));rintro _ _ ⟨a23,n23,jE,gG,rfl,rfl⟩;refine fz J (ro T 9 (ar (_,_,_,_,_,_,_,_,_,_) [0,0,0,0,0,0,0,0] ⟨Z8,fq,gG⟩ J J))
 refine rc T 12 ?_
 cases Z8;refine dw [1,1] J lr (p1 T J [3,5,1,1,0] ⟨jS,dI,dP,J,J⟩ J)
def tL.f (ag:ic) (node:Int) (key:Int):Option (Bool×ic):=if(0<=node/\node<(List.length ag.aQ:Int)) then(if key≥(aa (rd ag.aQ node)) then(some (false,ag)) else(some (true,(ic.mk ag.goal ag.bM (List.set ag.aQ (Int.toNat node) (IntKind.i32.wrap key)))))) else none
def tL.R (aW:Nat) (r:(Bool×ic)):bg:=λu G=> ∃a0 n0 H0,aj (Fl.int .i32) 21 r.2.aQ a0 n0 H0/\u=(bb r.1)/\G=[(cl aW 235 [(ii r.2.goal),(ii r.2.bM),(ll a0 r.2.aQ n0)]),H0]
theorem tL.c (H:tL.f ag node key=some r) (wF:aj (Fl.int .i32) 21 ag.aQ xc xK Ai):
 QR 216 [(pp aW),(ii node),(ii key)] [(cl aW 235 [(ii ag.goal),(ii ag.bM),(ll xc ag.aQ xK)]),Ai] [] F (tL.R aW r):=by
 unfold tL.f at H;refine aD Tryz.func216 J J (λW=>rc T 12 (lf T 0 J (ro T 1 ?_)));obtain⟨c1,H⟩:=az H;obtain⟨q3,o3,e3⟩:=wF.r.addr c1.1 c1.2;refine ix T J e3 c1 (le T 0 (oO wF 1) e3 c1 J J (ro T 4 (cd J H (λH=>?_) (λH=>?_))))
 ·refine rc T 7 ?_
  cases H;exact p1 T J [0,0,0] ⟨xc,xK,Ai,wF,J,J⟩ J
 refine rc T 7 (lf T 0 J (ro T 3 (ix T J e3 c1 (aX (kX (k:=(Fl.int .i32)) T 1 0 (IntKind.i32.wrap key) J J J J J J wF e3 c1 J J J (λH4 s4=>kg [] [1,1] [1,1,0] [] [(cl aW 235 [(ii ag.goal),(ii ag.bM),(ll xc (List.set ag.aQ (Int.toNat node) (IntKind.i32.wrap key)) xK)])] J J trivial dJ (ro T 8 ?_)))))))
 cases H;exact p1 T J [2,0,0] ⟨xc,xK,H4,s4,J,J⟩ J
def gi.l2:Nat->Int->Int->(List eB)->Int->Int->List Int->List dL->Int->Option (Int×Int×(List Int)×(List dL))
 |0,_,_,_,_,_,_,_,_=>none
 |G_+1,goal,fG,sw,DJ,DK,BO,z7,rC=>if rC<(List.length sw:Int) then(if(0<=rC/\rC<(List.length sw:Int)) then((tL.f (ic.mk DJ DK BO) ((rd sw rC).To) (aa (fG+(rd sw rC).kS))).bind λv64=>if v64.1=true then((nG.f (e_.mk z7) (aa (fG+(rd sw rC).kS)) ((rd sw rC).To)).bind λXV=>gi.l2 G_ goal fG sw v64.2.goal v64.2.bM v64.2.aQ XV.l (aa (rC+1))) else(gi.l2 G_ goal fG sw v64.2.goal v64.2.bM v64.2.aQ z7 (aa (rC+1)))) else none) else(some (DJ,DK,BO,z7))
def gi.l1:Nat->Int->dM->bC->Int->Int->List Int->List dL->Int->Int->Bool->Option (Option ic)
 |0,_,_,_,_,_,_,_,_,_,_=>none
 |xF+1,goal,jX,fi,ja,gz,ik,jc,fG,jd,iB=>if iB=true then((if(0<=jd/\jd<(List.length ik:Int)) then(if fG>(aa (rd ik jd)) then(some (ja,gz,ik,jc)) else((hJ.f jX jd fi).bind λsw=>gi.l2 fuel goal fG sw ja gz ik jc 0)) else none).bind λ(IB,IC,Fw,DI)=>(nF.f (e_.mk DI)).bind λv66=>gi.l1 xF goal jX fi IB IC Fw v66.2.2.2.l v66.1 v66.2.1 v66.2.2.1) else(some (some (ic.mk ja gz ik)))
def gi.l0:Nat->Int->dM->bC->(List (Int×Int))->(List Int)->Int->Int->List Int->List dL->Int->Option (Option ic)
 |0,_,_,_,_,_,_,_,_,_,_=>none
 |KG+1,goal,jX,fi,v5,v7,aU,bc,bY,dg,cD=>if cD<(List.length v7:Int) then((if(0<=cD/\cD<(List.length v7:Int)) then((if(bR v5 (rd v7 cD))=true then((tL.f (ic.mk aU bc bY) (rd v7 cD) (aR v5 (rd v7 cD))).bind λpR=>some (pR.2.goal,pR.2.bM,pR.2.aQ,pR.1)) else(some (aU,bc,bY,false))).bind λ(qC,lU,iA,ml)=>if ml=true then((nG.f (e_.mk dg) (aR v5 (rd v7 cD)) (rd v7 cD)).bind λv30=>some (qC,lU,iA,v30.l)) else(some (qC,lU,iA,dg))) else none).bind λ(dE,jk,dH,cg)=>gi.l0 KG goal jX fi v5 v7 dE jk dH cg (aa (cD+1))) else((nF.f (e_.mk dg)).bind λv31=>gi.l1 fuel goal jX fi aU bc bY v31.2.2.2.l v31.1 v31.2.1 v31.2.2.1)
def gi.f (ag:ki) (goal:Int) (jX:dM) (fi:bC):Option (Option ic):=(iV.f fi).bind λv1=>(oC.f fi).bind λv2=>(pP.f [2147483647] (aa (v1.1*v1.2))).bind λv3=>(vT.f).bind λv4=>cT v4 (none) (λrD=>(jB.f ag goal jX fi).bind λv5=>(gR.f v1.1 v1.2 goal).bind λv6=>(xJ.f jX v6 fi).bind λv7=>gi.l0 fuel goal jX fi v5 v7 goal v2 v3 rD.l 0)
def gi.R (r:(Option ic)):bg:=λu G=> ∃(u0:Value) (G0:List Hp),Yt r u0 G0/\u=u0/\G=G0
theorem gi.c (H:gi.f ag goal jX fi=some r) (cK:uw ag aW l7 jV db) (zN:mQ jX l7 jV oZ) (pM:iP fi jV mm):
 QR 182 [(pp aW),(ii goal)] [db,oZ,mm] [db,oZ,mm] F (gi.R r):=by
 unfold gi.f at H;refine aD Tryz.func182 J J (λW=>rc T 6 ?_);obtain⟨BK,H7,s7,lr⟩:=(λx=>x) cK;refine bS 0 (congrArg some lr) (fz J (rc T 4 (lf T 3 J (k [1] J uK H (iV.c · pM) (λv1 H=>ro T 13 (lf T 3 J (k [1] J Co H (oC.c · pM) (λv2 H=>aX (cY (k:=(Fl.int .i32)) T [2147483647] J J J J J J J J J (λa8 H8 s8=>ro T 3 (kr pP.R [] [] J ady H (pP.c · (oO s8 5) s8.bT) (λv3 H=>?_))))))))))));rintro _ _ ⟨a9,n9,H9,s9,rfl,rfl⟩;refine fz J (ro T 1 (nc T J (λgd=>ro T 5 (kr vT.R [] [] J TE H (vT.c ·) (λv4 H=>?_)))));rintro _ _ ⟨_,_,O5,rfl,rfl⟩;rcases v4 with _ |rD
 ·replace H:=eW J H
  cases H
 replace H:=eX J H;obtain⟨jU,a12,n12,dq,dz,rfl,rfl⟩:=O5;refine ro T 7 ?_;obtain⟨v5,V6,H⟩:=gu H;refine aX (FW (As:=[(cl aW 233 [(pp l7),(pp jV),BK,(uu ag.count)]),H7,oZ,mm]) (jB.R v5) [(cl aW 233 [(pp l7),(pp jV),BK,(uu ag.count)]),H7,oZ,mm] [3,3,0,0] J J J J adz J J (Jz (A:=[db,oZ,mm]) (A2:=[db,oZ,mm]) (by simp only[lr,List.flatten_cons,List.flatten_append,List.flatten_nil,List.append_nil,List.append_assoc]) (by simp only[lr,List.flatten_cons,List.flatten_append,List.flatten_nil,List.append_nil,List.append_assoc]) (jB.c V6 cK zN pM)) ?_)
 rintro _ _ ⟨dK,dV,dm,rfl,rfl⟩;refine fz J (ro T 2 (ke [0,1,5,6,7,8,9] [0,1,1,1,1,1,1,1,1,1] J J (rx T 3 (fz J (rg [] [0,0,0,0,0,0,0,0,0,0] mix (bO bN) (λhg pf=>ha T 8 [0,1,2] sz hg pf J (av 3 sz hg pf J (aw T J J J J (aK (j:=6) J J)) (ha T 3 [4,5,6,10] sz hg pf J (ao 7 (kh [] J rU H (gR.c ·) (λv6 H=>an sz (ao 8 (kR xJ.R [8,8] [8,8] J adA H (xJ.c · zN pM) (λv7 H=>?_))))))))))))));rintro _ _ ⟨je,n14,fX,gF,rfl,rfl⟩;refine fz J (an (so [0,0,0,0,0,0,0,0,1,1]) (ha T 0 [9] (so [0,0,0,0,0,0,0,0,1,1]) hg pf J (ae (rx T 2 (lq [0,7,8,9,52,53] [0,5,5,6,6,4,4] (λ(⟨KG,aU,bc,bY,dg,cD,a17,n17,eH,jo,n18,ft⟩:Nat×Int×Int×List Int×List dL×Int×Option Addr×Nat×Hp×Option Addr×Nat×Hp)=>(gi.l0 KG goal jX fi v5 v7 aU bc bY dg cD=some r/\aj (Fl.int .i32) 21 bY a17 n17 eH/\aj fL 359 dg jo n18 ft,[(54,(ii cD))],[(cl gd 235 [(ii aU),(ii bc),(ll a17 bY n17)]),eH,(cl jU 357 [(ll jo dg n18)]),ft])) J J (fuel,goal,v2,v3,rD.l,0,a9,n9,H9,a12,n12,dq) [0,5,5,6,6,4,4,1,0,0,0] ⟨H,s9,dz⟩ J J ?_)))));rintro KG ⟨aU,bc,bY,dg,cD,a17,n17,eH,jo,n18,ft⟩ ⟨Z9,fq,fF⟩;rw[gi.l0] at Z9;refine rc T 6 (cd J Z9 (λZ9=>?_) (λZ9=>?_))
 ·refine rc T 2 (mq Z9 [0,7,8,9,52,53,54] [0,0,0,0,0,0,0] (λz23 (⟨dE,jk,dH,cg,kW,n19,kT,a20,n20,oq⟩:Int×Int×List Int×List dL×Option Addr×Nat×Hp×Option Addr×Nat×Hp)=>((dE,jk,dH,cg)=z23/\aj (Fl.int .i32) 21 dH kW n19 kT/\aj fL 359 cg a20 n20 oq,[],[(cl gd 235 [(ii dE),(ii jk),(ll kW dH n19)]),kT,(cl jU 357 [(ll a20 cg n20)]),oq])) J J (λz23 bf _=>?_) ?_)
  ·refine rc T 3 ?_;obtain⟨ir,bf⟩:=az bf;obtain⟨EX,o21,Gb⟩:=gF.r.addr ir.1 ir.2;refine ix T J Gb ir (le T 0 (oO gF 6) Gb ir J J (ro T 7 (br J (qa (k:=(rd v7 cD)) T (Ky.int .i64 u3) (λx:Int=>Value.int .i64 x) J J J J J (oJ dm (j:=5) J)) (ro T 7 (mq bf [0,7,8,9,11,12,52,53,54] [0,0,0,0,0,4,4,0,0] (λz28 (⟨qC,lU,iA,ml,a22,n22,lX⟩:Int×Int×List Int×Bool×Option Addr×Nat×Hp)=>((qC,lU,iA,ml)=z28/\aj (Fl.int .i32) 21 iA a22 n22 lX,[(70,(bb ml))],[(cl gd 235 [(ii qC),(ii lU),(ll a22 iA n22)]),lX])) J J (λz28 ff _=>?_) ?_)))))
   ·refine rc T 3 (ab 65 J ff (λff=>?_) (λff=>?_))
    ·refine ro T 3 (kr (tL.R gd) [] [7,7] J TF ff (tL.c (ag:=(ic.mk aU bc bY)) · fq) (λpR ff=>?_));rintro _ _ ⟨a23,n23,jE,gG,rfl,rfl⟩;refine fz J (ro T 3 (am (_,_,_,_,_,_,_) [0,0,0,0,0,2,2,0,0,0,0] ⟨oi ff,gG⟩ J J))
    refine ro T 7 (am (_,_,_,_,_,_,_) [0,0,0,0,0,4,4,0,0,0,0] ⟨oi ff,fq⟩ J J)
   rintro _ ⟨qC,lU,iA,ml,a22,n22,lX⟩ ⟨rfl,iz⟩ bf;refine cb J bf (λbf=>?_) (λbf=>?_)
   ·refine rc T 4 (kr (nG.R jU) [] [5,5] J J7 bf (nG.c (h:=(e_.mk dg)) · fF) (λv30 bf=>?_));rintro _ _ ⟨a24,n24,rG,mf,rfl,rfl⟩;refine fz J (ro T 3 (am (_,_,_,_,_,_,_,_,_,_) [0,0,0,0,0,0,0,0,0,0,0] ⟨oi bf,iz,mf⟩ J J))
   refine rc T 3 (am (_,_,_,_,_,_,_,_,_,_) [0,0,0,0,0,2,2,2,2,0,0] ⟨oi bf,iz,fF⟩ J J)
  rintro _ ⟨dE,jk,dH,cg,kW,n19,kT,a20,n20,oq⟩ ⟨rfl,ie,me⟩ Z9;refine rc T 5 (ar (_,_,_,_,_,_,_,_,_,_,_) [0,0,0,0,0,0,0,0,0,0,0] ⟨Z9,ie,me⟩ J J)
 refine rc T 9 (kr (nF.R jU) [] [9,9] J J8 Z9 (nF.c (h:=(e_.mk dg)) · fF) (λv31 Z9=>?_));rintro _ _ ⟨a25,n25,gV,jh,rfl,rfl⟩;refine fz J (ro T 10 (lq [0,7,8] [0,0,0,0,0] (λ(⟨xF,ja,gz,ik,jc,fG,jd,iB,a28,n28,sC,yC,n29,qF⟩:Nat×Int×Int×List Int×List dL×Int×Int×Bool×Option Addr×Nat×Hp×Option Addr×Nat×Hp)=>(gi.l1 xF goal jX fi ja gz ik jc fG jd iB=some r/\aj (Fl.int .i32) 21 ik a28 n28 sC/\aj fL 359 jc yC n29 qF,[(14,(ii fG)),(15,(ii jd)),(16,(bb iB))],[(cl gd 235 [(ii ja),(ii gz),(ll a28 ik n28)]),sC,(cl jU 357 [(ll yC jc n29)]),qF])) J J (fuel,aU,bc,bY,v31.2.2.2.l,v31.1,v31.2.1,v31.2.2.1,a17,n17,eH,a25,n25,gV) [0,0,0,0,0,2,2,2,2] ⟨Z9,fq,jh⟩ J J ?_));rintro xF ⟨ja,gz,ik,jc,fG,jd,iB,a28,n28,sC,yC,n29,qF⟩ ⟨fg,jO,pI⟩;rw[gi.l1] at fg;refine rc T 6 (cb J fg (λfg=>?_) (λfg=>?_))
 ·refine rc T 2 (mq fg [0,7,8] [0,0,0,0,0] (λz51 (⟨IB,IC,Fw,DI,B0,n30,rH,a31,n31,Ag⟩:Int×Int×List Int×List dL×Option Addr×Nat×Hp×Option Addr×Nat×Hp)=>((IB,IC,Fw,DI)=z51/\aj (Fl.int .i32) 21 Fw B0 n30 rH/\aj fL 359 DI a31 n31 Ag,[],[(cl gd 235 [(ii IB),(ii IC),(ll B0 Fw n30)]),rH,(cl jU 357 [(ll a31 DI n31)]),Ag])) J J (λz51 sI _=>?_) ?_)
  ·refine rc T 8 (lf T 5 J (ro T 1 ?_));obtain⟨Aw,sI⟩:=az sI;obtain⟨q32,o32,RT⟩:=jO.r.addr Aw.1 Aw.2;refine ix T J RT Aw (le T 0 (oO jO 6) RT Aw J J (ro T 4 (cd J sI (λsI=>?_) (λsI=>?_))))
   ·refine rc T 4 (am (_,_,_,_,_,_,_,_,_,_) [0,0,0,0,0,0,0,0,0] ⟨oi sI,jO,pI⟩ J J)
   refine rc T 7 (lf T 1 J (ro T 1 (kr hJ.R [3,3] [3,3] J adB sI (hJ.c · zN pM) (λsw sI=>?_))));rintro _ _ ⟨a33,n33,Fz,si,rfl,rfl⟩;refine fz J (ro T 5 (lq [0,7,8,14,104,105] [0,0,0,5,5,4] (λ(⟨G_,DJ,DK,BO,z7,rC,yD,n36,yu,a37,n37,FB⟩:Nat×Int×Int×List Int×List dL×Int×Option Addr×Nat×Hp×Option Addr×Nat×Hp)=>(gi.l2 G_ goal fG sw DJ DK BO z7 rC=some z51/\aj (Fl.int .i32) 21 BO yD n36 yu/\aj fL 359 z7 a37 n37 FB,[(106,(ii rC))],[(cl gd 235 [(ii DJ),(ii DK),(ll yD BO n36)]),yu,(cl jU 357 [(ll a37 z7 n37)]),FB])) J J (fuel,ja,gz,ik,jc,0,a28,n28,sC,yC,n29,qF) [0,0,0,5,5,4,0,0,0,0] ⟨sI,jO,pI⟩ J J ?_));rintro G_ ⟨DJ,DK,BO,z7,rC,yD,n36,yu,a37,n37,FB⟩ ⟨pW,xY,Dn⟩;rw[gi.l2] at pW;refine rc T 6 (cd J pW (λpW=>?_) (λpW=>?_))
   ·refine rc T 6 ?_;obtain⟨Jw,pW⟩:=az pW;obtain⟨q38,VS,RU⟩:=si.r.addr Jw.1 Jw.2;refine ix T J RU Jw (br J (fC T (cs:=[(ii (rd sw rC).To),(ii (rd sw rC).kS)]) J J J J J J (iv (k:=pA) (oO si 5) RU Jw J)) (nc T J (λb39=>sg T 10 J (ro T 6 (lf T 10 J (ro T 2 (lf T 10 J (ro T 1 (kr (tL.R gd) [] [6,6] J TF pW (tL.c (ag:=(ic.mk DJ DK BO)) · xY) (λv64 pW=>?_))))))))));rintro _ _ ⟨a40,n40,LS,E6,rfl,rfl⟩;refine fz J (ro T 2 (cb J pW (λpW=>?_) (λpW=>?_)))
    ·refine rc T 4 (lf T 8 J (ro T 2 (lf T 8 J (kr (nG.R jU) [] [6,6] J J7 pW (nG.c (h:=(e_.mk z7)) · Dn) (λXV pW=>?_)))));rintro _ _ ⟨a41,n41,FC,zL,rfl,rfl⟩;refine fz J (ro T 1 (ke [0,7,8,14,104,105,106] [0,0,0,0,0,0,1,1,1,1] J J (rx T 7 (ar (_,_,_,_,_,_,_,_,_,_,_) [0,0,0,0,0,0,0,0,0,0] ⟨pW,E6,zL⟩ J J))))
    refine rc T 8 (ar (_,_,_,_,_,_,_,_,_,_,_) [0,0,0,0,0,0,3,3,0,0] ⟨pW,E6,Dn⟩ J J)
   refine rc T 6 (am (_,_,_,_,_,_,_,_,_,_) [0,0,0,0,0,1,1,1,1] ⟨oi pW,xY,Dn⟩ J J)
  rintro _ ⟨IB,IC,Fw,DI,B0,n30,rH,a31,n31,Ag⟩ ⟨rfl,pJ,wz⟩ fg;refine rc T 2 (kr (nF.R jU) [] [7,7] J J8 fg (nF.c (h:=(e_.mk DI)) · wz) (λv66 fg=>?_));rintro _ _ ⟨a42,n42,lH,PH,rfl,rfl⟩;refine fz J (ro T 9 (ar (_,_,_,_,_,_,_,_,_,_,_,_,_) [0,0,0,0,0,0,0,0,0] ⟨fg,pJ,PH⟩ J J))
 refine rc T 12 ?_
 cases fg;refine dw [1,1] J lr (p1 T J [3,3,5,1,1,0] ⟨_,_,⟨gd,a28,n28,sC,jO,J,J⟩,J,J⟩ J)
def xX.f (ag:ki) (goal:Int) (jX:dM) (fi:bC):Option ((Option ic)×ki×dM):=(iU.f fi goal).bind λv1=>if(v1==0)=true then(some (none,ag,jX)) else((nO.f jX fi).bind λv2=>(cT ag.kept (some true) (λx5=>if(x5.goal !=goal)=true then(some true) else((oC.f fi).bind λv6=>some (x5.bM !=v6)))).bind λx3=>if x3=true then((gi.f ag goal v2.2 fi).bind λv7=>cT v7 (none) (λrE=>(sv.f ag.count 1).bind λv8=>some ((some rE),(ki.mk (some rE) v8),v2.2))) else(cT ag.kept (some (none,ag,v2.2)) (λx9=>some ((some x9),ag,v2.2))))
def xX.R (ny:Nat) (OH:Nat) (OI:Nat) (aa4:Nat) (af8:Nat) (r:((Option ic)×ki×dM)):bg:=λu G=> ∃(u0:Value) (H1:Hp) (H2:Hp),Yx r.1 r.2.1 ny OH OI u0 H1/\mQ r.2.2 aa4 af8 H2/\u=u0/\G=[H1,H2]
theorem xX.c (H:xX.f ag goal jX fi=some r) (cK:uw ag aW l7 jV db) (zN:mQ jX l7 jV oZ) (pM:iP fi jV mm):
 QR 143 [(pp aW),(ii goal)] [db,oZ,mm] [mm] F (xX.R aW l7 jV l7 jV r):=by
 unfold xX.f at H;refine aD Tryz.func143 J J (λW=>rc T 7 ?_);obtain⟨BK,H7,s7,lr⟩:=(λx=>x) cK;refine bS 0 (congrArg some lr) (fz J (rc T 7 (lf T 3 J (ro T 1 (k [1] J vO H (iU.c · pM) (λv1 H=>ro T 4 (cb J H (λH=>?_) (λH=>?_))))))))
 ·refine rc T 7 ?_
  cases H;refine dw [3,3] J lr (p1 T J [3,0,0,0] ⟨_,db,oZ,⟨J,cK⟩,zN,J,J⟩ J)
 refine rc T 7 (lf T 3 J (kr (nO.R l7 jV) [1] [0,0] J adh H (nO.c · zN pM) (λv2 H=>?_)));rintro _ _ ⟨H8,s8,rfl,rfl⟩;refine fz J (ro T 3 (mq H [0,1] [0,0,0,0,0] (λz4 (x3:Bool)=>(x3=z4,[(51,(bb x3))],[])) J J (λz4 Z4 _=>?_) ?_))
 ·rcases q5:ag.kept with _ |x5
  ·replace Z4:=eW q5 Z4;rw[q5] at s7;obtain⟨rfl,rfl⟩:=s7;refine dx mix ay (au T J (au T J (au T J (aO J J J (aw T J J J J (aK (j:=1) J J)) ?_))))
   iterate 27 refine au T J ?_
   refine dh (rx T 1 (am _ [0,0,0,0,0] (oi Z4) J J))
  replace Z4:=eX q5 Z4;rw[q5] at s7;obtain⟨gd,dj,n11,cz,c_,rfl,Ns⟩:=s7;refine bS 2 (congrArg some Ns) (fz J (dx mix ay (au T J (au T J (au T J (aO J J J (aw T J J J J (aK (j:=1) J J)) ?_))))))
  iterate 5 refine au T J ?_
  refine aO J J J (aw T J J J J (aK (j:=1) J J)) (au T J (au T J (aO J J J (aw T J J J J (aK (j:=4) J J)) ?_)))
  iterate 4 refine au T J ?_
  refine qb 37 J Z4 (λZ4=>?_) (λZ4=>?_)
  ·iterate 14 refine au T J ?_
   refine dh (rx T 1 (dw [4,4] J Ns (am _ [0,0,2,0,0] (oi Z4) J J)))
  refine au T J (au T J (au T J (aO J J J (aw T J J J J (aK (j:=1) J J)) (au T J (au T J (aO J J J (aw T J J J J (aK (j:=4) J J)) (au T J (au T J (au T J (aO J J J (aw T J J J J (aK (j:=1) J J)) ?_))))))))));obtain⟨v6,V7,Z4⟩:=gu Z4;refine xf [3] J J J J J J Co J (oC.c V7 pM) (au T J (au T J (dh (rx T 1 (dw [4,4] J Ns (am _ [0,0,2,0,0] (oi Z4) J J))))))
 rintro _ x3 rfl H;refine cb J H (λH=>?_) (λH=>?_)
 ·refine rc T 5 ?_;obtain⟨v7,V9,H⟩:=gu H;refine aX (FW (As:=[(cl aW 233 [(pp l7),(pp jV),BK,(uu ag.count)]),H7,H8,mm]) (gi.R v7) [(cl aW 233 [(pp l7),(pp jV),BK,(uu ag.count)]),H7,H8,mm] [1,1,1,1] J J J J adi J J (Jz (A:=[db,H8,mm]) (A2:=[db,H8,mm]) (by simp only[lr,List.flatten_cons,List.flatten_append,List.flatten_nil,List.append_nil,List.append_assoc]) (by simp only[lr,List.flatten_cons,List.flatten_append,List.flatten_nil,List.append_nil,List.append_assoc]) (gi.c V9 cK s8 pM)) ?_)
  rintro _ _ ⟨_,_,LW,rfl,rfl⟩;rcases v7 with _ |rE
  ·replace H:=eW J H
   cases H
  replace H:=eX J H;obtain⟨kY,dK,n13,dV,dm,rfl,rfl⟩:=LW;refine ro T 2 (sg T 3 J (ro T 7 (lf T 3 J (k [] J J1 H (sv.c ·) (λv8 H=>ro T 2 (sg T 3 J (ro T 7 (lf T 3 J (ro T 4 ?_)))))))))
  cases H;refine f_ [1,1] J (f_ [1,4] J (p1 T J [4,2,2,0] ⟨_,(List.flatten [(cl aW 233 [(pp l7),(pp jV),(pp kY),(uu v8)]),(List.flatten [(cl kY 235 [(ii rE.goal),(ii rE.bM),(ll dK rE.aQ n13)]),dV])]),H8,⟨J,kY,dK,n13,dV,dm,J,J⟩,s8,J,J⟩ J))
 refine rc T 3 ?_;rcases wo:ag.kept with _ |x9
 ·replace H:=eW wo H;rw[wo] at s7;obtain⟨rfl,rfl⟩:=s7;refine rc T 4 (lf T 1 J (ro T 4 ?_))
  cases H;refine dw [1,1] J lr (p1 T J [3,1,1,0] ⟨_,db,H8,⟨J,cK⟩,s8,J,J⟩ J)
 replace H:=eX wo H;rw[wo] at s7;obtain⟨qI,a17,n17,eH,fq,rfl,Nq⟩:=s7;refine bS 2 (congrArg some Nq) (fz J (rc T 4 (lf T 1 J (ro T 4 ?_))))
 cases H;refine dw [4,4] J Nq (dw [1,3] J lr (p1 T J [3,1,1,0] ⟨_,db,H8,⟨wo,qI,a17,n17,eH,fq,J,(by rw[lr,Nq])⟩,s8,J,J⟩ J))
def HU.f (ag:ic):Option Int:=some ag.bM
theorem HU.c (H:HU.f ag=some r) (wF:aj (Fl.int .i32) 21 ag.aQ xc xK Ai):
 QU 174 [(pp aW)] [(cl aW 235 [(ii ag.goal),(ii ag.bM),(ll xc ag.aQ xK)]),Ai] F (ii r):=by
 unfold HU.f at H;refine aD Tryz.func174 J J (λW=>rc T 12 (eT J (rc T 7 (lf T 0 J (ro T 4 ?_)))))
 cases H;exact p0 T J [0,0,0] J
def Dj.f (ag:ic) (cell:Int):Option Int:=(if cell<0 then(some true) else(if cell≥(List.length ag.aQ:Int) then(some true) else(if(0<=cell/\cell<(List.length ag.aQ:Int)) then(some ((rd ag.aQ cell)==2147483647)) else none))).bind λx1=>if x1=true then(some 1099511627776) else(if(0<=cell/\cell<(List.length ag.aQ:Int)) then(some (aa (rd ag.aQ cell))) else none)
theorem Dj.c (H:Dj.f ag cell=some r) (wF:aj (Fl.int .i32) 21 ag.aQ xc xK Ai):
 QU 177 [(pp aW),(ii cell)] [(cl aW 235 [(ii ag.goal),(ii ag.bM),(ll xc ag.aQ xK)]),Ai] F (ii r):=by
 unfold Dj.f at H;refine aD Tryz.func177 J J (λW=>rc T 6 (mq H [0,1] [2,0,0] (λz2 (x1:Bool)=>(x1=z2,[(29,(bb x1))],[])) J J (λz2 Z1 _=>?_) ?_))
 ·refine rc T 8 (ad 11 J Z1 (λZ1=>?_) (λZ1=>?_))
  ·refine ro T 20 (am _ [2,0,0] (oi Z1) J J)
  refine ro T 4 (lf T 0 J (ro T 4 (ad 20 J Z1 (λZ1=>?_) (λZ1=>?_))))
  ·refine ro T 11 (am _ [2,0,0] (oi Z1) J J)
  refine ro T 3 (lf T 0 J (ro T 1 ?_));obtain⟨c4,Z1⟩:=az Z1;obtain⟨q3,o3,e3⟩:=wF.r.addr c4.1 c4.2;refine ix T J e3 c4 (le T 0 (oO wF 1) e3 c4 J J (ro T 4 (am _ [2,0,0] (oi Z1) J J)))
 rintro _ x1 rfl H;refine cb J H (λH=>?_) (λH=>?_)
 ·refine rc T 7 ?_
  cases H;exact p0 T J [1,1,0] J
 refine rc T 7 (lf T 1 J (ro T 1 ?_));obtain⟨c6,H⟩:=az H;obtain⟨q4,o4,e4⟩:=wF.r.addr c6.1 c6.2;refine ix T J e4 c6 (le T 0 (oO wF 2) e4 c6 J J (ro T 5 ?_))
 cases H;exact p0 T J [1,1,0] J
def HV.f (ag:ic):Option Int:=some ag.goal
theorem HV.c (H:HV.f ag=some r) (wF:aj (Fl.int .i32) 21 ag.aQ xc xK Ai):
 QU 179 [(pp aW)] [(cl aW 235 [(ii ag.goal),(ii ag.bM),(ll xc ag.aQ xK)]),Ai] F (ii r):=by
 unfold HV.f at H;refine aD Tryz.func179 J J (λW=>rc T 12 (eT J (rc T 7 (lf T 0 J (ro T 4 ?_)))))
 cases H;exact p0 T J [0,0,0] J
end
noncomputable section
def A6.f (g:bC) (bI:Int):Option (List a_):=(iV.f g).bind λv1=>some []
def A6.R (r:(List a_)):bg:=λu G=> ∃a0 n0 H0,aj cL 285 r a0 n0 H0/\u=(ll a0 r n0)/\G=[H0]
theorem A6.c (H:A6.f g bI=some r) (fM:iP g fo gr):
 QR 142 [(pp fo),(.pointer none),(ii bI)] [gr] [gr] F (A6.R r):=by
 unfold A6.f at H;refine aD Tryz.func142 J J (λW=>rc T 8 (k [0] J uK H (iV.c · fM) (λv1 H=>ro T 21 (mu J (rc T 7 ?_)))))
 cases H;refine bq (p1 T J [2,0,0] ⟨none,0,[],aj.nil,J,J⟩ J)
def iI.l1:Nat->ic->(Int×Int)->(List Int)->Int->(List eB)->List a_->Int->Option (List a_)
 |0,_,_,_,_,_,_,_=>none
 |G8+1,ai,v1,v4,x8,v12,bY,dg=>if dg<(List.length v12:Int) then(if(0<=dg/\dg<(List.length v12:Int)) then((Dj.f ai ((rd v12 dg).To)).bind λfP=>if(fP !=1099511627776)=true then((ry.f v1.1 v1.2 (rd v4 x8)).bind λoe=>(qB.f v1.1 v1.2 (rd v4 x8) ((rd v12 dg).To)).bind λv20=>if(List.length bY+1<=1099511627776) then(iI.l1 G8 ai v1 v4 x8 v12 (bY++[(a_.mk oe v20 (aa ((rd v12 dg).kS+fP)))]) (aa (dg+1))) else none) else(iI.l1 G8 ai v1 v4 x8 v12 bY (aa (dg+1)))) else none) else(some bY)
def iI.l0:Nat->bC->ic->Int->(Int×Int)->(List Int)->List a_->Int->Option (List a_)
 |0,_,_,_,_,_,_,_=>none
 |k9+1,g,ai,bI,v1,v4,x7,x8=>if x8<(List.length v4:Int) then((if(0<=x8/\x8<(List.length v4:Int)) then((nt.f g (rd v4 x8)).bind λv12=>iI.l1 fuel ai v1 v4 x8 v12 x7 0) else none).bind λaN=>iI.l0 k9 g ai bI v1 v4 aN (aa (x8+1))) else((HV.f ai).bind λv21=>((gR.f v1.1 v1.2 v21).bind λv24=>if(v24==bI)=true then((iU.f g v21).bind λv25=>some (v25 !=255)) else(some false)).bind λcg=>if cg=true then((ry.f v1.1 v1.2 v21).bind λv26=>if(List.length x7+1<=1099511627776) then((ni.f (x7++[(a_.mk v26 4 0)])).bind λP9=>some P9) else none) else((ni.f x7).bind λv28=>some v28))
def iI.f (g:bC) (ai:ic) (bI:Int):Option (List a_):=(iV.f g).bind λv1=>(HU.f ai).bind λv2=>(oC.f g).bind λv3=>if(v2 !=v3)=true then(some []) else((j6.f g bI).bind λv4=>iI.l0 fuel g ai bI v1 v4 [] 0)
def iI.R (r:(List a_)):bg:=λu G=> ∃a0 n0 H0,aj cL 285 r a0 n0 H0/\u=(ll a0 r n0)/\G=[H0]
theorem iI.c (H:iI.f g ai bI=some r) (fM:iP g fo gr) (PM:aj (Fl.int .i32) 21 ai.aQ Qt VG Qm):
 QR 142 [(pp fo),(pp uz),(ii bI)] [gr,(cl uz 235 [(ii ai.goal),(ii ai.bM),(ll Qt ai.aQ VG)]),Qm] [gr,(cl uz 235 [(ii ai.goal),(ii ai.bM),(ll Qt ai.aQ VG)]),Qm] F (iI.R r):=by
 unfold iI.f at H;refine aD Tryz.func142 J J (λW=>rc T 8 (k [0] J uK H (iV.c · fM) (λv1 H=>ro T 14 (k [1,1] J ac' H (HU.c · PM) (λv2 H=>ro T 1 (k [0] J Co H (oC.c · fM) (λv3 H=>ro T 4 (cb J H (λH=>?_) (λH=>?_)))))))))
 ·refine rc T 7 ?_
  cases H;refine bq (p1 T J [4,0,0,0,0] ⟨none,0,[],aj.nil,J,J⟩ J)
 refine rc T 12 (kr j6.R [0] [0] J J4 H (j6.c · fM) (λv4 H=>?_));rintro _ _ ⟨a5,n5,H5,s5,rfl,rfl⟩;refine fz J (ro T 5 (bq (lq [0,1,2,7,8,32,33] [2,3,0,0,0] (λ(⟨k9,x7,x8,a7,n7,H7⟩:Nat×List a_×Int×Option Addr×Nat×Hp)=>(iI.l0 k9 g ai bI v1 v4 x7 x8=some r/\aj cL 285 x7 a7 n7 H7,[(9,(ll a7 x7 n7)),(34,(ii x8))],[H7])) J J (fuel,[],0,none,0,[]) [2,3,0,0,0,0] ⟨H,aj.nil⟩ J J ?_)));rintro k9 ⟨x7,x8,a7,n7,H7⟩ ⟨Z6,s7⟩;rw[iI.l0] at Z6;refine rc T 6 (cd J Z6 (λZ6=>?_) (λZ6=>?_))
 ·refine rc T 2 (mq Z6 [0,1,2,7,8,32,33,34] [0,0,0,0,0] (λlV (⟨aN,a8,n8,H8⟩:List a_×Option Addr×Nat×Hp)=>(aN=lV/\aj cL 285 aN a8 n8 H8,[(9,(ll a8 aN n8))],[H8])) J J (λlV Z8 _=>?_) ?_)
  ·refine rc T 3 ?_;obtain⟨c9,Z8⟩:=az Z8;obtain⟨q9,o9,e9⟩:=s5.r.addr c9.1 c9.2;refine ix T J e9 c9 (le T 0 (oO s5 4) e9 c9 J J (ro T 7 (kr nt.R [1] [1] J ada Z8 (nt.c · fM) (λv12 Z8=>?_))));rintro _ _ ⟨cB,n10,b_,bP,rfl,rfl⟩;refine fz J (ro T 5 (lq [0,1,2,7,8,11,32,33,34,40,41] [0,5,0,0,0,1] (λ(⟨G8,bY,dg,a12,n12,dq⟩:Nat×List a_×Int×Option Addr×Nat×Hp)=>(iI.l1 G8 ai v1 v4 x8 v12 bY dg=some lV/\aj cL 285 bY a12 n12 dq,[(9,(ll a12 bY n12)),(42,(ii dg))],[dq])) J J (fuel,x7,0,a7,n7,H7) [0,5,0,0,0,1,0] ⟨Z8,s7⟩ J J ?_));rintro G8 ⟨bY,dg,a12,n12,dq⟩ ⟨bf,dz⟩;rw[iI.l1] at bf;refine rc T 6 (cd J bf (λbf=>?_) (λbf=>?_))
   ·refine rc T 6 ?_;obtain⟨jr,bf⟩:=az bf;obtain⟨Wm,VQ,xk⟩:=bP.r.addr jr.1 jr.2;refine ix T J xk jr (br J (fC T (cs:=[(ii (rd v12 dg).To),(ii (rd v12 dg).kS)]) J J J J J J (iv (k:=pA) (oO bP 5) xk jr J)) (nc T J (λJr=>sg T 7 J (ro T 6 (lf T 7 J (k [2,2] J adb bf (Dj.c · PM) (λfP bf=>ro T 9 (cb J bf (λbf=>?_) (λbf=>?_)))))))))
    ·refine ks [0,1,2,7,8,9,11,13,14,32,33,34,40,41,42] J (fz J (rg [17] [0,0,0,0,0,0,0,0] mix (bO bN) (λhg pf=>ha T 11 [0,1,2,3,5,6,7,8] sz hg pf J (av 9 sz hg pf J (aw T J J J J (aK (j:=7) J J)) (ha T 9 [11] sz hg pf J (av 12 sz hg pf J (aw T J J J J (aK (j:=7) J J)) (ha T 6 [13,14] sz hg pf J (ao 4 (kh [] J Gu bf (ry.c ·) (λoe bf=>an sz (ao 10 (kh [] J ade bf (qB.c ·) (λv20 bf=>an sz (ha T 3 [15] sz hg pf J (ao 16 (cY (k:=cL) T [(a_.mk oe v20 (aa ((rd v12 dg).kS+fP)))] J J J J J J J J J (λjS dI dP=>an (so [0,0,0,0,0,0,0,0]) (ao 17 ?_))))))))))))))))));obtain⟨lM,bf⟩:=az bf;refine dW (k:=cL) (xs:=bY) T (g:=6) J J J J J J J J J J dz (oO dP 8) lM J (λjT n16 fY fU=>an sl (hb T 18 sl hg pf J (ae (rx T 7 (ar (_,_,_,_,_) [0,0,0,0,0,0,0] ⟨bf,fU⟩ J J)))))
    refine rc T 8 (ar (_,_,_,_,_) [0,0,0,0,0,0,0] ⟨bf,dz⟩ J J)
   refine rc T 6 (am (_,_,_,_) [0,0,0,0,0,1] ⟨oi bf,dz⟩ J J)
  rintro _ ⟨aN,a8,n8,H8⟩ ⟨rfl,s8⟩ Z6;refine rc T 5 (ar (_,_,_,_,_) [0,0,0,0,0,0] ⟨Z6,s8⟩ J J)
 refine rc T 9 (k [2,2] J adf Z6 (HV.c · PM) (λv21 Z6=>ro T 3 (mq Z6 [7,8,9,15] [0,4,0,0,0] (λz23 (cg:Bool)=>(cg=z23,[(85,(bb cg))],[])) J J (λz23 yB _=>?_) ?_)))
 ·refine rc T 4 (k [] J rU yB (gR.c ·) (λv24 yB=>ro T 3 (ab 80 J yB (λyB=>?_) (λyB=>?_))))
  ·refine ro T 2 (k [1] J vO yB (iU.c · fM) (λv25 yB=>ro T 4 (am _ [0,4,0,0,0] (oi yB) J J)))
  refine ro T 7 (am _ [0,4,0,0,0] (oi yB) J J)
 rintro _ cg rfl Z6;refine cb J Z6 (λZ6=>?_) (λZ6=>?_)
 ·refine rc T 5 (k [] J Gu Z6 (ry.c ·) (λv26 Z6=>ro T 1 (aX (cY (k:=cL) T [(a_.mk v26 4 0)] J J J J J J J J J (λa17 eH fq=>?_)))));obtain⟨c26,Z6⟩:=az Z6;refine aX (dW (k:=cL) (xs:=x7) T (g:=1) J J J J J J J J J J s7 (oO fq 5) c26 J (λjo n18 ft fF=>ro T 6 (kr ni.R [] [] J Gw Z6 (ni.c (l:=(x7++[(a_.mk v26 4 0)])) · (oO fF 1) fF.bT) (λP9 Z6=>?_))));rintro _ _ ⟨kW,n19,kT,ie,rfl,rfl⟩;refine fz J (ro T 4 ?_)
  cases Z6;exact p1 T J [6,2,2,2,0] ⟨kW,n19,kT,ie,J,J⟩ J
 refine rc T 5 (kr ni.R [] [] J Gw Z6 (ni.c · (oO s7 1) s7.bT) (λv28 Z6=>?_));rintro _ _ ⟨a20,n20,oq,me,rfl,rfl⟩;refine fz J (ro T 4 ?_)
 cases Z6;exact p1 T J [5,2,2,2,0] ⟨a20,n20,oq,me,J,J⟩ J
end
noncomputable section
def zs.f (l:gh):Option gh:=some (gh.mk l.k [] ([]:(List ((Int×Int)×Int))) (-1) (-1))
def zs.R (gL:Nat) (r:gh):bg:=λu G=> ∃(a0 n0 H0:_) (a1:Nat) (H1:Hp),aj kI 278 r.ak a0 n0 H0/\cV (Ky.pair T .i64 J J J lS u3) (λx:Int=>Value.int .i64 x) r.fj a1 H1/\u=(.tuple #[])/\G=[(cl gL 238 [(ii r.k),(ll a0 r.ak n0),(.map (some a1)),(ii r.cE),(ii r.dt)]),H0,H1]
theorem zs.c (H:zs.f l=some r) (tR:aj kI 278 l.ak mo mD yx):
 QR 145 [(pp gL)] [(cl gL 238 [(ii l.k),(ll mo l.ak mD),(.map none),(ii l.cE),(ii l.dt)]),yx] [] F (zs.R gL r):=by
 unfold zs.f at H;refine aD Tryz.func145 J J (λW=>rc T 6 (mu J (rc T 5 (aX (vt T (Ky.pair T .i64 J J J lS u3) (λx:Int=>Value.int .i64 x) J J J trivial (λa3 H3 s3=>ro T 2 (sg T 0 J (ro T 2 (sg T 0 J (ro T 2 (sg T 0 J (ro T 2 (sg T 0 J (ro T 1 (jq ?_)))))))))))))))
 cases H;refine bq (p1 T J [0,3,2,1] ⟨none,0,[],a3,H3,aj.nil,s3,J,J⟩ J)
def xI.f (ag:Int):Option (Option gh):=if ag<1 then(some none) else((zs.f (gh.mk ag ([]:List bo) [] 0 0)).bind λv1=>some (some v1))
def xI.R (r:(Option gh)):bg:=λu G=> ∃(u0:Value) (G0:List Hp),Yo r u0 G0/\u=u0/\G=G0
theorem xI.c (H:xI.f ag=some r):
 QR 105 [(ii ag)] [] [] F (xI.R r):=by
 unfold xI.f at H;refine aD Tryz.func105 J J (λW=>rc T 12 (cd J H (λH=>?_) (λH=>?_)))
 ·refine rc T 7 ?_
  cases H;exact p1 T J [0] ⟨_,_,⟨J,J⟩,J,J⟩ J
 refine rc T 6 (nc T J (λb1=>ro T 6 (bq (kr (zs.R b1) [] [1,1] J Ti H (zs.c (l:=(gh.mk ag ([]:List bo) [] 0 0)) · (aj.nil (k:=kI) (E:=278))) (λv1 H=>?_)))));rintro _ _ ⟨a3,n3,H3,a4,H4,s3,s4,rfl,rfl⟩;refine fz J (ro T 9 ?_)
 cases H;exact p1 T J [1,1,1,0] ⟨_,_,⟨b1,a3,n3,H3,a4,H4,s3,s4,J,J⟩,J,J⟩ J
def zt.f (l:gh):Option gh:=some (gh.mk l.k [] ([]:(List ((Int×Int)×Int))) (-1) (-1))
def zt.R (gL:Nat) (r:gh):bg:=λu G=> ∃(a0 n0 H0:_) (a1:Nat) (H1:Hp),aj kI 278 r.ak a0 n0 H0/\cV (Ky.pair T .i64 J J J lS u3) (λx:Int=>Value.int .i64 x) r.fj a1 H1/\u=(.tuple #[])/\G=[(cl gL 238 [(ii r.k),(ll a0 r.ak n0),(.map (some a1)),(ii r.cE),(ii r.dt)]),H0,H1]
theorem zt.c (H:zt.f l=some r) (tR:aj kI 278 l.ak mo mD yx) (wE:cV (Ky.pair T .i64 J J J lS u3) (λx:Int=>Value.int .i64 x) l.fj o_ vm):
 QR 145 [(pp gL)] [(cl gL 238 [(ii l.k),(ll mo l.ak mD),(.map (some o_)),(ii l.cE),(ii l.dt)]),yx,vm] [] F (zt.R gL r):=by
 unfold zt.f at H;refine aD Tryz.func145 J J (λW=>rc T 6 (mu J (rc T 5 (aX (vt T (Ky.pair T .i64 J J J lS u3) (λx:Int=>Value.int .i64 x) J J J trivial (λa4 H4 s4=>ro T 2 (sg T 0 J (ro T 2 (sg T 0 J (ro T 2 (sg T 0 J (ro T 2 (sg T 0 J (ro T 1 (jq ?_)))))))))))))))
 cases H;refine bq (p1 T J [0,4,3,2] ⟨none,0,[],a4,H4,aj.nil,s4,J,J⟩ J)
def tm.f (l:gh) (ai:Int):Option gh:=if(0<=ai/\ai<(List.length l.ak:Int)) then((if((rd l.ak ai).cM==(-1))=true then(some (l.ak,(rd l.ak ai).aZ)) else(if(0<=(rd l.ak ai).cM/\(rd l.ak ai).cM<(List.length l.ak:Int)) then(some ((List.set l.ak (Int.toNat ((rd l.ak ai).cM)) (bo.mk ((rd l.ak ((rd l.ak ai).cM)).key) ((rd l.ak ((rd l.ak ai).cM)).cM) ((rd l.ak ai).aZ))),l.cE)) else none)).bind λ(x1,x2)=>if((rd l.ak ai).aZ==(-1))=true then(some (gh.mk l.k x1 l.fj x2 ((rd l.ak ai).cM))) else(if(0<=(rd l.ak ai).aZ/\(rd l.ak ai).aZ<(List.length x1:Int)) then(some (gh.mk l.k (List.set x1 (Int.toNat ((rd l.ak ai).aZ)) (bo.mk ((rd x1 ((rd l.ak ai).aZ)).key) ((rd l.ak ai).cM) ((rd x1 ((rd l.ak ai).aZ)).aZ))) l.fj x2 l.dt)) else none)) else none
def tm.R (gL:Nat) (r:gh):bg:=λu G=> ∃(a0 n0 H0:_) (a1:Nat) (H1:Hp),aj kI 278 r.ak a0 n0 H0/\cV (Ky.pair T .i64 J J J lS u3) (λx:Int=>Value.int .i64 x) r.fj a1 H1/\u=(.tuple #[])/\G=[(cl gL 238 [(ii r.k),(ll a0 r.ak n0),(.map (some a1)),(ii r.cE),(ii r.dt)]),H0,H1]
theorem tm.c (H:tm.f l ai=some r) (tR:aj kI 278 l.ak mo mD yx) (wE:cV (Ky.pair T .i64 J J J lS u3) (λx:Int=>Value.int .i64 x) l.fj o_ vm):
 QR 224 [(pp gL),(ii ai)] [(cl gL 238 [(ii l.k),(ll mo l.ak mD),(.map (some o_)),(ii l.cE),(ii l.dt)]),yx,vm] [] F (tm.R gL r):=by
 unfold tm.f at H;refine aD Tryz.func224 J J (λW=>rc T 5 (lf T 0 J (ro T 1 ?_)));obtain⟨c1,H⟩:=az H;obtain⟨q4,o4,e4⟩:=tR.r.addr c1.1 c1.2;refine ix T J e4 c1 (br J (fC T (cs:=[(ii (rd l.ak ai).key.1),(ii (rd l.ak ai).key.2),(ii (rd l.ak ai).cM),(ii (rd l.ak ai).aZ)]) J J J J J J (iv (k:=kI) (oO tR 1) e4 c1 J)) (nc T J (λb5=>sg T 4 J (ro T 2 (mq H [0,4] [3,2,2] (λz3 (⟨x1,x2,a6,n6,H6⟩:List bo×Int×Option Addr×Nat×Hp)=>((x1,x2)=z3/\aj kI 278 x1 a6 n6 H6,[],[(cl gL 238 [(ii l.k),(ll a6 x1 n6),(.map (some o_)),(ii x2),(ii l.dt)]),H6])) J J (λz3 Z2 _=>?_) ?_)))))
 ·refine rc T 3 (lf T 4 J (ro T 3 (cb J Z2 (λZ2=>?_) (λZ2=>?_))))
  ·refine rc T 3 (lf T 4 J (ro T 2 (sg T 0 J (ro T 2 (am (_,_,_,_,_) [3,2,2,0,0] ⟨oi Z2,tR⟩ J J)))))
  refine ks [0,4] J (fz J (rz [10] mix (bO bN) (λhg pf=>ha T 8 [0,1,2] sz hg pf J (av 3 sz hg pf J (aw T J J J J (aK (j:=0) J J)) (ha T 6 [4] sz hg pf J (av 5 sz hg pf J (aw T J J J J (aK (j:=4) J J)) (ha T 4 [6] sz hg pf J (av 7 sz hg pf J (aw T J J J J (aK (j:=4) J J)) ?_))))))));obtain⟨c4,Z2⟩:=az Z2;refine av 8 sz hg pf J (cC T J J J J J e4 c4.1 c4.2) (ha T 1 [9] sz hg pf J (ao 10 (kX (k:=kI) T 1 3 (bo.mk ((rd l.ak ((rd l.ak ai).cM)).key) ((rd l.ak ((rd l.ak ai).cM)).cM) ((rd l.ak ai).aZ)) J J J J J J tR e4 c4 J J J (λH7 s7=>kg [0,4,20,21,22,24,25,26,27,28,29] [1,1,1,1] [1,1,1,1,0] [(23,(ll mo (List.set l.ak (Int.toNat ((rd l.ak ai).cM)) (bo.mk ((rd l.ak ((rd l.ak ai).cM)).key) ((rd l.ak ((rd l.ak ai).cM)).cM) ((rd l.ak ai).aZ))) mD))] [(cl gL 238 [(ii l.k),(ll mo (List.set l.ak (Int.toNat ((rd l.ak ai).cM)) (bo.mk ((rd l.ak ((rd l.ak ai).cM)).key) ((rd l.ak ((rd l.ak ai).cM)).cM) ((rd l.ak ai).aZ))) mD),(.map (some o_)),(ii l.cE),(ii l.dt)])] J J ⟨dJ,trivial⟩ dJ (an sl (ae (rx T 1 (am (_,_,_,_,_) [2,1,1,1,0] ⟨oi Z2,s7⟩ J J))))))))
 rintro _ ⟨x1,x2,a6,n6,H6⟩ ⟨rfl,s6⟩ H;refine rc T 3 (lf T 2 J (ro T 3 (cb J H (λH=>?_) (λH=>?_))))
 ·refine rc T 3 (lf T 2 J (ro T 2 (sg T 3 J (ro T 1 (jq ?_)))))
  cases H;exact p1 T J [3,3,1,0] ⟨a6,n6,H6,o_,vm,s6,wE,J,J⟩ J
 refine fz J (rz [10] mix (bO bN) (λhg pf=>ha T 8 [0,1,2] sz hg pf J (av 3 sz hg pf J (aw T J J J J (aK (j:=3) J J)) (ha T 6 [4] sz hg pf J (av 5 sz hg pf J (aw T J J J J (aK (j:=2) J J)) (ha T 4 [6] sz hg pf J (av 7 sz hg pf J (aw T J J J J (aK (j:=2) J J)) ?_)))))));obtain⟨c6,H⟩:=az H;obtain⟨q8,o8,e8⟩:=s6.r.addr c6.1 c6.2;refine av 8 sz hg pf J (cC T J J J J J e8 c6.1 c6.2) (ha T 1 [9] sz hg pf J (ao 10 (kX (k:=kI) T 4 2 (bo.mk ((rd x1 ((rd l.ak ai).aZ)).key) ((rd l.ak ai).cM) ((rd x1 ((rd l.ak ai).aZ)).aZ)) J J J J J J s6 e8 c6 J J J (λH9 s9=>kg [0,4,32,38,39,40,42,43,44,45,46,47] [0,0,0,1] [0,0,0,1,0] [(41,(ll a6 (List.set x1 (Int.toNat ((rd l.ak ai).aZ)) (bo.mk ((rd x1 ((rd l.ak ai).aZ)).key) ((rd l.ak ai).cM) ((rd x1 ((rd l.ak ai).aZ)).aZ))) n6))] [(cl gL 238 [(ii l.k),(ll a6 (List.set x1 (Int.toNat ((rd l.ak ai).aZ)) (bo.mk ((rd x1 ((rd l.ak ai).aZ)).key) ((rd l.ak ai).cM) ((rd x1 ((rd l.ak ai).aZ)).aZ))) n6),(.map (some o_)),(ii x2),(ii l.dt)])] J J ⟨dJ,trivial⟩ dJ (an sl (ae (jq ?_)))))))
 cases H;exact p1 T J [4,3,1,0] ⟨a6,n6,H9,o_,vm,s9,wE,J,J⟩ J
def xH.f (l:gh) (ai:Int):Option gh:=if(0<=ai/\ai<(List.length l.ak:Int)) then(if(0<=ai/\ai<(List.length (List.set l.ak (Int.toNat ai) (bo.mk ((rd l.ak ai).key) (-1) ((rd l.ak ai).aZ))):Int)) then(if(l.cE==(-1))=true then(some (gh.mk l.k (List.set (List.set l.ak (Int.toNat ai) (bo.mk ((rd l.ak ai).key) (-1) ((rd l.ak ai).aZ))) (Int.toNat ai) (bo.mk ((rd (List.set l.ak (Int.toNat ai) (bo.mk ((rd l.ak ai).key) (-1) ((rd l.ak ai).aZ))) ai).key) ((rd (List.set l.ak (Int.toNat ai) (bo.mk ((rd l.ak ai).key) (-1) ((rd l.ak ai).aZ))) ai).cM) l.cE)) l.fj ai ai)) else(if(0<=l.cE/\l.cE<(List.length (List.set (List.set l.ak (Int.toNat ai) (bo.mk ((rd l.ak ai).key) (-1) ((rd l.ak ai).aZ))) (Int.toNat ai) (bo.mk ((rd (List.set l.ak (Int.toNat ai) (bo.mk ((rd l.ak ai).key) (-1) ((rd l.ak ai).aZ))) ai).key) ((rd (List.set l.ak (Int.toNat ai) (bo.mk ((rd l.ak ai).key) (-1) ((rd l.ak ai).aZ))) ai).cM) l.cE)):Int)) then(some (gh.mk l.k (List.set (List.set (List.set l.ak (Int.toNat ai) (bo.mk ((rd l.ak ai).key) (-1) ((rd l.ak ai).aZ))) (Int.toNat ai) (bo.mk ((rd (List.set l.ak (Int.toNat ai) (bo.mk ((rd l.ak ai).key) (-1) ((rd l.ak ai).aZ))) ai).key) ((rd (List.set l.ak (Int.toNat ai) (bo.mk ((rd l.ak ai).key) (-1) ((rd l.ak ai).aZ))) ai).cM) l.cE)) (Int.toNat l.cE) (bo.mk ((rd (List.set (List.set l.ak (Int.toNat ai) (bo.mk ((rd l.ak ai).key) (-1) ((rd l.ak ai).aZ))) (Int.toNat ai) (bo.mk ((rd (List.set l.ak (Int.toNat ai) (bo.mk ((rd l.ak ai).key) (-1) ((rd l.ak ai).aZ))) ai).key) ((rd (List.set l.ak (Int.toNat ai) (bo.mk ((rd l.ak ai).key) (-1) ((rd l.ak ai).aZ))) ai).cM) l.cE)) l.cE).key) ai ((rd (List.set (List.set l.ak (Int.toNat ai) (bo.mk ((rd l.ak ai).key) (-1) ((rd l.ak ai).aZ))) (Int.toNat ai) (bo.mk ((rd (List.set l.ak (Int.toNat ai) (bo.mk ((rd l.ak ai).key) (-1) ((rd l.ak ai).aZ))) ai).key) ((rd (List.set l.ak (Int.toNat ai) (bo.mk ((rd l.ak ai).key) (-1) ((rd l.ak ai).aZ))) ai).cM) l.cE)) l.cE).aZ))) l.fj ai l.dt)) else none)) else none) else none
def xH.R (gL:Nat) (r:gh):bg:=λu G=> ∃(a0 n0 H0:_) (a1:Nat) (H1:Hp),aj kI 278 r.ak a0 n0 H0/\cV (Ky.pair T .i64 J J J lS u3) (λx:Int=>Value.int .i64 x) r.fj a1 H1/\u=(.tuple #[])/\G=[(cl gL 238 [(ii r.k),(ll a0 r.ak n0),(.map (some a1)),(ii r.cE),(ii r.dt)]),H0,H1]
theorem xH.c (H:xH.f l ai=some r) (tR:aj kI 278 l.ak mo mD yx) (wE:cV (Ky.pair T .i64 J J J lS u3) (λx:Int=>Value.int .i64 x) l.fj o_ vm):
 QR 225 [(pp gL),(ii ai)] [(cl gL 238 [(ii l.k),(ll mo l.ak mD),(.map (some o_)),(ii l.cE),(ii l.dt)]),yx,vm] [] F (xH.R gL r):=by
 unfold xH.f at H;refine aD Tryz.func225 J J (λW=>rc T 1 (fz J (rz [16,19] mix (bO bN) (λhg pf=>ha T 17 [0,1,2] sz hg pf J (av 3 sz hg pf J (aw T J J J J (aK (j:=0) J J)) (ha T 12 [4,5,6,7] sz hg pf J (av 8 sz hg pf J (aw T J J J J (aK (j:=0) J J)) (ha T 7 [9,10,11,12] sz hg pf J (av 13 sz hg pf J (aw T J J J J (aK (j:=0) J J)) ?_)))))))));obtain⟨c1,H⟩:=az H;obtain⟨q4,o4,e4⟩:=tR.r.addr c1.1 c1.2;refine av 14 sz hg pf J (cC T J J J J J e4 c1.1 c1.2) (ha T 4 [15] sz hg pf J (ao 16 (kX (k:=kI) T 1 2 (bo.mk ((rd l.ak ai).key) (-1) ((rd l.ak ai).aZ)) J J J J J J tR e4 c1 J J J (λH5 s5=>kg [0,1,4,5,6,8,9,10,11,13,14,15,16,17,18,19] [1,1,1] [1,1,1,0] [(7,(ll mo (List.set l.ak (Int.toNat ai) (bo.mk ((rd l.ak ai).key) (-1) ((rd l.ak ai).aZ))) mD)),(12,(ll mo (List.set l.ak (Int.toNat ai) (bo.mk ((rd l.ak ai).key) (-1) ((rd l.ak ai).aZ))) mD))] [(cl gL 238 [(ii l.k),(ll mo (List.set l.ak (Int.toNat ai) (bo.mk ((rd l.ak ai).key) (-1) ((rd l.ak ai).aZ))) mD),(.map (some o_)),(ii l.cE),(ii l.dt)])] J J ⟨dJ,dJ,trivial⟩ dJ (an sl (ao 17 ?_))))));obtain⟨c2,H⟩:=az H;refine lK J (cC T J J J J J e4 c2.1 c2.2) (an sl (hb T 18 sl hg pf J (ao 19 (kX (k:=kI) T 0 3 (bo.mk ((rd (List.set l.ak (Int.toNat ai) (bo.mk ((rd l.ak ai).key) (-1) ((rd l.ak ai).aZ))) ai).key) ((rd (List.set l.ak (Int.toNat ai) (bo.mk ((rd l.ak ai).key) (-1) ((rd l.ak ai).aZ))) ai).cM) l.cE) J J J J J J s5 e4 c2 J J J (λH6 s6=>kg [0,1,4,5,6,8,9,10,11,13,14,15,16,17,18,19,20,21] [0,0,0] [0,0,0,0] [(7,(ll mo (List.set (List.set l.ak (Int.toNat ai) (bo.mk ((rd l.ak ai).key) (-1) ((rd l.ak ai).aZ))) (Int.toNat ai) (bo.mk ((rd (List.set l.ak (Int.toNat ai) (bo.mk ((rd l.ak ai).key) (-1) ((rd l.ak ai).aZ))) ai).key) ((rd (List.set l.ak (Int.toNat ai) (bo.mk ((rd l.ak ai).key) (-1) ((rd l.ak ai).aZ))) ai).cM) l.cE)) mD)),(12,(ll mo (List.set (List.set l.ak (Int.toNat ai) (bo.mk ((rd l.ak ai).key) (-1) ((rd l.ak ai).aZ))) (Int.toNat ai) (bo.mk ((rd (List.set l.ak (Int.toNat ai) (bo.mk ((rd l.ak ai).key) (-1) ((rd l.ak ai).aZ))) ai).key) ((rd (List.set l.ak (Int.toNat ai) (bo.mk ((rd l.ak ai).key) (-1) ((rd l.ak ai).aZ))) ai).cM) l.cE)) mD))] [(cl gL 238 [(ii l.k),(ll mo (List.set (List.set l.ak (Int.toNat ai) (bo.mk ((rd l.ak ai).key) (-1) ((rd l.ak ai).aZ))) (Int.toNat ai) (bo.mk ((rd (List.set l.ak (Int.toNat ai) (bo.mk ((rd l.ak ai).key) (-1) ((rd l.ak ai).aZ))) ai).key) ((rd (List.set l.ak (Int.toNat ai) (bo.mk ((rd l.ak ai).key) (-1) ((rd l.ak ai).aZ))) ai).cM) l.cE)) mD),(.map (some o_)),(ii l.cE),(ii l.dt)])] J J ⟨dJ,dJ,trivial⟩ dJ (an sl (ae (rx T 7 (lf T 3 J (ro T 3 (cb J H (λH=>?_) (λH=>?_))))))))))))
 ·refine rc T 5 (sg T 3 J (ro T 7 (sg T 3 J (ro T 1 (ks [] J (jq ?_))))))
  cases H;exact p1 T J [3,0,0,0] ⟨mo,mD,H6,o_,vm,s6,wE,J,J⟩ J
 refine ks [0,1] J (fz J (rz [11] mix (bO bN) (λhg pf=>ha T 9 [0,1,2] sz hg pf J (av 3 sz hg pf J (aw T J J J J (aK (j:=3) J J)) (ha T 5 [4,5,6] sz hg pf J (av 7 sz hg pf J (aw T J J J J (aK (j:=3) J J)) (ha T 3 [8] sz hg pf J ?_)))))));obtain⟨c4,H⟩:=az H;refine av 9 sz hg pf J (cC T J J J J J e4 c4.1 c4.2) (ha T 1 [10] sz hg pf J (ao 11 (kX (k:=kI) T 0 2 (bo.mk ((rd (List.set (List.set l.ak (Int.toNat ai) (bo.mk ((rd l.ak ai).key) (-1) ((rd l.ak ai).aZ))) (Int.toNat ai) (bo.mk ((rd (List.set l.ak (Int.toNat ai) (bo.mk ((rd l.ak ai).key) (-1) ((rd l.ak ai).aZ))) ai).key) ((rd (List.set l.ak (Int.toNat ai) (bo.mk ((rd l.ak ai).key) (-1) ((rd l.ak ai).aZ))) ai).cM) l.cE)) l.cE).key) ai ((rd (List.set (List.set l.ak (Int.toNat ai) (bo.mk ((rd l.ak ai).key) (-1) ((rd l.ak ai).aZ))) (Int.toNat ai) (bo.mk ((rd (List.set l.ak (Int.toNat ai) (bo.mk ((rd l.ak ai).key) (-1) ((rd l.ak ai).aZ))) ai).key) ((rd (List.set l.ak (Int.toNat ai) (bo.mk ((rd l.ak ai).key) (-1) ((rd l.ak ai).aZ))) ai).cM) l.cE)) l.cE).aZ)) J J J J J J s6 e4 c4 J J J (λH7 s7=>kg [0,1,31,32,33,35,36,37,38,39,40,41] [0,0,0] [0,0,0,0] [(34,(ll mo (List.set (List.set (List.set l.ak (Int.toNat ai) (bo.mk ((rd l.ak ai).key) (-1) ((rd l.ak ai).aZ))) (Int.toNat ai) (bo.mk ((rd (List.set l.ak (Int.toNat ai) (bo.mk ((rd l.ak ai).key) (-1) ((rd l.ak ai).aZ))) ai).key) ((rd (List.set l.ak (Int.toNat ai) (bo.mk ((rd l.ak ai).key) (-1) ((rd l.ak ai).aZ))) ai).cM) l.cE)) (Int.toNat l.cE) (bo.mk ((rd (List.set (List.set l.ak (Int.toNat ai) (bo.mk ((rd l.ak ai).key) (-1) ((rd l.ak ai).aZ))) (Int.toNat ai) (bo.mk ((rd (List.set l.ak (Int.toNat ai) (bo.mk ((rd l.ak ai).key) (-1) ((rd l.ak ai).aZ))) ai).key) ((rd (List.set l.ak (Int.toNat ai) (bo.mk ((rd l.ak ai).key) (-1) ((rd l.ak ai).aZ))) ai).cM) l.cE)) l.cE).key) ai ((rd (List.set (List.set l.ak (Int.toNat ai) (bo.mk ((rd l.ak ai).key) (-1) ((rd l.ak ai).aZ))) (Int.toNat ai) (bo.mk ((rd (List.set l.ak (Int.toNat ai) (bo.mk ((rd l.ak ai).key) (-1) ((rd l.ak ai).aZ))) ai).key) ((rd (List.set l.ak (Int.toNat ai) (bo.mk ((rd l.ak ai).key) (-1) ((rd l.ak ai).aZ))) ai).cM) l.cE)) l.cE).aZ))) mD))] [(cl gL 238 [(ii l.k),(ll mo (List.set (List.set (List.set l.ak (Int.toNat ai) (bo.mk ((rd l.ak ai).key) (-1) ((rd l.ak ai).aZ))) (Int.toNat ai) (bo.mk ((rd (List.set l.ak (Int.toNat ai) (bo.mk ((rd l.ak ai).key) (-1) ((rd l.ak ai).aZ))) ai).key) ((rd (List.set l.ak (Int.toNat ai) (bo.mk ((rd l.ak ai).key) (-1) ((rd l.ak ai).aZ))) ai).cM) l.cE)) (Int.toNat l.cE) (bo.mk ((rd (List.set (List.set l.ak (Int.toNat ai) (bo.mk ((rd l.ak ai).key) (-1) ((rd l.ak ai).aZ))) (Int.toNat ai) (bo.mk ((rd (List.set l.ak (Int.toNat ai) (bo.mk ((rd l.ak ai).key) (-1) ((rd l.ak ai).aZ))) ai).key) ((rd (List.set l.ak (Int.toNat ai) (bo.mk ((rd l.ak ai).key) (-1) ((rd l.ak ai).aZ))) ai).cM) l.cE)) l.cE).key) ai ((rd (List.set (List.set l.ak (Int.toNat ai) (bo.mk ((rd l.ak ai).key) (-1) ((rd l.ak ai).aZ))) (Int.toNat ai) (bo.mk ((rd (List.set l.ak (Int.toNat ai) (bo.mk ((rd l.ak ai).key) (-1) ((rd l.ak ai).aZ))) ai).key) ((rd (List.set l.ak (Int.toNat ai) (bo.mk ((rd l.ak ai).key) (-1) ((rd l.ak ai).aZ))) ai).cM) l.cE)) l.cE).aZ))) mD),(.map (some o_)),(ii l.cE),(ii l.dt)])] J J ⟨dJ,trivial⟩ dJ (an sl (ae (rx T 6 (sg T 3 J (ro T 1 (jq ?_))))))))))
 cases H;exact p1 T J [3,0,0,0] ⟨mo,mD,H7,o_,vm,s7,wE,J,J⟩ J
def xG.f (l:gh) (a:Int) (b:Int):Option (Int×Bool×Bool×gh):=(if(bR l.fj (a,b))=true then((tm.f l (aR l.fj (a,b))).bind λv9=>some (v9.k,v9.ak,v9.fj,v9.cE,v9.dt,(aR l.fj (a,b)),false)) else(if(List.length l.ak:Int)<l.k then(if(List.length l.ak+1<=1099511627776) then(some (l.k,(l.ak++[(bo.mk (a,b) 0 0)]),l.fj,l.cE,l.dt,(List.length l.ak:Int),false)) else none) else((tm.f l l.dt).bind λv10=>if(0<=l.dt/\l.dt<(List.length v10.ak:Int)) then(some (v10.k,(List.set v10.ak (Int.toNat l.dt) (bo.mk (a,b) ((rd v10.ak l.dt).cM) ((rd v10.ak l.dt).aZ))),(dT v10.fj ((rd v10.ak l.dt).key.1,(rd v10.ak l.dt).key.2)),v10.cE,v10.dt,l.dt,true)) else none))).bind λ(x1,x2,x3,x4,x5,x6,x7)=>(xH.f (gh.mk x1 x2 (cJ x3 (a,b) x6) x4 x5) x6).bind λv11=>some (x6,(bR l.fj (a,b)),x7,v11)
def xG.R (gL:Nat) (r:(Int×Bool×Bool×gh)):bg:=λu G=> ∃(a0 n0 H0:_) (a1:Nat) (H1:Hp),aj kI 278 r.2.2.2.ak a0 n0 H0/\cV (Ky.pair T .i64 J J J lS u3) (λx:Int=>Value.int .i64 x) r.2.2.2.fj a1 H1/\u=(.tuple #[(ii r.1),(bb r.2.1),(bb r.2.2.1)])/\G=[(cl gL 238 [(ii r.2.2.2.k),(ll a0 r.2.2.2.ak n0),(.map (some a1)),(ii r.2.2.2.cE),(ii r.2.2.2.dt)]),H0,H1]
theorem xG.c (H:xG.f l a b=some r) (tR:aj kI 278 l.ak mo mD yx) (wE:cV (Ky.pair T .i64 J J J lS u3) (λx:Int=>Value.int .i64 x) l.fj o_ vm):
 QR 184 [(pp gL),(ii a),(ii b)] [(cl gL 238 [(ii l.k),(ll mo l.ak mD),(.map (some o_)),(ii l.cE),(ii l.dt)]),yx,vm] [] F (xG.R gL r):=by
 unfold xG.f at H;refine aD Tryz.func184 J J (λW=>rc T 14 (eT J (rc T 6 (br J (JM T J J J J J J) (nc T J (λb4=>sg T 4 J (ro T 3 (dx mix ay (au T J (au T J (au T J (aO J J J (aw T J J J J (aK (j:=0) J J)) (aO J J J (gA T 4 J J J J J J J) (aO J J J (qa (k:=(a,b)) T (Ky.pair T .i64 J J J lS u3) (λx:Int=>Value.int .i64 x) J J J J J (oJ wE (j:=2) J)) ?_))))))))))))))
 iterate 5 refine au T J ?_
 refine dh (rx T 1 (mq H [0,7,9] [3,3] (λz8 (⟨x1,x2,x3,x4,x5,x6,x7,a5,n5,H5,a6,H6⟩:Int×List bo×(List ((Int×Int)×Int))×Int×Int×Int×Bool×Option Addr×Nat×Hp×Nat×Hp)=>((x1,x2,x3,x4,x5,x6,x7)=z8/\aj kI 278 x2 a5 n5 H5/\cV (Ky.pair T .i64 J J J lS u3) (λx:Int=>Value.int .i64 x) x3 a6 H6,[(6,(ii x6)),(8,(bb x7))],[(cl gL 238 [(ii x1),(ll a5 x2 n5),(.map (some a6)),(ii x4),(ii x5)]),H5,H6])) J J (λz8 Z1 _=>?_) ?_))
 ·refine rc T 7 (cb J Z1 (λZ1=>?_) (λZ1=>?_))
  ·refine rc T 3 (kr (tm.R gL) [] [0,0,0] J TJ Z1 (tm.c · tR wE) (λv9 Z1=>?_));rintro _ _ ⟨a7,n7,H7,a8,H8,s7,s8,rfl,rfl⟩;refine fz J (ro T 3 (am (_,_,_,_,_,_,_,_,_,_,_,_) [0,0,0,0,0] ⟨oi Z1,s7,s8⟩ J J))
  refine rc T 1 (dx mix ay (au T J (au T J (au T J (aO J J J (aw T J J J J (aK (j:=0) J J)) ?_)))))
  iterate 4 refine au T J ?_
  refine aO J J J (aw T J J J J (aK (j:=0) J J)) (au T J (au T J (dh (rx T 1 (cd J Z1 (λZ1=>?_) (λZ1=>?_))))))
  ·refine rc T 5 (lf T 0 J (ro T 4 (ks [0,6,7,8,9] J (fz J (rg [8,11] [0,0,0,0,0] mix (bO bN) (λhg pf=>ha T 8 [0,1,2,3] sz hg pf J (av 4 sz hg pf J (aw T J J J J (aK (j:=0) J J)) (av 5 sz hg pf J (gA T 4 J J J J J J J) (ha T 5 [6] sz hg pf J (ao 7 (cY (k:=kI) T [(bo.mk (a,b) 0 0)] J J J J J J J J J (λa9 H9 s9=>an (so [0,0,0,0,0]) (ao 8 ?_)))))))))))));obtain⟨c5,Z1⟩:=az Z1;refine dW (k:=kI) (xs:=l.ak) T (g:=1) J J J J J J J J J J tR (oO s9 5) c5 J (λcB n10 b_ bP=>an sl (hb T 9 sl hg pf J (hb T 10 sl hg pf J (ao 11 (sf T 0 J (an sl (ae (rx T 1 (rx T 1 (am (_,_,_,_,_,_,_,_,_,_,_,_) [3,3,0,0,0] ⟨oi Z1,bP,wE⟩ J J))))))))))
  refine rc T 5 (lf T 0 J (ro T 8 (kr (tm.R gL) [] [0,0,0] J TJ Z1 (tm.c · tR wE) (λv10 Z1=>?_))));rintro _ _ ⟨dj,n11,cz,a12,dq,c_,dz,rfl,rfl⟩;refine fz J (ro T 3 (ks [0,6,7,8,9] J (fz J (rz [12] mix (bO bN) (λhg pf=>ha T 10 [0,1,2] sz hg pf J (av 3 sz hg pf J (aw T J J J J (aK (j:=2) J J)) (ha T 6 [4,5,6] sz hg pf J (av 7 sz hg pf J (aw T J J J J (aK (j:=2) J J)) (ha T 4 [8] sz hg pf J ?_)))))))));obtain⟨c7,Z1⟩:=az Z1;obtain⟨Wm,VQ,xk⟩:=c_.r.addr c7.1 c7.2;refine av 9 sz hg pf J (cC T J J J J J xk c7.1 c7.2) (ha T 2 [10] sz hg pf J (av 11 sz hg pf J (fC T (cs:=[(ii (rd v10.ak l.dt).key.1),(ii (rd v10.ak l.dt).key.2)]) J J J J J J (afk (k:=kI) (oO c_ 3) xk c7 0 J)) (ao 12 (DZ (g:=4) (m:=v10.fj) (k:=((rd v10.ak l.dt).key.1,(rd v10.ak l.dt).key.2)) T (Ky.pair T .i64 J J J lS u3) (λx:Int=>Value.int .i64 x) J J J J J J J J dz (λfX gF=>an sl (ae (rx T 1 (ks [0,6,7,8,9] J (fz J (rz [8] mix (bO bN) (λhg pf=>ha T 6 [0,1,2] sz hg pf J (av 3 sz hg pf J (aw T J J J J (aK (j:=2) J J)) (ha T 4 [4] sz hg pf J (av 5 sz hg pf J (gA T 1 J J J J J J J) (av 6 sz hg pf J (cC T J J J J J xk c7.1 c7.2) (ha T 1 [7] sz hg pf J (ao 8 (kX (k:=kI) T 3 0 (bo.mk (a,b) ((rd v10.ak l.dt).cM) ((rd v10.ak l.dt).aZ)) J J J J J J c_ xk c7 J J J (λdI dP=>kg [0,6,7,8,9,43,44,45,47,48,49,50] [0,0,1,1] [0,0,1,1,0] [(46,(ll dj (List.set v10.ak (Int.toNat l.dt) (bo.mk (a,b) ((rd v10.ak l.dt).cM) ((rd v10.ak l.dt).aZ))) n11))] [(cl gL 238 [(ii v10.k),(ll dj (List.set v10.ak (Int.toNat l.dt) (bo.mk (a,b) ((rd v10.ak l.dt).cM) ((rd v10.ak l.dt).aZ))) n11),(.map (some a12)),(ii v10.cE),(ii v10.dt)])] J J ⟨dJ,trivial⟩ dJ (an sl (ae (rx T 2 (am (_,_,_,_,_,_,_,_,_,_,_,_) [0,0,2,0,0] ⟨oi Z1,dP,gF⟩ J J)))))))))))))))))))))))
 rintro _ ⟨x1,x2,x3,x4,x5,x6,x7,a5,n5,H5,a6,H6⟩ ⟨rfl,s5,s6⟩ H;refine rc T 1 (fz J (rz [6] mix (bO bN) (λhg pf=>ha T 4 [0,1,2] sz hg pf J (av 3 sz hg pf J (aw T J J J J (aK (j:=2) J J)) (av 4 sz hg pf J (gA T 1 J J J J J J J) (ha T 1 [5] sz hg pf J (ao 6 (pX (g:=4) (m:=x3) (k:=(a,b)) (v:=x6) T (Ky.pair T .i64 J J J lS u3) (λx:Int=>Value.int .i64 x) J J J J J J J s6 (λfY fU=>an sl (ae (rx T 5 (kr (xH.R gL) [] [2,2,2] J adF H (xH.c (l:=(gh.mk x1 x2 (cJ x3 (a,b) x6) x4 x5)) · s5 fU) (λv11 H=>?_)))))))))))));rintro _ _ ⟨a17,n17,eH,jo,ft,fq,fF,rfl,rfl⟩;refine fz J (ro T 13 ?_)
 cases H;exact p1 T J [2,2,2,0] ⟨a17,n17,eH,jo,ft,fq,fF,J,J⟩ J
end
noncomputable section
def DA.f (h:Dy) (ai:Int) (side:Int):Option Int:=if(¬h.t.W=0) then(if(¬h.t.W=0) then(if((side==0)&&(decide ((aa (Int.tdiv ai h.t.W))>0)))=true then(some (aa (ai-h.t.W))) else((if(side==1)=true then(some (decide ((Int.tmod ai h.t.W)<(aa (h.t.W-1))))) else(some false)).bind λx1=>if x1=true then(some (aa (ai+1))) else((if(side==2)=true then(some (decide ((aa (Int.tdiv ai h.t.W))<(aa (h.t.H-1))))) else(some false)).bind λx3=>if x3=true then(some (aa (ai+h.t.W))) else(if((side==3)&&(decide ((Int.tmod ai h.t.W)>0)))=true then(some (aa (ai-1))) else(some (-1)))))) else none) else none
theorem DA.c (H:DA.f h ai side=some r) (jw:(fx,Obj.cells #[(ii h.t.W),(ii h.t.H),(ll B2 h.t.C CZ),(ll kz h.l kK),(ll B1 h.aQ CY)] 337 (0,0))∈F) (oE:aP (Fl.int .u8) h.t.C B2 F) (qL:List.length h.t.C<=CZ) (pr:aP cL h.l kz F) (pk:List.length h.l<=kK) (ma:aP (Fl.int .i64) h.aQ B1 F) (qK:List.length h.aQ<=CY):
 QU 295 [(pp fx),(ii ai),(ii side)] [] F (ii r):=by
 unfold DA.f at H;refine aD Tryz.func295 J J (λW=>rc T 6 (dx mix ay ?_))
 iterate 5 refine au T J ?_
 refine aO J J J (aw T J J J J (nL (j:=0) jw J J)) ?_;obtain⟨c1,H⟩:=az H;refine aO J J J (vK J J J c1) ?_
 iterate 5 refine au T J ?_
 refine aO J J J (aw T J J J J (nL (j:=0) jw J J)) ?_;obtain⟨c2,H⟩:=az H;refine aO J J J (vJ J J J c2) (au T J (au T J (dh (rx T 8 (ga T [3,4,5] 26 [0,1,2,7,8] 29 J J J J J J J (ro T 3 (cb J H (λH=>?_) (λH=>?_))))))))
 ·refine rc T 7 (lg T J (nL (j:=0) jw J J) (ro T 7 ?_))
  cases H;exact p0 T J [0] J
 refine mq H [0,1,2,7,8] [0] (λz2 (x1:Bool)=>(x1=z2,[(37,(bb x1))],[])) J J (λz2 Z4 _=>?_) ?_
 ·refine rc T 4 (ab 40 J Z4 (λZ4=>?_) (λZ4=>?_))
  ·refine ro T 5 (lg T J (nL (j:=0) jw J J) (ro T 6 (am _ [0] (oi Z4) J J)))
  refine ro T 12 (am _ [0] (oi Z4) J J)
 rintro _ x1 rfl H;refine cb J H (λH=>?_) (λH=>?_)
 ·refine rc T 10 ?_
  cases H;exact p0 T J [0] J
 refine mq H [0,1,2,7] [0] (λz4 (x3:Bool)=>(x3=z4,[(52,(bb x3))],[])) J J (λz4 Z7 _=>?_) ?_
 ·refine rc T 4 (ab 55 J Z7 (λZ7=>?_) (λZ7=>?_))
  ·refine ro T 5 (lg T J (nL (j:=0) jw J J) (ro T 6 (am _ [0] (oi Z7) J J)))
  refine ro T 12 (am _ [0] (oi Z7) J J)
 rintro _ x3 rfl H;refine cb J H (λH=>?_) (λH=>?_)
 ·refine rc T 7 (lg T J (nL (j:=0) jw J J) (ro T 7 ?_))
  cases H;exact p0 T J [0] J
 refine rc T 5 (ga T [3,4,5] 75 [1] 78 J J J J J J J (ro T 3 (cb J H (λH=>?_) (λH=>?_))))
 ·refine rc T 10 ?_
  cases H;exact p0 T J [0] J
 refine rc T 9 ?_
 cases H;exact p0 T J [0] J
def kO.f (h:Dy) (ai:Int) (side:Int):Option Bool:=(DA.f h ai side).bind λv1=>if v1<0 then((kN.f h.l ai side).bind λv2=>if(0<=ai/\ai<(List.length h.aQ:Int)) then(some (v2==(rd h.aQ ai))) else none) else((if(0<=v1/\v1<(List.length h.t.C:Int)) then(if((rd h.t.C v1)!=255)=true then(if(0<=v1/\v1<(List.length h.aQ:Int)) then(if(0<=ai/\ai<(List.length h.aQ:Int)) then(some ((aa ((aa (rd h.t.C v1))+(rd h.aQ v1)))==(rd h.aQ ai))) else none) else none) else(some false)) else none).bind λx3=>some x3)
theorem kO.c (H:kO.f h ai side=some r) (jw:(fx,Obj.cells #[(ii h.t.W),(ii h.t.H),(ll B2 h.t.C CZ),(ll kz h.l kK),(ll B1 h.aQ CY)] 337 (0,0))∈F) (oE:aP (Fl.int .u8) h.t.C B2 F) (qL:List.length h.t.C<=CZ) (pr:aP cL h.l kz F) (pk:List.length h.l<=kK) (ma:aP (Fl.int .i64) h.aQ B1 F) (qK:List.length h.aQ<=CY):
 QU 277 [(pp fx),(ii ai),(ii side)] [] F (bb r):=by
 unfold kO.f at H;refine aD Tryz.func277 J J (λW=>rc T 10 (k [] J aef H (DA.c · (qh jw (j:=0) J) (rO oE 0) qL (rO pr 0) pk (rO ma 0) qK) (λv1 H=>ro T 10 (cd J H (λH=>?_) (λH=>?_)))))
 ·refine rc T 1 (dx mix ay (au T J (au T J (au T J (aO J J J (aw T J J J J (nL (j:=0) jw J J)) (au T J (au T J ?_)))))));obtain⟨v2,V3,H⟩:=gu H;refine uy J J J J J J TP J (kN.c V3 (rO pr 0) pk) (au T J (au T J (au T J (aO J J J (aw T J J J J (nL (j:=0) jw J J)) (au T J ?_)))));obtain⟨c4,H⟩:=az H;obtain⟨q1,o1,e1⟩:=ma.addr c4.1 c4.2;refine aO J J J (cC T J J J J J e1 c4.1 c4.2) (aO J J J (aw T J J J J (g_ (k:=(Fl.int .i64)) (rO ma 0) e1 c4 0 J)) (au T J (au T J (dh (rx T 3 ?_)))))
  cases H;exact p0 T J [0] J
 refine rc T 2 (mq H [] [0] (λz4 (x3:Bool)=>(x3=z4,[(6,(bb x3))],[])) J J (λz4 Z5 _=>?_) ?_)
 ·refine dx mix ay ?_
  iterate 4 refine au T J ?_
  refine aO J J J (aw T J J J J (nL (j:=0) jw J J)) (au T J ?_);obtain⟨c6,Z5⟩:=az Z5;obtain⟨q2,o2,e2⟩:=oE.addr c6.1 c6.2;refine aO J J J (cC T J J J J J e2 c6.1 c6.2) (aO J J J (aw T J J J J (g_ (k:=(Fl.int .u8)) (rO oE 0) e2 c6 0 J)) (au T J (au T J (qb 38 J Z5 (λZ5=>?_) (λZ5=>?_)))))
  ·iterate 4 refine au T J ?_
   refine aO J J J (aw T J J J J (nL (j:=0) jw J J)) (au T J (aO J J J (cC T J J J J J e2 c6.1 c6.2) (aO J J J (aw T J J J J (g_ (k:=(Fl.int .u8)) (rO oE 0) e2 c6 0 J)) ?_)))
   iterate 4 refine au T J ?_
   refine aO J J J (aw T J J J J (nL (j:=0) jw J J)) (au T J ?_);obtain⟨c8,Z5⟩:=az Z5;obtain⟨q3,o3,e3⟩:=ma.addr c8.1 c8.2;refine aO J J J (cC T J J J J J e3 c8.1 c8.2) (aO J J J (aw T J J J J (g_ (k:=(Fl.int .i64)) (rO ma 0) e3 c8 0 J)) ?_)
   iterate 4 refine au T J ?_
   refine aO J J J (aw T J J J J (nL (j:=0) jw J J)) (au T J ?_);obtain⟨c9,Z5⟩:=az Z5;refine aO J J J (cC T J J J J J e3 c9.1 c9.2) (aO J J J (aw T J J J J (g_ (k:=(Fl.int .i64)) (rO ma 0) e3 c9 0 J)) (au T J (au T J (au T J (dh (rx T 1 (am _ [0] (oi Z5) J J)))))))
  iterate 27 refine au T J ?_
  refine dh (rx T 1 (am _ [0] (oi Z5) J J))
 rintro _ x3 rfl H;refine rc T 1 ?_
 cases H;exact p0 T J [0] J
def Fh.f (h:Dy) (ai:Int) (side:Int):Option Int:=if(side==0)=true then((kO.f h ai 0).bind λv1=>if v1=true then(some 0) else((kO.f h ai 1).bind λv2=>if v2=true then(some 1) else((kO.f h ai 2).bind λv3=>if v3=true then(some 2) else((kO.f h ai 3).bind λv4=>if v4=true then(some 3) else(some 5))))) else(if(side==1)=true then((kO.f h ai 1).bind λv5=>if v5=true then(some 1) else((kO.f h ai 2).bind λv6=>if v6=true then(some 2) else((kO.f h ai 3).bind λv7=>if v7=true then(some 3) else(some 5)))) else(if(side==2)=true then((kO.f h ai 2).bind λv8=>if v8=true then(some 2) else((kO.f h ai 3).bind λv9=>if v9=true then(some 3) else(some 5))) else(if(side==3)=true then((kO.f h ai 3).bind λv10=>if v10=true then(some 3) else(some 5)) else(some 5))))
theorem Fh.c (H:Fh.f h ai side=some r) (jw:(fx,Obj.cells #[(ii h.t.W),(ii h.t.H),(ll B2 h.t.C CZ),(ll kz h.l kK),(ll B1 h.aQ CY)] 337 (0,0))∈F) (oE:aP (Fl.int .u8) h.t.C B2 F) (qL:List.length h.t.C<=CZ) (pr:aP cL h.l kz F) (pk:List.length h.l<=kK) (ma:aP (Fl.int .i64) h.aQ B1 F) (qK:List.length h.aQ<=CY):
 QU 251 [(pp fx),(ii ai),(ii side)] [] F (ii r):=by
 unfold Fh.f at H;refine aD Tryz.func251 J J (λW=>rc T 28 (cb J H (λH=>?_) (λH=>?_)))
 ·refine rc T 9 (k [] J xx H (kO.c · (qh jw (j:=0) J) (rO oE 0) qL (rO pr 0) pk (rO ma 0) qK) (λv1 H=>ro T 2 (cb J H (λH=>?_) (λH=>?_))))
  ·refine rc T 14 ?_
   cases H;exact p0 T J [0] J
  refine rc T 7 (k [] J xx H (kO.c · (qh jw (j:=0) J) (rO oE 0) qL (rO pr 0) pk (rO ma 0) qK) (λv2 H=>ro T 2 (cb J H (λH=>?_) (λH=>?_))))
  ·refine rc T 12 ?_
   cases H;exact p0 T J [0] J
  refine rc T 7 (k [] J xx H (kO.c · (qh jw (j:=0) J) (rO oE 0) qL (rO pr 0) pk (rO ma 0) qK) (λv3 H=>ro T 2 (cb J H (λH=>?_) (λH=>?_))))
  ·refine rc T 10 ?_
   cases H;exact p0 T J [0] J
  refine rc T 8 (k [] J xx H (kO.c · (qh jw (j:=0) J) (rO oE 0) qL (rO pr 0) pk (rO ma 0) qK) (λv4 H=>ro T 2 (cb J H (λH=>?_) (λH=>?_))))
  ·refine rc T 9 ?_
   cases H;exact p0 T J [0] J
  refine rc T 11 ?_
  cases H;exact p0 T J [0] J
 refine rc T 9 (cb J H (λH=>?_) (λH=>?_))
 ·refine rc T 11 (k [] J xx H (kO.c · (qh jw (j:=0) J) (rO oE 0) qL (rO pr 0) pk (rO ma 0) qK) (λv5 H=>ro T 2 (cb J H (λH=>?_) (λH=>?_))))
  ·refine rc T 12 ?_
   cases H;exact p0 T J [0] J
  refine rc T 7 (k [] J xx H (kO.c · (qh jw (j:=0) J) (rO oE 0) qL (rO pr 0) pk (rO ma 0) qK) (λv6 H=>ro T 2 (cb J H (λH=>?_) (λH=>?_))))
  ·refine rc T 10 ?_
   cases H;exact p0 T J [0] J
  refine rc T 8 (k [] J xx H (kO.c · (qh jw (j:=0) J) (rO oE 0) qL (rO pr 0) pk (rO ma 0) qK) (λv7 H=>ro T 2 (cb J H (λH=>?_) (λH=>?_))))
  ·refine rc T 9 ?_
   cases H;exact p0 T J [0] J
  refine rc T 11 ?_
  cases H;exact p0 T J [0] J
 refine rc T 9 (cb J H (λH=>?_) (λH=>?_))
 ·refine rc T 13 (k [] J xx H (kO.c · (qh jw (j:=0) J) (rO oE 0) qL (rO pr 0) pk (rO ma 0) qK) (λv8 H=>ro T 2 (cb J H (λH=>?_) (λH=>?_))))
  ·refine rc T 10 ?_
   cases H;exact p0 T J [0] J
  refine rc T 8 (k [] J xx H (kO.c · (qh jw (j:=0) J) (rO oE 0) qL (rO pr 0) pk (rO ma 0) qK) (λv9 H=>ro T 2 (cb J H (λH=>?_) (λH=>?_))))
  ·refine rc T 9 ?_
   cases H;exact p0 T J [0] J
  refine rc T 11 ?_
  cases H;exact p0 T J [0] J
 refine rc T 8 (cb J H (λH=>?_) (λH=>?_))
 ·refine rc T 15 (k [] J xx H (kO.c · (qh jw (j:=0) J) (rO oE 0) qL (rO pr 0) pk (rO ma 0) qK) (λv10 H=>ro T 2 (cb J H (λH=>?_) (λH=>?_))))
  ·refine rc T 9 ?_
   cases H;exact p0 T J [0] J
  refine rc T 11 ?_
  cases H;exact p0 T J [0] J
 refine rc T 19 ?_
 cases H;exact p0 T J [0] J
def Dz.f (h:Dy) (ai:Int):Option Int:=if(0<=ai/\ai<(List.length h.aQ:Int)) then(if((rd h.aQ ai)==1099511627776)=true then(some 5) else((kN.f h.l ai 4).bind λv1=>if((rd h.aQ ai)==v1)=true then(some 4) else((Fh.f h ai 0).bind λv2=>some v2))) else none
theorem Dz.c (H:Dz.f h ai=some r) (jw:(fx,Obj.cells #[(ii h.t.W),(ii h.t.H),(ll B2 h.t.C CZ),(ll kz h.l kK),(ll B1 h.aQ CY)] 337 (0,0))∈F) (oE:aP (Fl.int .u8) h.t.C B2 F) (qL:List.length h.t.C<=CZ) (pr:aP cL h.l kz F) (pk:List.length h.l<=kK) (ma:aP (Fl.int .i64) h.aQ B1 F) (qK:List.length h.aQ<=CY):
 QU 229 [(pp fx),(ii ai)] [] F (ii r):=by
 unfold Dz.f at H;refine aD Tryz.func229 J J (λW=>rc T 11 (lg T J (nL (j:=0) jw J J) (ro T 1 ?_)));obtain⟨c1,H⟩:=az H;obtain⟨q1,o1,e1⟩:=ma.addr c1.1 c1.2;refine ix T J e1 c1 (le T 0 (rO ma 0) e1 c1 J J (ro T 9 (cb J H (λH=>?_) (λH=>?_))))
 ·refine rc T 8 ?_
  cases H;exact p0 T J [0] J
 refine rc T 5 (lg T J (nL (j:=0) jw J J) (ro T 1 (k [] J TP H (kN.c · (rO pr 0) pk) (λv1 H=>ro T 4 (cb J H (λH=>?_) (λH=>?_))))))
 ·refine rc T 8 ?_
  cases H;exact p0 T J [0] J
 refine rc T 7 (k [] J adX H (Fh.c · (qh jw (j:=0) J) (rO oE 0) qL (rO pr 0) pk (rO ma 0) qK) (λv2 H=>ro T 4 ?_))
 cases H;exact p0 T J [0] J
def nY.l0:Nat->aL->(List a_)->((List Int)×Int)->List Int->Int->Option (fR×Int)
 |0,_,_,_,_,_=>none
 |k6+1,t,l,v1,x4,x5=>if x5<(List.length v1.1:Int) then((Dz.f (Dy.mk t l v1.1) x5).bind λv7=>if(List.length x4+1<=1099511627776) then(nY.l0 k6 t l v1 (x4++[v7]) (aa (x5+1))) else none) else(some ((fR.mk v1.1 x4),0))
def nY.f (t:aL) (l:(List a_)):Option (fR×Int):=(ug.f t l).bind λv1=>if(v1.2 !=0)=true then(some ((fR.mk [] []),v1.2)) else(nY.l0 fuel t l v1 [] 0)
def nY.R (r:(fR×Int)):bg:=λu G=> ∃a0 n0 H0 a1 n1 H1,aj (Fl.int .i64) 3 r.1.fc a0 n0 H0/\aj (Fl.int .i64) 3 r.1.bX a1 n1 H1/\u=(.tuple #[(.agg #[(ll a0 r.1.fc n0),(ll a1 r.1.bX n1)]),(ii r.2)])/\G=[H0,H1]
theorem nY.c (H:nY.f t l=some r) (dR:aP (Fl.int .u8) t.C iG F) (fw:List.length t.C<=iM) (dr:aP cL l iE F) (gB:List.length l<=iy):
 QR 188 [(.agg #[(ii t.W),(ii t.H),(ll iG t.C iM)]),(ll iE l iy)] [] [] F (nY.R r):=by
 unfold nY.f at H;refine aD Tryz.func188 J J (λW=>rc T 2 (nc T J (λb1=>nc T J (λb2=>ro T 5 (lm T 1 J (ro T 1 (kr ug.R [] [] J TK H (ug.c · (rO dR 0) fw (rO dr 0) gB) (λv1 H=>?_))))))));rintro _ _ ⟨a3,n3,H3,s3,rfl,rfl⟩;refine fz J (ro T 14 (cb J H (λH=>?_) (λH=>?_)))
 ·refine rc T 4 (sg T 2 J (ro T 5 ?_))
  cases H;refine bq (bq (pb T J (.cQ (j:=2) [nl,nl] J J J J J J J (.tmp J .nil)) [4,4,0] ⟨(_,_),none,0,[],none,0,[],aj.nil,aj.nil,J,J⟩ J J))
 refine rc T 4 (lm T 1 J (ro T 3 (nc T J (λb6=>ro T 2 (ke [4,6,8] [0,1,1,1] J J (rx T 5 (nc T J (λb7=>sg T 4 J (ro T 11 (bq (lq [4,8,9,29] [0,0,1,0] (λ(⟨k6,x4,x5,a9,n9,H9⟩:Nat×List Int×Int×Option Addr×Nat×Hp)=>(nY.l0 k6 t l v1 x4 x5=some r/\aj (Fl.int .i64) 3 x4 a9 n9 H9,[(30,(ii x5))],[(cl b7 79 [(ll a3 v1.1 n3),(ll a9 x4 n9)]),H9])) J J (fuel,[],0,none,0,[]) [0,0,1,0,0,0] ⟨H,aj.nil⟩ J J ?_)))))))))));rintro k6 ⟨x4,x5,a9,n9,H9⟩ ⟨Z3,s9⟩;rw[nY.l0] at Z3;refine rc T 6 (cd J Z3 (λZ3=>?_) (λZ3=>?_))
 ·refine rc T 10 (fz J (rg [6,8] [0,0,0,0,0,0] mix (bO bN) (λhg pf=>ha T 8 [0] sz hg pf J (av 1 sz hg pf J (aw T J J J J (aK (j:=4) J J)) (ha T 5 [2,3] sz hg pf J (ao 4 (kh [] J adH Z3 (Dz.c (h:=(Dy.mk t l v1.1)) · (zu (j:=2) J) (rO dR 0) fw (rO dr 0) gB (oO s3 3) s3.bT) (λv7 Z3=>an sz (ao 5 (cY (k:=(Fl.int .i64)) T [v7] J J J J J J J J J (λcB b_ bP=>an (so [0,0,0,0,0,0]) (ao 6 ?_))))))))))));obtain⟨c6,Z3⟩:=az Z3;refine dW (k:=(Fl.int .i64)) (xs:=x4) T (g:=5) J J J J J J J J J J s9 (oO bP 6) c6 J (λdj n11 cz c_=>an sl (hb T 7 sl hg pf J (ao 8 (sf T 4 J (an sl (ae (rx T 7 (ar (_,_,_,_,_) [0,0,0,0,0,0] ⟨Z3,c_⟩ J J))))))))
 refine rc T 7 (lm T 4 J (sg T 1 J (ro T 4 ?_)))
 cases Z3;exact pb T J (.cQ (j:=1) [(ll a3 v1.1 n3),(ll a9 x4 n9)] J J J J J J J (.tmp J .nil)) [3,4,0] ⟨(_,_),a3,n3,H3,a9,n9,H9,s3,s9,J,J⟩ J J
end
noncomputable section
def ya.f (ag:Int):Option (Option jD):=if ag<1 then(some none) else((xI.f ag).bind λv1=>cT v1 (none) (λfm=>some (some (jD.mk fm [] (fZ.mk 0 0 0 0 0 0)))))
def ya.R (r:(Option jD)):bg:=λu G=> ∃(u0:Value) (G0:List Hp),Yu r u0 G0/\u=u0/\G=G0
theorem ya.c (H:ya.f ag=some r):
 QR 77 [(ii ag)] [] [] F (ya.R r):=by
 unfold ya.f at H;refine aD Tryz.func77 J J (λW=>rc T 12 (cd J H (λH=>?_) (λH=>?_)))
 ·refine rc T 7 ?_
  cases H;exact p1 T J [0] ⟨_,_,⟨J,J⟩,J,J⟩ J
 refine rc T 5 (kr xI.R [] [] J acL H (xI.c ·) (λv1 H=>?_));rintro _ _ ⟨_,_,O3,rfl,rfl⟩;rcases v1 with _ |fm
 ·replace H:=eW J H
  cases H
 replace H:=eX J H;obtain⟨b1,a2,n2,H2,a3,H3,s2,s3,rfl,rfl⟩:=O3;refine ro T 1 (nc T J (λb4=>ro T 4 ?_))
 cases H;refine bq (f_ [4,1,1,1,1] J (p1 T J [1,0] ⟨_,_,⟨b4,(List.flatten [(cl b4 173 [(pp b1),nl,(uu 0),(uu 0),(uu 0),(uu 0),(uu 0),(uu 0)]),(cl b1 238 [(ii fm.k),(ll a2 fm.ak n2),(.map (some a3)),(ii fm.cE),(ii fm.dt)]),H2,H3,[]]),(show sF (jD.mk fm [] (fZ.mk 0 0 0 0 0 0)) b4 (List.flatten [(cl b4 173 [(pp b1),nl,(uu 0),(uu 0),(uu 0),(uu 0),(uu 0),(uu 0)]),(cl b1 238 [(ii fm.k),(ll a2 fm.ak n2),(.map (some a3)),(ii fm.cE),(ii fm.dt)]),H2,H3,[]]) from⟨b1,a2,n2,H2,a3,H3,none,0,[],s2,s3,(fI.nil (kd:=EY) (E:=291)),J⟩),J,J⟩,J,J⟩ J))
def pO.f (s:jD):Option jD:=(zt.f s.keys).bind λv1=>some (jD.mk v1 [] s.count)
def pO.R (nz:Nat) (r:jD):bg:=λu G=> ∃(H0:Hp),sF r nz H0/\u=(.tuple #[])/\G=[H0]
theorem pO.c (H:pO.f s=some r) (cX:sF s bh dQ):
 QR 117 [(pp bh)] [dQ] [] F (pO.R bh r):=by
 unfold pO.f at H;refine aD Tryz.func117 J J (λW=>rc T 6 (mu J (rc T 1 ?_)));obtain⟨b3,a4,n4,H4,a5,H5,a6,n6,H6,s4,s5,s6,ct⟩:=(λx=>x) cX;refine bS 0 (congrArg some ct) (fz J (rc T 4 (lf T 1 J (kr (zt.R b3) [] [2,2,2] J Ti H (zt.c · s4 s5) (λv1 H=>?_)))));rintro _ _ ⟨a7,n7,H7,a8,H8,s7,s8,rfl,rfl⟩;refine fz J (ro T 6 (sg T 1 J (ro T 1 (jq ?_))))
 cases H;refine bq (f_ [1,2,2,2,2] J (p1 T J [2,0] ⟨(List.flatten [(cl bh 173 [(pp b3),nl,(uu s.count.bA),(uu s.count.bB),(uu s.count.bz),(uu s.count.bw),(uu s.count.bF),(uu s.count.bD)]),(cl b3 238 [(ii v1.k),(ll a7 v1.ak n7),(.map (some a8)),(ii v1.cE),(ii v1.dt)]),H7,H8,[]]),(show sF (jD.mk v1 [] s.count) bh (List.flatten [(cl bh 173 [(pp b3),nl,(uu s.count.bA),(uu s.count.bB),(uu s.count.bz),(uu s.count.bw),(uu s.count.bF),(uu s.count.bD)]),(cl b3 238 [(ii v1.k),(ll a7 v1.ak n7),(.map (some a8)),(ii v1.cE),(ii v1.dt)]),H7,H8,[]]) from⟨b3,a7,n7,H7,a8,H8,none,0,[],s7,s8,(fI.nil (kd:=EY) (E:=291)),J⟩),J,J⟩ J))
def mN.f (count:Int):Option Int:=(sv.f count 1).bind λv1=>some v1
def mN.R (aa1:Nat) (aaJ:TypeId) (abn abo:List Value) (r:Int) (u:Value) (G:List Hp):Prop:=u=(.tuple #[])/\G=[[(aa1,Obj.cells (abn++(Value.int .u64 r)::abo).toArray aaJ (0,0))]]
theorem mN.c (H:mN.f count=some r):
 QR 186 [(.pointer (some ⟨Rb,List.length pre_count,none⟩))] [[(Rb,Obj.cells (pre_count++(uu count)::post_count).toArray YB (0,0))]] [] F (mN.R Rb YB pre_count post_count r):=by
 unfold mN.f at H;refine aD Tryz.func186 J J (λW=>rc T 4 (lg T J (afl (j:=0) J) (k [] J J1 H (sv.c ·) (λv1 H=>ro T 1 (aX (Z0 T 0 J J J J J J ?_))))));refine ro T 1 (jq ?_)
 cases H;exact p1 T J [0,0] ⟨J,J⟩ J
def ub.f (ag:fR):Option fR:=(qw.f ag.fc).bind λv1=>(qw.f ag.bX).bind λv2=>some (fR.mk v1 v2)
def ub.R (r:fR):bg:=λu G=> ∃a0 n0 H0 a1 n1 H1,aj (Fl.int .i64) 3 r.fc a0 n0 H0/\aj (Fl.int .i64) 3 r.bX a1 n1 H1/\u=(.agg #[(ll a0 r.fc n0),(ll a1 r.bX n1)])/\G=[H0,H1]
theorem ub.c (H:ub.f ag=some r) (acH:aP (Fl.int .i64) ag.fc YO F) (aaT:List.length ag.fc<=agR) (acG:aP (Fl.int .i64) ag.bX YN F) (aaS:List.length ag.bX<=agQ):
 QR 187 [(.agg #[(ll YO ag.fc agR),(ll YN ag.bX agQ)])] [] [] F (ub.R r):=by
 unfold ub.f at H;refine aD Tryz.func187 J J (λW=>rc T 2 (nc T J (λb1=>nc T J (λb2=>ro T 3 (ks [1,2] J (fz J (rg [7] [0,0,0] mix (bO bN) (λhg pf=>ha T 7 [0] sz hg pf J (av 1 sz hg pf J (aw T J J J J (aK (j:=1) J J)) (ha T 5 [3] sz hg pf J (av 4 sz hg pf J (aw T J J J J (aK (j:=1) J J)) (ao 2 (kR qw.R [] [] J NJ H (qw.c · (rO acH 0) aaT) (λv1 H=>?_))))))))))))));rintro _ _ ⟨a3,n3,H3,s3,rfl,rfl⟩;refine fz J (an (so [0,0,0]) (ao 5 (kR qw.R [] [] J NJ H (qw.c · (rO acG 0) aaS) (λv2 H=>?_))));rintro _ _ ⟨a4,n4,H4,s4,rfl,rfl⟩;refine fz J (an (so [0,0,0]) (ha T 1 [6] (so [0,0,0]) hg pf J (ao 7 (sf T 2 J (an sl (ae (rx T 1 (rc T 1 ?_))))))))
 cases H;exact pb T J (.cQ (j:=2) [(ll a3 v1 n3),(ll a4 v2 n4)] J J J J J J J .nil) [3,3,0] ⟨(_,_),a3,n3,H3,a4,n4,H4,s3,s4,J,J⟩ J J
def mM.f (s:jD) (goal:Int) (bI:Int) (version:Int) (t:aL) (l:(List a_)):Option (fR×Int×jD):=(zQ.f t l).bind λv1=>if(!v1)=true then(some ((fR.mk [] []),1,s)) else((xG.f s.keys goal bI).bind λv2=>(if(v2.1==(List.length s.fields:Int))=true then(if(List.length s.fields+1<=1099511627776) then(some (s.fields++[(qu.mk 0 [] (fR.mk [] []))])) else none) else(some s.fields)).bind λx3=>if(0<=v2.1/\v2.1<(List.length x3:Int)) then((if v2.2.1=true then(if((rd x3 v2.1).version==version)=true then((Br.f ((rd x3 v2.1).ua) l).bind λv7=>some v7) else(some false)) else(some false)).bind λx5=>if x5=true then((mN.f s.count.bw).bind λv8=>(ub.f ((rd x3 v2.1).field)).bind λv9=>some (v9,0,(jD.mk v2.2.2.2 x3 (fZ.mk s.count.bA s.count.bB s.count.bz v8 s.count.bF s.count.bD)))) else((if v2.2.1=true then((mN.f s.count.bF).bind λv12=>some v12) else(some s.count.bF)).bind λaN=>(if v2.2.2.1=true then((mN.f s.count.bD).bind λdD=>some dD) else(some s.count.bD)).bind λaU=>(mN.f s.count.bz).bind λeG=>(nY.f t l).bind λv17=>(sm.f l).bind λfP=>(ub.f v17.1).bind λoe=>some (oe,0,(jD.mk v2.2.2.2 (List.set x3 (Int.toNat v2.1) (qu.mk version fP v17.1)) (fZ.mk s.count.bA s.count.bB eG s.count.bw aN aU))))) else none)
def mM.R (nz:Nat) (r:(fR×Int×jD)):bg:=λu G=> ∃(a0 n0 H0:_) (a1 n1 H1:_) (H2:Hp),aj (Fl.int .i64) 3 r.1.fc a0 n0 H0/\aj (Fl.int .i64) 3 r.1.bX a1 n1 H1/\sF r.2.2 nz H2/\u=(.tuple #[(.agg #[(ll a0 r.1.fc n0),(ll a1 r.1.bX n1)]),(ii r.2.1)])/\G=[H0,H1,H2]
theorem mM.c (H:mM.f s goal bI version t l=some r) (cX:sF s bh dQ) (dR:aP (Fl.int .u8) t.C iG F) (fw:List.length t.C<=iM) (dr:aP cL l iE F) (gB:List.length l<=iy):
 QR 144 [(pp bh),(ii goal),(ii bI),(ii version),(.agg #[(ii t.W),(ii t.H),(ll iG t.C iM)]),(ll iE l iy)] [dQ] [] F (mM.R bh r):=by
 unfold mM.f at H;refine aD Tryz.func144 J J (λW=>rc T 2 (nc T J (λb2=>nc T J (λb3=>ro T 9 (lm T 2 J (ro T 1 (k [] J Tu H (zQ.c · (rO dR 1) fw (rO dr 1) gB) (λv1 H=>ro T 4 (cb J H (λH=>?_) (λH=>?_))))))))))
 ·refine rc T 3 (sg T 3 J (ro T 5 ?_))
  cases H;refine bq (bq (pb T J (.cQ (j:=3) [nl,nl] J J J J J J J (.tmp J .nil)) [4,4,0,0] ⟨(_,_),none,0,[],none,0,[],dQ,aj.nil,aj.nil,cX,J,J⟩ J J))
 refine rc T 3 ?_;obtain⟨b7,a8,n8,H8,a9,H9,cB,n10,b_,s8,s9,bP,hH6⟩:=(λx=>x) cX;refine bS 0 (congrArg some hH6) (fz J (rc T 4 (lf T 3 J (ro T 2 (kr (xG.R b7) [] [4,4,4] J adj H (xG.c · s8 s9) (λv2 H=>?_))))));rintro _ _ ⟨dj,n11,cz,a12,dq,c_,dz,rfl,rfl⟩;refine fz J (ro T 9 (mq H [0,3,5,10,12,14,15,16] [0,4,4,4,0,0] (λz4 (⟨x3,dK,n13,dV⟩:List qu×Option Addr×Nat×Hp)=>(x3=z4/\fI EY 291 x3 dK n13 dV,[],[(cl bh 173 [(pp b7),(ll dK x3 n13),(uu s.count.bA),(uu s.count.bB),(uu s.count.bz),(uu s.count.bw),(uu s.count.bF),(uu s.count.bD)]),dV])) J J (λz4 Z4 _=>?_) ?_))
 ·refine rc T 6 (lf T 3 J (ro T 4 (cb J Z4 (λZ4=>?_) (λZ4=>?_))))
  ·refine rc T 5 (lf T 3 J (ro T 1 (bq (bq (bq (f_ [8,8,8] J (aX (B7 (kd:=EY) (E:=291) (q:=8) (c:=[(ii 0),nl,nl,nl]) T (qu.mk 0 [] (fR.mk [] [])) J J J J J J J J J J ⟨none,0,[],none,0,[],none,0,[],(aj.nil (k:=cL) (E:=285)),(aj.nil (k:=(Fl.int .i64)) (E:=3)),(aj.nil (k:=(Fl.int .i64)) (E:=3)),J,J⟩ (λjo ft fF=>?_)))))))));obtain⟨c6,Z4⟩:=az Z4;refine aX (B6 (kd:=EY) (xs:=s.fields) (ys:=[(qu.mk 0 [] (fR.mk [] []))]) T (g:=4) (q:=9) J J J J J J J J J J bP J J fF c6 J (λkW n19 kT ie=>ro T 2 (sg T 3 J (ro T 1 (ke [0,3,5,10,12,14,15,16] [0,0,0,0,0,0,0,0] J J (rx T 1 (am (_,_,_,_) [0,4,4,4,0,0,0,0] ⟨oi Z4,ie⟩ J J)))))))
  refine rc T 2 (am (_,_,_,_) [0,4,4,4,0,0,0,0] ⟨oi Z4,bP⟩ J J)
 rintro _ ⟨x3,dK,n13,dV⟩ ⟨rfl,dm⟩ H;refine rc T 5 (lf T 6 J (ro T 1 ?_));obtain⟨c7,H⟩:=az H;obtain⟨q20,o20,AF⟩:=dm.r.addr c7.1 c7.2;refine ix T J AF c7 (ro T 4 (mq H [0,3,5,10,12,15,16,17] [0,5,0,0,0,2,0,0] (λz6 (x5:Bool)=>(x5=z6,[(79,(bb x5))],[])) J J (λz6 Z8 _=>?_) ?_))
 ·refine rc T 3 (ab 64 J Z8 (λZ8=>?_) (λZ8=>?_))
  ·refine ro T 3 ?_;obtain⟨_,XY,⟨a21,n21,a22,n22,a23,n23,⟨r21,m21⟩,⟨r22,m22⟩,⟨r23,m23⟩,rfl⟩⟩:=kU.view dm.r c7;refine lg T J (CH (j:=7) J XY AF 0 J) (ro T 4 (ab 72 J Z8 (λZ8=>?_) (λZ8=>?_)))
   ·refine ro T 3 (lg T J (CH (j:=7) J XY AF 1 J) (ro T 1 (k [] J adk Z8 (Br.c · (rO r21 7) m21 (rO dr 0) gB) (λv7 Z8=>ro T 3 (am _ [0,5,0,0,0,2,0,0] (oi Z8) J J)))))
   refine ro T 9 (am _ [0,5,0,0,0,2,0,0] (oi Z8) J J)
  refine ro T 17 (am _ [0,5,0,0,0,2,0,0] (oi Z8) J J)
 rintro _ x5 rfl H;refine cb J H (λH=>?_) (λH=>?_)
 ·refine rc T 6 (kr (mN.R bh 173 [(pp b7),(ll dK x3 n13),(uu s.count.bA),(uu s.count.bB),(uu s.count.bz)] [(uu s.count.bF),(uu s.count.bD)]) [] [1] J J5 H (mN.c (pre_count:=[(pp b7),(ll dK x3 n13),(uu s.count.bA),(uu s.count.bB),(uu s.count.bz)]) (post_count:=[(uu s.count.bF),(uu s.count.bD)]) ·) (λv8 H=>?_));rintro _ _ ⟨rfl,rfl⟩;refine fz J (ro T 7 ?_);obtain⟨_,w28,⟨a25,n25,a26,n26,BZ,n27,⟨r25,m25⟩,⟨r26,m26⟩,⟨r27,m27⟩,rfl⟩⟩:=kU.view dm.r c7;refine br J (fC T (cs:=[(ll a26 (rd x3 v2.1).field.fc n26),(ll BZ (rd x3 v2.1).field.bX n27)]) J J J J J J (EH (j:=4) J w28 AF 2 J)) (kr ub.R [] [] J Tv H (ub.c · (rO r26 4) m26 (rO r27 4) m27) (λv9 H=>?_));rintro _ _ ⟨yC,n29,qF,B0,n30,rH,pI,pJ,rfl,rfl⟩;refine fz J (sg T 6 J (ro T 5 ?_))
  cases H;refine f_ [7,1,1,1,1] J (pb T J (.cQ (j:=2) [(ll yC v9.fc n29),(ll B0 v9.bX n30)] J J J J J J J (.tmp J .nil)) [3,3,3,0] ⟨(_,_),yC,n29,qF,B0,n30,rH,(List.flatten [(cl bh 173 [(pp b7),(ll dK x3 n13),(uu s.count.bA),(uu s.count.bB),(uu s.count.bz),(uu v8),(uu s.count.bF),(uu s.count.bD)]),(cl b7 238 [(ii v2.2.2.2.k),(ll dj v2.2.2.2.ak n11),(.map (some a12)),(ii v2.2.2.2.cE),(ii v2.2.2.2.dt)]),cz,dq,dV]),pI,pJ,(show sF (jD.mk v2.2.2.2 x3 (fZ.mk s.count.bA s.count.bB s.count.bz v8 s.count.bF s.count.bD)) bh (List.flatten [(cl bh 173 [(pp b7),(ll dK x3 n13),(uu s.count.bA),(uu s.count.bB),(uu s.count.bz),(uu v8),(uu s.count.bF),(uu s.count.bD)]),(cl b7 238 [(ii v2.2.2.2.k),(ll dj v2.2.2.2.ak n11),(.map (some a12)),(ii v2.2.2.2.cE),(ii v2.2.2.2.dt)]),cz,dq,dV]) from⟨b7,dj,n11,cz,a12,dq,dK,n13,dV,c_,dz,dm,J⟩),J,J⟩ J J)
 refine rc T 2 (mq H [0,3,5,10,12,16,17] [0,1,1,1,1,1,1] (λlV (aN:Int)=>(aN=lV,[],[(cl bh 173 [(pp b7),(ll dK x3 n13),(uu s.count.bA),(uu s.count.bB),(uu s.count.bz),(uu s.count.bw),(uu aN),(uu s.count.bD)])])) J J (λlV cA _=>?_) ?_)
 ·refine rc T 5 (cb J cA (λcA=>?_) (λcA=>?_))
  ·refine rc T 5 (kr (mN.R bh 173 [(pp b7),(ll dK x3 n13),(uu s.count.bA),(uu s.count.bB),(uu s.count.bz),(uu s.count.bw)] [(uu s.count.bD)]) [] [1] J J5 cA (mN.c (pre_count:=[(pp b7),(ll dK x3 n13),(uu s.count.bA),(uu s.count.bB),(uu s.count.bz),(uu s.count.bw)]) (post_count:=[(uu s.count.bD)]) ·) (λv12 cA=>?_));rintro _ _ ⟨rfl,rfl⟩;refine fz J (ro T 2 (am _ [0,0,0,0,0,0,0,0] (oi cA) J J))
  refine rc T 2 (am _ [0,1,1,1,1,1,1,0] (oi cA) J J)
 rintro _ aN rfl H;refine mq H [0,3,5,10,12,17] [0,0,0,0,0,0,0] (λIU (aU:Int)=>(aU=IU,[],[(cl bh 173 [(pp b7),(ll dK x3 n13),(uu s.count.bA),(uu s.count.bB),(uu s.count.bz),(uu s.count.bw),(uu aN),(uu aU)])])) J J (λIU kV _=>?_) ?_
 ·refine rc T 5 (cb J kV (λkV=>?_) (λkV=>?_))
  ·refine rc T 5 (kr (mN.R bh 173 [(pp b7),(ll dK x3 n13),(uu s.count.bA),(uu s.count.bB),(uu s.count.bz),(uu s.count.bw),(uu aN)] []) [] [7] J J5 kV (mN.c (pre_count:=[(pp b7),(ll dK x3 n13),(uu s.count.bA),(uu s.count.bB),(uu s.count.bz),(uu s.count.bw),(uu aN)]) (post_count:=[]) ·) (λdD kV=>?_));rintro _ _ ⟨rfl,rfl⟩;refine fz J (ro T 2 (am _ [0,0,0,0,0,0,0,0] (oi kV) J J))
  refine rc T 2 (am _ [0,0,0,0,0,0,0,0] (oi kV) J J)
 rintro _ aU rfl H;refine rc T 6 (kr (mN.R bh 173 [(pp b7),(ll dK x3 n13),(uu s.count.bA),(uu s.count.bB)] [(uu s.count.bw),(uu aN),(uu aU)]) [] [7] J J5 H (mN.c (pre_count:=[(pp b7),(ll dK x3 n13),(uu s.count.bA),(uu s.count.bB)]) (post_count:=[(uu s.count.bw),(uu aN),(uu aU)]) ·) (λeG H=>?_));rintro _ _ ⟨rfl,rfl⟩;refine fz J (ro T 4 (lm T 5 J (ro T 1 (kr nY.R [] [] J adl H (nY.c · (rO dR 0) fw (rO dr 0) gB) (λv17 H=>?_)))));rintro _ _ ⟨a31,n31,Ag,a32,n32,Fy,wz,wA,rfl,rfl⟩;refine fz J (ro T 3 (nc T J (λb33=>sg T 10 J (ro T 4 (ke [3,5,12,17,18] [0,0,0,0,0,1,1,1,1,1] J J (fz J (rg [7] [0,0,0,0,0,0,0,0,0,0] mix (bO bN) (λhg pf=>ha T 5 [0,1,2] sz hg pf J (av 4 sz hg pf J (gA T 9 J J J J J J J) (ao 3 (kR sm.R [] [] J Tw H (sm.c · (rO dr 0) gB) (λfP H=>?_))))))))))));rintro _ _ ⟨DV,n34,ur,tN,rfl,rfl⟩;refine fz J (an (so [0,0,0,0,0,0,0,0,0,0]) (ha T 1 [5,6] (so [0,0,0,0,0,0,0,0,0,0]) hg pf J (ao 7 (Mn (j:=4) J dm c7 (λ_ _ Ah VS Bm=>?_)))));obtain⟨a35,n35,FA,yD,n36,yu,a37,n37,FB,Dm,xY,Dn,rfl,rfl⟩:=VS;refine Mq (Mo T 4 0 [(ii version),(ll DV fP n34),(ll a31 v17.1.fc n31),(ll a32 v17.1.bX n32)] J J J J J J Bm AF J J J J (λLR Bn=>an sl (ae (rx T 3 (lm T 9 J (kr ub.R [] [] J Tv H (ub.c · (oO wz 7) wz.bT (oO wA 8) wA.bT) (λoe H=>?_)))))));rintro _ _ ⟨a40,n40,LS,a41,n41,FC,E6,zL,rfl,rfl⟩;refine fz J (sg T 5 J (ro T 2 (f_ [10,7,7] J (Mm (j:=4) (q:=13) (qu.mk version fP v17.1) J Bn J J ⟨DV,n34,ur,a31,n31,Ag,a32,n32,Fy,tN,wz,wA,J,J⟩ (λgI tP=>kg [12,13] [0,0,0,0,0,0,5,5] [0,0,0,0,0,0,5,5,0] [] [(cl bh 173 [(pp b7),(ll dK (List.set x3 (Int.toNat v2.1) (qu.mk version fP v17.1)) n13),(uu s.count.bA),(uu s.count.bB),(uu eG),(uu s.count.bw),(uu aN),(uu aU)])] J J trivial dJ (rx T 2 ?_))))))
 cases H;refine f_ [8,1,1,1,1] J (pb T J (.cQ (j:=1) [(ll a40 oe.fc n40),(ll a41 oe.bX n41)] J J J J J J J (.tmp J .nil)) [2,2,2,0] ⟨(_,_),a40,n40,LS,a41,n41,FC,(List.flatten [(cl bh 173 [(pp b7),(ll dK (List.set x3 (Int.toNat v2.1) (qu.mk version fP v17.1)) n13),(uu s.count.bA),(uu s.count.bB),(uu eG),(uu s.count.bw),(uu aN),(uu aU)]),(cl b7 238 [(ii v2.2.2.2.k),(ll dj v2.2.2.2.ak n11),(.map (some a12)),(ii v2.2.2.2.cE),(ii v2.2.2.2.dt)]),cz,dq,gI]),E6,zL,(show sF (jD.mk v2.2.2.2 (List.set x3 (Int.toNat v2.1) (qu.mk version fP v17.1)) (fZ.mk s.count.bA s.count.bB eG s.count.bw aN aU)) bh (List.flatten [(cl bh 173 [(pp b7),(ll dK (List.set x3 (Int.toNat v2.1) (qu.mk version fP v17.1)) n13),(uu s.count.bA),(uu s.count.bB),(uu eG),(uu s.count.bw),(uu aN),(uu aU)]),(cl b7 238 [(ii v2.2.2.2.k),(ll dj v2.2.2.2.ak n11),(.map (some a12)),(ii v2.2.2.2.cE),(ii v2.2.2.2.dt)]),cz,dq,gI]) from⟨b7,dj,n11,cz,a12,dq,dK,n13,gI,c_,dz,tP,J⟩),J,J⟩ J J)
def Fe.f (s:jD):Option fZ:=some s.count
theorem Fe.c (H:Fe.f s=some r) (cX:sF s bh dQ):
 QU 80 [(pp bh)] [dQ] F (.agg #[(uu r.bA),(uu r.bB),(uu r.bz),(uu r.bw),(uu r.bF),(uu r.bD)]):=by
 unfold Fe.f at H;refine aD Tryz.func80 J J (λW=>rc T 2 (nc T J (λb2=>ro T 9 (eT J (rc T 3 ?_)))));obtain⟨b4,a5,n5,H5,a6,H6,a7,n7,H7,s5,s6,s7,dy⟩:=(λx=>x) cX;refine bS 0 (congrArg some dy) (fz J (rc T 4 (lm T 2 J (sg T 1 J (ro T 3 ?_)))))
 cases H;refine dw [2,2,2,2,2] J dy (pb T J (.cQ (j:=1) [(uu s.count.bA),(uu s.count.bB),(uu s.count.bz),(uu s.count.bw),(uu s.count.bF),(uu s.count.bD)] J J J J J J J .nil) [2,0] () J J)
end
end Go.Proofs.YthodkonhneebbaaGreatDoor
