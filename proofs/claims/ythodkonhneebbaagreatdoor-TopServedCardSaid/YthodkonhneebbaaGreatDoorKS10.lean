/- What the functions of some packages compute, each as a function of plain Lean, with its contract. No condition. -/
import Derived.Test.YthodkonhneebbaaGreatDoorKST
import Derived.Test.YthodkonhneebbaaGreatDoorKS7
import Derived.Test.YthodkonhneebbaaGreatDoorKS9
import Derived.Test.YthodkonhneebbaaGreatDoorKS5
import Derived.Test.YthodkonhneebbaaGreatDoorKS6
namespace Go.Proofs.YthodkonhneebbaaGreatDoor
open Go.Hx
open Int renaming tmod->fC,tdiv->di,toNat->ax
open List renaming length->aa,set->aD,flatten_cons->vQ,flatten_append->vP,flatten_nil->vR,append_nil->tv,append_assoc->uR
set_option maxRecDepth 100000
set_option linter.unusedSimpArgs false
set_option linter.unusedVariables false
set_option maxHeartbeats 4000000
set_option autoImplicit true
set_option relaxedAutoImplicit true
noncomputable section
def HM.f:Option Int:=some 0
theorem HM.c (H:HM.f=some r):
 QU 108 [(.pointer none)] [] F (uu r):=by
 unfold HM.f at H;refine aF Tryz.func108 J J (λW=>rc T 12 (nS J (rc T 7 ?_)))
 cases H;exact p0 T J [0] J
def HN.f (ag:kc) (j_:dO) (fm:bx):Option Int:=some ag.count
theorem HN.c (H:HN.f ag j_ fm=some r) (cZ:uP ag aW me j4 du) (Ai:ng j_ me j4 pq) (pZ:iL fm j4 mB):
 QU 108 [(pp aW)] [du,pq,mB] F (uu r):=by
 unfold HN.f at H;refine aF Tryz.func108 J J (λW=>rc T 12 (eN J (rc T 3 ?_)));obtain⟨BO,H7,s7,lC⟩:=(λx=>x) cZ;refine bU 0 (congrArg some lC) (fz J (rc T 4 (lf T 3 J (ro T 4 ?_))))
 cases H;refine dD [3,3] J lC (p0 T J [3,0,0,0] J)
def uk.f (m:dO) (g:bx):Option (Option kc):=some (some (kc.mk none 0))
def uk.R (w0:Nat) (w1:Nat) (r:(Option kc)):bj:=λu G=> ∃(u0:Value) (G0:List Hp),Yb w0 w1 r u0 G0/\u=u0/\G=G0
theorem uk.c (H:uk.f m g=some r) (sY:ng m iO fq nJ) (fU:iL g fq gu):
 QR 151 [(pp iO),(pp fq)] [nJ,gu] [nJ,gu] F (uk.R iO fq r):=by
 unfold uk.f at H;refine aF Tryz.func151 J J (λW=>rc T 16 (eN J (rc T 7 (nc T J (λb3=>ro T 4 ?_)))))
 cases H;refine bz (gL [3,3] J (p1 T J [3,0,0,0] ⟨_,_,⟨b3,(List.flatten [(cl b3 233 [(pp iO),(pp fq),(.pointer none),(uu 0)]),[]]),(show uP (kc.mk none 0) b3 iO fq (List.flatten [(cl b3 233 [(pp iO),(pp fq),(.pointer none),(uu 0)]),[]]) from⟨(.pointer none),[],(show LP none iO fq (.pointer none) [] from⟨J,J⟩),J⟩),J,J⟩,J,J⟩ J))
def HO.f:Option Unit:=some ()
theorem HO.c (H:HO.f=some r):
 QU 118 [(.pointer none)] [] F (.tuple #[]):=by
 unfold HO.f at H;refine aF Tryz.func118 J J (λW=>rc T 6 (eN J (rc T 1 (jm ?_))))
 cases H;exact p0 T J [0] J
def Bn.f (ag:kc) (j_:dO) (fm:bx):Option kc:=some (kc.mk none ag.count)
def Bn.R (nU:Nat) (OC:Nat) (OD:Nat) (r:kc):bj:=λu G=> ∃(H0:Hp),uP r nU OC OD H0/\u=(.tuple #[])/\G=[H0]
theorem Bn.c (H:Bn.f ag j_ fm=some r) (cZ:uP ag aW me j4 du) (Ai:ng j_ me j4 pq) (pZ:iL fm j4 mB):
 QR 118 [(pp aW)] [du,pq,mB] [pq,mB] F (Bn.R aW me j4 r):=by
 unfold Bn.f at H;refine aF Tryz.func118 J J (λW=>rc T 6 (nS J ?_));obtain⟨BO,H7,s7,lC⟩:=(λx=>x) cZ;refine bU 0 (congrArg some lC) (fz J (rc T 4 (sg T 3 J (ro T 1 (jm ?_)))))
 cases H;refine bz (gL [3,4] J (p1 T J [4,0,0,0] ⟨(List.flatten [(cl aW 233 [(pp me),(pp j4),(.pointer none),(uu ag.count)]),[]]),(show uP (kc.mk none ag.count) aW me j4 (List.flatten [(cl aW 233 [(pp me),(pp j4),(.pointer none),(uu ag.count)]),[]]) from⟨(.pointer none),[],(show LP none me j4 (.pointer none) [] from⟨J,J⟩),J⟩),J,J⟩ J))
def gd.l1:Nat->Int->bx->(Int×Int)->(List (Int×Int))->Int->Int->List cP->Int->Option ((List (Int×Int))×(List cP))
 |0,_,_,_,_,_,_,_,_=>none
 |pM+1,goal,fm,v1,a_,bh,aP,bI,dL=>if dL<=3 then((nf.f v1.1 v1.2 bh dL).bind λv25=>(if v25<0 then(some true) else((gG.f v1.1 v1.2 v25).bind λv28=>(gG.f v1.1 v1.2 goal).bind λqR=>if(v28 !=qR)=true then(some true) else((jf.f fm v25).bind λv30=>some (v30==255)))).bind λkm=>if km=true then(gd.l1 pM goal fm v1 a_ bh aP bI (af (dL+1))) else((jf.f fm bh).bind λv31=>(mO.f (eP.mk bI) (af (aP+v31)) v25).bind λv32=>gd.l1 pM goal fm v1 a_ bh aP v32.l (af (dL+1)))) else(some ((cQ a_ bh aP),bI))
def gd.l0:Nat->Int->bx->(Int×Int)->(List (Int×Int))->List cP->Int->Int->Bool->Option (List (Int×Int))
 |0,_,_,_,_,_,_,_,_=>none
 |zN+1,goal,fm,v1,a_,bl,aP,bh,cn=>if cn=true then((if(ck a_ bh)=true then(some (a_,bl)) else(gd.l1 fuel goal fm v1 a_ bh aP bl 0)).bind λ(cM,c_)=>(mN.f (eP.mk c_)).bind λv33=>gd.l0 zN goal fm v1 cM v33.2.2.2.l v33.1 v33.2.1 v33.2.2.1) else(some a_)
def gd.f (ag:kc) (goal:Int) (j_:dO) (fm:bx):Option (List (Int×Int)):=(iQ.f fm).bind λv1=>(jf.f fm goal).bind λv2=>if(v2==255)=true then(some ([]:(List (Int×Int)))) else((wv.f).bind λv3=>dM v3 (none) (λrW=>(mO.f rW 0 goal).bind λv4=>(mN.f v4).bind λv5=>gd.l0 fuel goal fm v1 ([]:(List (Int×Int))) v5.2.2.2.l v5.1 v5.2.1 v5.2.2.1))
def gd.R (r:(List (Int×Int))):bj:=λu G=> ∃(a0:Nat) (H0:Hp),db (Ky.int .i64 u3) (λx:Int=>Value.int .i64 x) r a0 H0/\u=(.map (some a0))/\G=[H0]
theorem gd.c (H:gd.f ag goal j_ fm=some r) (cZ:uP ag aW me j4 du) (Ai:ng j_ me j4 pq) (pZ:iL fm j4 mB):
 QR 214 [(pp aW),(ii goal)] [du,pq,mB] [du,pq,mB] F (gd.R r):=by
 unfold gd.f at H;refine aF Tryz.func214 J J (λW=>rc T 6 ?_);obtain⟨BO,H7,s7,lC⟩:=(λx=>x) cZ;refine bU 0 (congrArg some lC) (fz J (rc T 4 (lf T 3 J (k [1] J vc H (iQ.c · pZ) (λv1 H=>ro T 9 (aV (vW T (Ky.int .i64 u3) (λx:Int=>Value.int .i64 x) J J J trivial (λa8 H8 s8=>ro T 9 (lf T 3 J (ro T 1 (k [1] J wm H (jf.c · pZ) (λv2 H=>ro T 3 (cb J H (λH=>?_) (λH=>?_))))))))))))))
 ·refine rc T 8 ?_
  cases H;refine dD [3,3] J lC (p1 T J [3,3,0,0,0] ⟨a8,H8,s8,J,J⟩ J)
 refine rc T 4 (kr wv.R [] [] J Td H (wv.c ·) (λv3 H=>?_));rintro _ _ ⟨_,_,O5,rfl,rfl⟩;rcases v3 with _ |rW
 ·replace H:=fj J H
  cases H
 replace H:=fk J H;obtain⟨b9,cC,n10,bT,bL,rfl,rfl⟩:=O5;refine ro T 7 (kr (mO.R b9) [] [6,6] J JV H (mO.c · bL) (λv4 H=>?_));rintro _ _ ⟨dj,n11,cH,cX,rfl,rfl⟩;refine fz J (ro T 1 (ks [0,1,5,6,7,8] J (rx T 5 (kr (mN.R b9) [] [6,6] J JW H (mN.c · cX) (λv5 H=>?_)))));rintro _ _ ⟨a12,n12,dq,dE,rfl,rfl⟩;refine fz J (ro T 10 (lq [0,1,5,6,8] [2,2,2,0,0] (λ(⟨zN,a_,bl,aP,bh,cn,jX,dP,iu,n16,ft⟩:Nat×(List (Int×Int))×List cP×Int×Int×Bool×Nat×Hp×Option Addr×Nat×Hp)=>(gd.l0 zN goal fm v1 a_ bl aP bh cn=some r/\db (Ky.int .i64 u3) (λx:Int=>Value.int .i64 x) a_ jX dP/\aj fR 359 bl iu n16 ft,[(7,(.map (some jX))),(9,(ii aP)),(10,(ii bh)),(11,(bb cn))],[dP,(cl b9 357 [(ll iu bl n16)]),ft])) J J (fuel,([]:(List (Int×Int))),v5.2.2.2.l,v5.1,v5.2.1,v5.2.2.1,a8,H8,a12,n12,dq) [2,2,2,0,0,0,0,0] ⟨H,s8,dE⟩ J J ?_));rintro zN ⟨a_,bl,aP,bh,cn,jX,dP,iu,n16,ft⟩ ⟨Z8,dS,eB⟩;rw[gd.l0] at Z8;refine rc T 6 (cb J Z8 (λZ8=>?_) (λZ8=>?_))
 ·refine rc T 2 (mq Z8 [0,1,5,6,8] [0,0,0,0,0] (λFm (⟨cM,c_,a17,eU,jl,n18,fv⟩:(List (Int×Int))×List cP×Nat×Hp×Option Addr×Nat×Hp)=>((cM,c_)=Fm/\db (Ky.int .i64 u3) (λx:Int=>Value.int .i64 x) cM a17 eU/\aj fR 359 c_ jl n18 fv,[(7,(.map (some a17)))],[eU,(cl b9 357 [(ll jl c_ n18)]),fv])) J J (λFm i_ _=>?_) ?_)
  ·refine rc T 6 (bA J (qu (k:=bh) T (Ky.int .i64 u3) (λx:Int=>Value.int .i64 x) J J J J J (o_ dS (j:=5) J)) (ro T 12 (cb J i_ (λi_=>?_) (λi_=>?_))))
   ·refine rc T 4 (am (_,_,_,_,_,_,_) [0,0,0,0,0,0,0,0] ⟨oi i_,dS,eB⟩ J J)
   refine rc T 7 (aV (qh (g:=5) (m:=a_) (k:=bh) (v:=aP) T (Ky.int .i64 u3) (λx:Int=>Value.int .i64 x) J J J J J J J dS (λkH gP=>ro T 8 (lq [0,1,5,6,7,8,9,10] [0,0,0,0,0,0] (λ(⟨pM,bI,dL,a21,n21,ln⟩:Nat×List cP×Int×Option Addr×Nat×Hp)=>(gd.l1 pM goal fm v1 a_ bh aP bI dL=some Fm/\aj fR 359 bI a21 n21 ln,[(14,(ii dL))],[(cl b9 357 [(ll a21 bI n21)]),ln])) J J (fuel,bl,0,iu,n16,ft) [0,0,0,0,0,0,0,0] ⟨i_,eB⟩ J J ?_))));rintro pM ⟨bI,dL,a21,n21,ln⟩ ⟨ba,jA⟩;rw[gd.l1] at ba;refine rc T 7 (cd J ba (λba=>?_) (λba=>?_))
   ·refine rc T 10 (k [] J A9 ba (nf.c ·) (λv25 ba=>ro T 4 (mq ba [0,1,5,6,7,8,9,10,14,15] [0,0,0,0,0,0,0,0] (λXN (km:Bool)=>(km=XN,[(90,(bb km))],[])) J J (λXN dC _=>?_) ?_)))
    ·refine rc T 4 (ad 71 J dC (λdC=>?_) (λdC=>?_))
     ·refine ro T 21 (am _ [0,0,0,0,0,0,0,0] (oi dC) J J)
     refine ro T 3 (k [] J sF dC (gG.c ·) (λv28 dC=>ro T 3 (k [] J sF dC (gG.c ·) (λqR dC=>ro T 3 (ab 82 J dC (λdC=>?_) (λdC=>?_))))))
     ·refine ro T 10 (am _ [0,0,0,0,0,0,0,0] (oi dC) J J)
     refine ro T 3 (lf T 1 J (ro T 1 (k [4] J wm dC (jf.c · pZ) (λv30 dC=>ro T 4 (am _ [0,0,0,0,0,0,0,0] (oi dC) J J)))))
    rintro _ km rfl ba;refine cb J ba (λba=>?_) (λba=>?_)
    ·refine rc T 10 (ar (_,_,_,_,_) [0,0,0,0,0,0,0,0] ⟨ba,jA⟩ J J)
    refine rc T 8 (lf T 1 J (ro T 1 (k [4] J wm ba (jf.c · pZ) (λv31 ba=>ro T 2 (kr (mO.R b9) [] [6,6] J JV ba (mO.c (h:=(eP.mk bI)) · jA) (λv32 ba=>?_))))));rintro _ _ ⟨a22,n22,mz,iz,rfl,rfl⟩;refine fz J (ro T 9 (ar (_,_,_,_,_) [0,0,0,0,0,0,0,0] ⟨ba,iz⟩ J J))
   refine rc T 6 (am (_,_,_,_,_,_,_) [0,0,0,0,0,0,0,0] ⟨oi ba,gP,jA⟩ J J)
  rintro _ ⟨cM,c_,a17,eU,jl,n18,fv⟩ ⟨rfl,fL,fM⟩ Z8;refine rc T 2 (kr (mN.R b9) [] [6,6] J JW Z8 (mN.c (h:=(eP.mk c_)) · fM) (λv33 Z8=>?_));rintro _ _ ⟨a23,n23,jC,gD,rfl,rfl⟩;refine fz J (ro T 9 (ar (_,_,_,_,_,_,_,_,_,_) [0,0,0,0,0,0,0,0] ⟨Z8,fL,gD⟩ J J))
 refine rc T 12 ?_
 cases Z8;refine dD [1,1] J lC (p1 T J [3,5,1,1,0] ⟨jX,dP,dS,J,J⟩ J)
def um.f (ag:gO) (node:Int) (key:Int):Option (Bool×gO):=if(0<=node/\node<(aa ag.aN:Int)) then(if key≥(af (rd ag.aN node)) then(some (false,ag)) else(some (true,(gO.mk ag.goal ag.bV (aD ag.aN (ax node) (IntKind.i32.wrap key)))))) else none
def um.R (aW:Nat) (r:(Bool×gO)):bj:=λu G=> ∃a0 n0 H0,aj (Fl.int .i32) 21 r.2.aN a0 n0 H0/\u=(bb r.1)/\G=[(cl aW 235 [(ii r.2.goal),(ii r.2.bV),(ll a0 r.2.aN n0)]),H0]
theorem um.c (H:um.f ag node key=some r) (wZ:aj (Fl.int .i32) 21 ag.aN xw yj AJ):
 QR 216 [(pp aW),(ii node),(ii key)] [(cl aW 235 [(ii ag.goal),(ii ag.bV),(ll xw ag.aN yj)]),AJ] [] F (um.R aW r):=by
 unfold um.f at H;refine aF Tryz.func216 J J (λW=>rc T 12 (lf T 0 J (ro T 1 ?_)));obtain⟨c1,H⟩:=az H;obtain⟨q3,o3,e3⟩:=wZ.r.addr c1.1 c1.2;refine ix T J e3 c1 (le T 0 (oO wZ 1) e3 c1 J J (ro T 4 (cd J H (λH=>?_) (λH=>?_))))
 ·refine rc T 7 ?_
  cases H;exact p1 T J [0,0,0] ⟨xw,yj,AJ,wZ,J,J⟩ J
 refine rc T 7 (lf T 0 J (ro T 3 (ix T J e3 c1 (aV (jZ (k:=(Fl.int .i32)) T 1 0 (IntKind.i32.wrap key) J J J J J J wZ e3 c1 J J J (λH4 s4=>kg [] [1,1] [1,1,0] [] [(cl aW 235 [(ii ag.goal),(ii ag.bV),(ll xw (aD ag.aN (ax node) (IntKind.i32.wrap key)) yj)])] J J trivial dB (ro T 8 ?_)))))))
 cases H;exact p1 T J [2,0,0] ⟨xw,yj,H4,s4,J,J⟩ J
def gm.l2:Nat->Int->Int->(List ez)->Int->Int->List Int->List cP->Int->Option (Int×Int×(List Int)×(List cP))
 |0,_,_,_,_,_,_,_,_=>none
 |G4+1,goal,fO,tl,DK,DL,BQ,yY,rV=>if rV<(aa tl:Int) then(if(0<=rV/\rV<(aa tl:Int)) then((um.f (gO.mk DK DL BQ) ((rd tl rV).To) (af (fO+(rd tl rV).kG))).bind λv64=>if v64.1=true then((mO.f (eP.mk yY) (af (fO+(rd tl rV).kG)) ((rd tl rV).To)).bind λXu=>gm.l2 G4 goal fO tl v64.2.goal v64.2.bV v64.2.aN Xu.l (af (rV+1))) else(gm.l2 G4 goal fO tl v64.2.goal v64.2.bV v64.2.aN yY (af (rV+1)))) else none) else(some (DK,DL,BQ,yY))
def gm.l1:Nat->Int->dO->bx->Int->Int->List Int->List cP->Int->Int->Bool->Option (Option gO)
 |0,_,_,_,_,_,_,_,_,_,_=>none
 |yd+1,goal,j_,fm,iW,gJ,iq,iX,fO,iY,iA=>if iA=true then((if(0<=iY/\iY<(aa iq:Int)) then(if fO>(af (rd iq iY)) then(some (iW,gJ,iq,iX)) else((ig.f j_ iY fm).bind λtl=>gm.l2 fuel goal fO tl iW gJ iq iX 0)) else none).bind λ(Ip,Iq,Fj,DJ)=>(mN.f (eP.mk DJ)).bind λv66=>gm.l1 yd goal j_ fm Ip Iq Fj v66.2.2.2.l v66.1 v66.2.1 v66.2.2.1) else(some (some (gO.mk iW gJ iq)))
def gm.l0:Nat->Int->dO->bx->(List (Int×Int))->(List Int)->Int->Int->List Int->List cP->Int->Option (Option gO)
 |0,_,_,_,_,_,_,_,_,_,_=>none
 |KB+1,goal,j_,fm,v5,v7,aP,bh,cn,dt,cM=>if cM<(aa v7:Int) then((if(0<=cM/\cM<(aa v7:Int)) then((if(ck v5 (rd v7 cM))=true then((um.f (gO.mk aP bh cn) (rd v7 cM) (aT v5 (rd v7 cM))).bind λqR=>some (qR.2.goal,qR.2.bV,qR.2.aN,qR.1)) else(some (aP,bh,cn,false))).bind λ(qV,fb,km,mw)=>if mw=true then((mO.f (eP.mk dt) (aT v5 (rd v7 cM)) (rd v7 cM)).bind λv30=>some (qV,fb,km,v30.l)) else(some (qV,fb,km,dt))) else none).bind λ(dA,il,eQ,bI)=>gm.l0 KB goal j_ fm v5 v7 dA il eQ bI (af (cM+1))) else((mN.f (eP.mk dt)).bind λv31=>gm.l1 fuel goal j_ fm aP bh cn v31.2.2.2.l v31.1 v31.2.1 v31.2.2.1)
def gm.f (ag:kc) (goal:Int) (j_:dO) (fm:bx):Option (Option gO):=(iQ.f fm).bind λv1=>(pE.f fm).bind λv2=>(p_.f [2147483647] (af (v1.1*v1.2))).bind λv3=>(wv.f).bind λv4=>dM v4 (none) (λxk=>(gd.f ag goal j_ fm).bind λv5=>(gG.f v1.1 v1.2 goal).bind λv6=>(yi.f j_ v6 fm).bind λv7=>gm.l0 fuel goal j_ fm v5 v7 goal v2 v3 xk.l 0)
def gm.R (r:(Option gO)):bj:=λu G=> ∃(u0:Value) (G0:List Hp),Yc r u0 G0/\u=u0/\G=G0
theorem gm.c (H:gm.f ag goal j_ fm=some r) (cZ:uP ag aW me j4 du) (Ai:ng j_ me j4 pq) (pZ:iL fm j4 mB):
 QR 182 [(pp aW),(ii goal)] [du,pq,mB] [du,pq,mB] F (gm.R r):=by
 unfold gm.f at H;refine aF Tryz.func182 J J (λW=>rc T 6 ?_);obtain⟨BO,H7,s7,lC⟩:=(λx=>x) cZ;refine bU 0 (congrArg some lC) (fz J (rc T 4 (lf T 3 J (k [1] J vc H (iQ.c · pZ) (λv1 H=>ro T 13 (lf T 3 J (k [1] J Cu H (pE.c · pZ) (λv2 H=>aV (cW (k:=(Fl.int .i32)) T [2147483647] J J J J J J J J J (λa8 H8 s8=>ro T 3 (kr p_.R [] [] J acV H (p_.c · (oO s8 5) s8.bZ) (λv3 H=>?_))))))))))));rintro _ _ ⟨a9,n9,H9,s9,rfl,rfl⟩;refine fz J (ro T 1 (nc T J (λgh=>ro T 5 (kr wv.R [] [] J Td H (wv.c ·) (λv4 H=>?_)))));rintro _ _ ⟨_,_,O5,rfl,rfl⟩;rcases v4 with _ |xk
 ·replace H:=fj J H
  cases H
 replace H:=fk J H;obtain⟨iN,a12,n12,dq,dE,rfl,rfl⟩:=O5;refine ro T 7 ?_;obtain⟨v5,V6,H⟩:=gx H;refine aV (FP (As:=[(cl aW 233 [(pp me),(pp j4),BO,(uu ag.count)]),H7,pq,mB]) (gd.R v5) [(cl aW 233 [(pp me),(pp j4),BO,(uu ag.count)]),H7,pq,mB] [3,3,0,0] J J J J acW J J (Jm (A:=[du,pq,mB]) (A2:=[du,pq,mB]) (by simp only[lC,vQ,vP,vR,tv,uR]) (by simp only[lC,vQ,vP,vR,tv,uR]) (gd.c V6 cZ Ai pZ)) ?_)
 rintro _ _ ⟨dh,dI,cY,rfl,rfl⟩;refine fz J (ro T 2 (ke [0,1,5,6,7,8,9] [0,1,1,1,1,1,1,1,1,1] J J (rx T 3 (fz J (rg [] [0,0,0,0,0,0,0,0,0,0] mix (bH bG) (λhg pf=>ha T 8 [0,1,2] sz hg pf J (al T 3 6 sz hg pf J J J (ha T 3 [4,5,6,10] sz hg pf J (ao 7 (kh [] J sF H (gG.c ·) (λv6 H=>an sz (ao 8 (kR yi.R [8,8] [8,8] J acX H (yi.c · Ai pZ) (λv7 H=>?_))))))))))))));rintro _ _ ⟨gU,n14,fp,fT,rfl,rfl⟩;refine fz J (an (so [0,0,0,0,0,0,0,0,1,1]) (ha T 0 [9] (so [0,0,0,0,0,0,0,0,1,1]) hg pf J (ae (rx T 2 (lq [0,7,8,9,52,53] [0,5,5,6,6,4,4] (λ(⟨KB,aP,bh,cn,dt,cM,a17,n17,eU,jl,n18,fv⟩:Nat×Int×Int×List Int×List cP×Int×Option Addr×Nat×Hp×Option Addr×Nat×Hp)=>(gm.l0 KB goal j_ fm v5 v7 aP bh cn dt cM=some r/\aj (Fl.int .i32) 21 cn a17 n17 eU/\aj fR 359 dt jl n18 fv,[(54,(ii cM))],[(cl gh 235 [(ii aP),(ii bh),(ll a17 cn n17)]),eU,(cl iN 357 [(ll jl dt n18)]),fv])) J J (fuel,goal,v2,v3,xk.l,0,a9,n9,H9,a12,n12,dq) [0,5,5,6,6,4,4,1,0,0,0] ⟨H,s9,dE⟩ J J ?_)))));rintro KB ⟨aP,bh,cn,dt,cM,a17,n17,eU,jl,n18,fv⟩ ⟨Z9,fL,fM⟩;rw[gm.l0] at Z9;refine rc T 6 (cd J Z9 (λZ9=>?_) (λZ9=>?_))
 ·refine rc T 2 (mq Z9 [0,7,8,9,52,53,54] [0,0,0,0,0,0,0] (λz23 (⟨dA,il,eQ,bI,ma,n19,kH,a20,n20,nI⟩:Int×Int×List Int×List cP×Option Addr×Nat×Hp×Option Addr×Nat×Hp)=>((dA,il,eQ,bI)=z23/\aj (Fl.int .i32) 21 eQ ma n19 kH/\aj fR 359 bI a20 n20 nI,[],[(cl gh 235 [(ii dA),(ii il),(ll ma eQ n19)]),kH,(cl iN 357 [(ll a20 bI n20)]),nI])) J J (λz23 aY _=>?_) ?_)
  ·refine rc T 3 ?_;obtain⟨gy,aY⟩:=az aY;obtain⟨Dg,Vv,A5⟩:=fT.r.addr gy.1 gy.2;refine ix T J A5 gy (le T 0 (oO fT 6) A5 gy J J (ro T 7 (bA J (qu (k:=(rd v7 cM)) T (Ky.int .i64 u3) (λx:Int=>Value.int .i64 x) J J J J J (o_ cY (j:=5) J)) (ro T 7 (mq aY [0,7,8,9,11,12,52,53,54] [0,0,0,0,0,4,4,0,0] (λz28 (⟨qV,fb,km,mw,a22,n22,mz⟩:Int×Int×List Int×Bool×Option Addr×Nat×Hp)=>((qV,fb,km,mw)=z28/\aj (Fl.int .i32) 21 km a22 n22 mz,[(70,(bb mw))],[(cl gh 235 [(ii qV),(ii fb),(ll a22 km n22)]),mz])) J J (λz28 lS _=>?_) ?_)))))
   ·refine rc T 3 (ab 65 J lS (λlS=>?_) (λlS=>?_))
    ·refine ro T 3 (kr (um.R gh) [] [7,7] J Te lS (um.c (ag:=(gO.mk aP bh cn)) · fL) (λqR lS=>?_));rintro _ _ ⟨a23,n23,jC,gD,rfl,rfl⟩;refine fz J (ro T 3 (am (_,_,_,_,_,_,_) [0,0,0,0,0,2,2,0,0,0,0] ⟨oi lS,gD⟩ J J))
    refine ro T 7 (am (_,_,_,_,_,_,_) [0,0,0,0,0,4,4,0,0,0,0] ⟨oi lS,fL⟩ J J)
   rintro _ ⟨qV,fb,km,mw,a22,n22,mz⟩ ⟨rfl,iz⟩ aY;refine cb J aY (λaY=>?_) (λaY=>?_)
   ·refine rc T 4 (kr (mO.R iN) [] [5,5] J JV aY (mO.c (h:=(eP.mk dt)) · fM) (λv30 aY=>?_));rintro _ _ ⟨a24,n24,qZ,kZ,rfl,rfl⟩;refine fz J (ro T 3 (am (_,_,_,_,_,_,_,_,_,_) [0,0,0,0,0,0,0,0,0,0,0] ⟨oi aY,iz,kZ⟩ J J))
   refine rc T 3 (am (_,_,_,_,_,_,_,_,_,_) [0,0,0,0,0,2,2,2,2,0,0] ⟨oi aY,iz,fM⟩ J J)
  rintro _ ⟨dA,il,eQ,bI,ma,n19,kH,a20,n20,nI⟩ ⟨rfl,gP,lL⟩ Z9;refine rc T 5 (ar (_,_,_,_,_,_,_,_,_,_,_) [0,0,0,0,0,0,0,0,0,0,0] ⟨Z9,gP,lL⟩ J J)
 refine rc T 9 (kr (mN.R iN) [] [9,9] J JW Z9 (mN.c (h:=(eP.mk dt)) · fM) (λv31 Z9=>?_));rintro _ _ ⟨a25,n25,ir,jQ,rfl,rfl⟩;refine fz J (ro T 10 (lq [0,7,8] [0,0,0,0,0] (λ(⟨yd,iW,gJ,iq,iX,fO,iY,iA,a28,n28,vH,zi,n29,rY⟩:Nat×Int×Int×List Int×List cP×Int×Int×Bool×Option Addr×Nat×Hp×Option Addr×Nat×Hp)=>(gm.l1 yd goal j_ fm iW gJ iq iX fO iY iA=some r/\aj (Fl.int .i32) 21 iq a28 n28 vH/\aj fR 359 iX zi n29 rY,[(14,(ii fO)),(15,(ii iY)),(16,(bb iA))],[(cl gh 235 [(ii iW),(ii gJ),(ll a28 iq n28)]),vH,(cl iN 357 [(ll zi iX n29)]),rY])) J J (fuel,aP,bh,cn,v31.2.2.2.l,v31.1,v31.2.1,v31.2.2.1,a17,n17,eU,a25,n25,ir) [0,0,0,0,0,2,2,2,2] ⟨Z9,fL,jQ⟩ J J ?_));rintro yd ⟨iW,gJ,iq,iX,fO,iY,iA,a28,n28,vH,zi,n29,rY⟩ ⟨fh,kB,rJ⟩;rw[gm.l1] at fh;refine rc T 6 (cb J fh (λfh=>?_) (λfh=>?_))
 ·refine rc T 2 (mq fh [0,7,8] [0,0,0,0,0] (λz51 (⟨Ip,Iq,Fj,DJ,B3,n30,rZ,a31,n31,BT⟩:Int×Int×List Int×List cP×Option Addr×Nat×Hp×Option Addr×Nat×Hp)=>((Ip,Iq,Fj,DJ)=z51/\aj (Fl.int .i32) 21 Fj B3 n30 rZ/\aj fR 359 DJ a31 n31 BT,[],[(cl gh 235 [(ii Ip),(ii Iq),(ll B3 Fj n30)]),rZ,(cl iN 357 [(ll a31 DJ n31)]),BT])) J J (λz51 tD _=>?_) ?_)
  ·refine rc T 8 (lf T 5 J (ro T 1 ?_));obtain⟨pC,tD⟩:=az tD;obtain⟨q32,o32,RJ⟩:=kB.r.addr pC.1 pC.2;refine ix T J RJ pC (le T 0 (oO kB 6) RJ pC J J (ro T 4 (cd J tD (λtD=>?_) (λtD=>?_))))
   ·refine rc T 4 (am (_,_,_,_,_,_,_,_,_,_) [0,0,0,0,0,0,0,0,0] ⟨oi tD,kB,rJ⟩ J J)
   refine rc T 7 (lf T 1 J (ro T 1 (kr ig.R [3,3] [3,3] J acY tD (ig.c · Ai pZ) (λtl tD=>?_))));rintro _ _ ⟨a33,n33,IJ,wW,rfl,rfl⟩;refine fz J (ro T 5 (lq [0,7,8,14,104,105] [0,0,0,5,5,4] (λ(⟨G4,DK,DL,BQ,yY,rV,AP,n36,AG,a37,n37,Fs⟩:Nat×Int×Int×List Int×List cP×Int×Option Addr×Nat×Hp×Option Addr×Nat×Hp)=>(gm.l2 G4 goal fO tl DK DL BQ yY rV=some z51/\aj (Fl.int .i32) 21 BQ AP n36 AG/\aj fR 359 yY a37 n37 Fs,[(106,(ii rV))],[(cl gh 235 [(ii DK),(ii DL),(ll AP BQ n36)]),AG,(cl iN 357 [(ll a37 yY n37)]),Fs])) J J (fuel,iW,gJ,iq,iX,0,a28,n28,vH,zi,n29,rY) [0,0,0,5,5,4,0,0,0,0] ⟨tD,kB,rJ⟩ J J ?_));rintro G4 ⟨DK,DL,BQ,yY,rV,AP,n36,AG,a37,n37,Fs⟩ ⟨qg,Dn,Dp⟩;rw[gm.l2] at qg;refine rc T 6 (cd J qg (λqg=>?_) (λqg=>?_))
   ·refine rc T 6 ?_;obtain⟨Ji,qg⟩:=az qg;obtain⟨q38,Vw,RK⟩:=wW.r.addr Ji.1 Ji.2;refine ix T J RK Ji (bA J (fY T (cs:=[(ii (rd tl rV).To),(ii (rd tl rV).kG)]) J J J J J J (iy (k:=pN) (oO wW 5) RK Ji J)) (nc T J (λb39=>sg T 10 J (ro T 6 (lf T 10 J (ro T 2 (lf T 10 J (ro T 1 (kr (um.R gh) [] [6,6] J Te qg (um.c (ag:=(gO.mk DK DL BQ)) · Dn) (λv64 qg=>?_))))))))));rintro _ _ ⟨a40,n40,LM,ES,rfl,rfl⟩;refine fz J (ro T 2 (cb J qg (λqg=>?_) (λqg=>?_)))
    ·refine rc T 4 (lf T 8 J (ro T 2 (lf T 8 J (kr (mO.R iN) [] [6,6] J JV qg (mO.c (h:=(eP.mk yY)) · Dp) (λXu qg=>?_)))));rintro _ _ ⟨a41,n41,Ft,Ag,rfl,rfl⟩;refine fz J (ro T 1 (ke [0,7,8,14,104,105,106] [0,0,0,0,0,0,1,1,1,1] J J (rx T 7 (ar (_,_,_,_,_,_,_,_,_,_,_) [0,0,0,0,0,0,0,0,0,0] ⟨qg,ES,Ag⟩ J J))))
    refine rc T 8 (ar (_,_,_,_,_,_,_,_,_,_,_) [0,0,0,0,0,0,3,3,0,0] ⟨qg,ES,Dp⟩ J J)
   refine rc T 6 (am (_,_,_,_,_,_,_,_,_,_) [0,0,0,0,0,1,1,1,1] ⟨oi qg,Dn,Dp⟩ J J)
  rintro _ ⟨Ip,Iq,Fj,DJ,B3,n30,rZ,a31,n31,BT⟩ ⟨rfl,pW,Ae⟩ fh;refine rc T 2 (kr (mN.R iN) [] [7,7] J JW fh (mN.c (h:=(eP.mk DJ)) · Ae) (λv66 fh=>?_));rintro _ _ ⟨a42,n42,lQ,Pt,rfl,rfl⟩;refine fz J (ro T 9 (ar (_,_,_,_,_,_,_,_,_,_,_,_,_) [0,0,0,0,0,0,0,0,0] ⟨fh,pW,Pt⟩ J J))
 refine rc T 12 ?_
 cases fh;refine dD [1,1] J lC (p1 T J [3,3,5,1,1,0] ⟨_,_,⟨gh,a28,n28,vH,kB,J,J⟩,J,J⟩ J)
def yG.f (ag:kc) (goal:Int) (j_:dO) (fm:bx):Option ((Option gO)×kc×dO):=(jf.f fm goal).bind λv1=>if(v1==0)=true then(some (none,ag,j_)) else((od.f j_ fm).bind λv2=>(dM ag.kept (some true) (λx5=>if(x5.goal !=goal)=true then(some true) else((pE.f fm).bind λv6=>some (x5.bV !=v6)))).bind λx3=>if x3=true then((gm.f ag goal v2.2 fm).bind λv7=>dM v7 (none) (λrX=>(tg.f ag.count 1).bind λv8=>some ((some rX),(kc.mk (some rX) v8),v2.2))) else(dM ag.kept (some (none,ag,v2.2)) (λx9=>some ((some x9),ag,v2.2))))
def yG.R (nU:Nat) (OC:Nat) (OD:Nat) (aaE:Nat) (afp:Nat) (r:((Option gO)×kc×dO)):bj:=λu G=> ∃(u0:Value) (H1:Hp) (H2:Hp),Yf r.1 r.2.1 nU OC OD u0 H1/\ng r.2.2 aaE afp H2/\u=u0/\G=[H1,H2]
theorem yG.c (H:yG.f ag goal j_ fm=some r) (cZ:uP ag aW me j4 du) (Ai:ng j_ me j4 pq) (pZ:iL fm j4 mB):
 QR 143 [(pp aW),(ii goal)] [du,pq,mB] [mB] F (yG.R aW me j4 me j4 r):=by
 unfold yG.f at H;refine aF Tryz.func143 J J (λW=>rc T 7 ?_);obtain⟨BO,H7,s7,lC⟩:=(λx=>x) cZ;refine bU 0 (congrArg some lC) (fz J (rc T 7 (lf T 3 J (ro T 1 (k [1] J wm H (jf.c · pZ) (λv1 H=>ro T 4 (cb J H (λH=>?_) (λH=>?_))))))))
 ·refine rc T 7 ?_
  cases H;refine dD [3,3] J lC (p1 T J [3,0,0,0] ⟨_,du,pq,⟨J,cZ⟩,Ai,J,J⟩ J)
 refine rc T 7 (lf T 3 J (kr (od.R me j4) [1] [0,0] J acE H (od.c · Ai pZ) (λv2 H=>?_)));rintro _ _ ⟨H8,s8,rfl,rfl⟩;refine fz J (ro T 3 (mq H [0,1] [0,0,0,0,0] (λz4 (x3:Bool)=>(x3=z4,[(51,(bb x3))],[])) J J (λz4 Z4 _=>?_) ?_))
 ·rcases q5:ag.kept with _ |x5
  ·replace Z4:=fj q5 Z4;rw[q5] at s7;obtain⟨rfl,rfl⟩:=s7;refine dw mix aB (au T J (au T J (au T J (cD T 1 J J J ?_))))
   iterate 27 refine au T J ?_
   refine cO (rx T 1 (am _ [0,0,0,0,0] (oi Z4) J J))
  replace Z4:=fk q5 Z4;rw[q5] at s7;obtain⟨gh,dj,n11,cH,cX,rfl,M9⟩:=s7;refine bU 2 (congrArg some M9) (fz J (dw mix aB (au T J (au T J (au T J (cD T 1 J J J ?_))))))
  iterate 5 refine au T J ?_
  refine cD T 1 J J J (au T J (au T J (cD T 4 J J J ?_)))
  iterate 4 refine au T J ?_
  refine qb 37 J Z4 (λZ4=>?_) (λZ4=>?_)
  ·iterate 14 refine au T J ?_
   refine cO (rx T 1 (dD [4,4] J M9 (am _ [0,0,2,0,0] (oi Z4) J J)))
  refine au T J (au T J (au T J (cD T 1 J J J (au T J (au T J (cD T 4 J J J (au T J (au T J (au T J (cD T 1 J J J ?_))))))))));obtain⟨v6,V7,Z4⟩:=gx Z4;refine xz [3] J J J J J J Cu J (pE.c V7 pZ) (au T J (au T J (cO (rx T 1 (dD [4,4] J M9 (am _ [0,0,2,0,0] (oi Z4) J J))))))
 rintro _ x3 rfl H;refine cb J H (λH=>?_) (λH=>?_)
 ·refine rc T 5 ?_;obtain⟨v7,V9,H⟩:=gx H;refine aV (FP (As:=[(cl aW 233 [(pp me),(pp j4),BO,(uu ag.count)]),H7,H8,mB]) (gm.R v7) [(cl aW 233 [(pp me),(pp j4),BO,(uu ag.count)]),H7,H8,mB] [1,1,1,1] J J J J acF J J (Jm (A:=[du,H8,mB]) (A2:=[du,H8,mB]) (by simp only[lC,vQ,vP,vR,tv,uR]) (by simp only[lC,vQ,vP,vR,tv,uR]) (gm.c V9 cZ s8 pZ)) ?_)
  rintro _ _ ⟨_,_,LO,rfl,rfl⟩;rcases v7 with _ |rX
  ·replace H:=fj J H
   cases H
  replace H:=fk J H;obtain⟨lv,dh,n13,dI,cY,rfl,rfl⟩:=LO;refine ro T 2 (sg T 3 J (ro T 7 (lf T 3 J (k [] J JQ H (tg.c ·) (λv8 H=>ro T 2 (sg T 3 J (ro T 7 (lf T 3 J (ro T 4 ?_)))))))))
  cases H;refine gL [1,1] J (gL [1,4] J (p1 T J [4,2,2,0] ⟨_,(List.flatten [(cl aW 233 [(pp me),(pp j4),(pp lv),(uu v8)]),(List.flatten [(cl lv 235 [(ii rX.goal),(ii rX.bV),(ll dh rX.aN n13)]),dI])]),H8,⟨J,lv,dh,n13,dI,cY,J,J⟩,s8,J,J⟩ J))
 refine rc T 3 ?_;rcases wL:ag.kept with _ |x9
 ·replace H:=fj wL H;rw[wL] at s7;obtain⟨rfl,rfl⟩:=s7;refine rc T 4 (lf T 1 J (ro T 4 ?_))
  cases H;refine dD [1,1] J lC (p1 T J [3,1,1,0] ⟨_,du,H8,⟨J,cZ⟩,s8,J,J⟩ J)
 replace H:=fk wL H;rw[wL] at s7;obtain⟨ri,a17,n17,eU,fL,rfl,M7⟩:=s7;refine bU 2 (congrArg some M7) (fz J (rc T 4 (lf T 1 J (ro T 4 ?_))))
 cases H;refine dD [4,4] J M7 (dD [1,3] J lC (p1 T J [3,1,1,0] ⟨_,du,H8,⟨wL,ri,a17,n17,eU,fL,J,(by rw[lC,M7])⟩,s8,J,J⟩ J))
def HP.f (ag:gO):Option Int:=some ag.bV
theorem HP.c (H:HP.f ag=some r) (wZ:aj (Fl.int .i32) 21 ag.aN xw yj AJ):
 QU 174 [(pp aW)] [(cl aW 235 [(ii ag.goal),(ii ag.bV),(ll xw ag.aN yj)]),AJ] F (ii r):=by
 unfold HP.f at H;refine aF Tryz.func174 J J (λW=>rc T 12 (eN J (rc T 7 (lf T 0 J (ro T 4 ?_)))))
 cases H;exact p0 T J [0,0,0] J
def Dk.f (ag:gO) (cell:Int):Option Int:=(if cell<0 then(some true) else(if cell≥(aa ag.aN:Int) then(some true) else(if(0<=cell/\cell<(aa ag.aN:Int)) then(some ((rd ag.aN cell)==2147483647)) else none))).bind λx1=>if x1=true then(some 1099511627776) else(if(0<=cell/\cell<(aa ag.aN:Int)) then(some (af (rd ag.aN cell))) else none)
theorem Dk.c (H:Dk.f ag cell=some r) (wZ:aj (Fl.int .i32) 21 ag.aN xw yj AJ):
 QU 177 [(pp aW),(ii cell)] [(cl aW 235 [(ii ag.goal),(ii ag.bV),(ll xw ag.aN yj)]),AJ] F (ii r):=by
 unfold Dk.f at H;refine aF Tryz.func177 J J (λW=>rc T 6 (mq H [0,1] [2,0,0] (λz2 (x1:Bool)=>(x1=z2,[(29,(bb x1))],[])) J J (λz2 Z1 _=>?_) ?_))
 ·refine rc T 8 (ad 11 J Z1 (λZ1=>?_) (λZ1=>?_))
  ·refine ro T 20 (am _ [2,0,0] (oi Z1) J J)
  refine ro T 4 (lf T 0 J (ro T 4 (ad 20 J Z1 (λZ1=>?_) (λZ1=>?_))))
  ·refine ro T 11 (am _ [2,0,0] (oi Z1) J J)
  refine ro T 3 (lf T 0 J (ro T 1 ?_));obtain⟨c4,Z1⟩:=az Z1;obtain⟨q3,o3,e3⟩:=wZ.r.addr c4.1 c4.2;refine ix T J e3 c4 (le T 0 (oO wZ 1) e3 c4 J J (ro T 4 (am _ [2,0,0] (oi Z1) J J)))
 rintro _ x1 rfl H;refine cb J H (λH=>?_) (λH=>?_)
 ·refine rc T 7 ?_
  cases H;exact p0 T J [1,1,0] J
 refine rc T 7 (lf T 1 J (ro T 1 ?_));obtain⟨c6,H⟩:=az H;obtain⟨q4,o4,e4⟩:=wZ.r.addr c6.1 c6.2;refine ix T J e4 c6 (le T 0 (oO wZ 2) e4 c6 J J (ro T 5 ?_))
 cases H;exact p0 T J [1,1,0] J
def HQ.f (ag:gO):Option Int:=some ag.goal
theorem HQ.c (H:HQ.f ag=some r) (wZ:aj (Fl.int .i32) 21 ag.aN xw yj AJ):
 QU 179 [(pp aW)] [(cl aW 235 [(ii ag.goal),(ii ag.bV),(ll xw ag.aN yj)]),AJ] F (ii r):=by
 unfold HQ.f at H;refine aF Tryz.func179 J J (λW=>rc T 12 (eN J (rc T 7 (lf T 0 J (ro T 4 ?_)))))
 cases H;exact p0 T J [0,0,0] J
end
noncomputable section
def Bg.f (g:bx) (bB:Int):Option (List aX):=(iQ.f g).bind λv1=>some []
def Bg.R (r:(List aX)):bj:=λu G=> ∃a0 n0 H0,aj cT 285 r a0 n0 H0/\u=(ll a0 r n0)/\G=[H0]
theorem Bg.c (H:Bg.f g bB=some r) (fU:iL g fq gu):
 QR 142 [(pp fq),(.pointer none),(ii bB)] [gu] [gu] F (Bg.R r):=by
 unfold Bg.f at H;refine aF Tryz.func142 J J (λW=>rc T 8 (k [0] J vc H (iQ.c · fU) (λv1 H=>ro T 21 (nS J (rc T 7 ?_)))))
 cases H;refine bz (p1 T J [2,0,0] ⟨none,0,[],aj.nil,J,J⟩ J)
def iS.l1:Nat->gO->(Int×Int)->(List Int)->Int->(List ez)->List aX->Int->Option (List aX)
 |0,_,_,_,_,_,_,_=>none
 |G1+1,ai,v1,v4,x8,v12,cn,dt=>if dt<(aa v12:Int) then(if(0<=dt/\dt<(aa v12:Int)) then((Dk.f ai ((rd v12 dt).To)).bind λfW=>if(fW !=1099511627776)=true then((rR.f v1.1 v1.2 (rd v4 x8)).bind λoD=>(qU.f v1.1 v1.2 (rd v4 x8) ((rd v12 dt).To)).bind λv20=>if(aa cn+1<=1099511627776) then(iS.l1 G1 ai v1 v4 x8 v12 (cn++[(aX.mk oD v20 (af ((rd v12 dt).kG+fW)))]) (af (dt+1))) else none) else(iS.l1 G1 ai v1 v4 x8 v12 cn (af (dt+1)))) else none) else(some cn)
def iS.l0:Nat->bx->gO->Int->(Int×Int)->(List Int)->List aX->Int->Option (List aX)
 |0,_,_,_,_,_,_,_=>none
 |k9+1,g,ai,bB,v1,v4,x7,x8=>if x8<(aa v4:Int) then((if(0<=x8/\x8<(aa v4:Int)) then((nT.f g (rd v4 x8)).bind λv12=>iS.l1 fuel ai v1 v4 x8 v12 x7 0) else none).bind λaL=>iS.l0 k9 g ai bB v1 v4 aL (af (x8+1))) else((HQ.f ai).bind λv21=>((gG.f v1.1 v1.2 v21).bind λv24=>if(v24==bB)=true then((jf.f g v21).bind λv25=>some (v25 !=255)) else(some false)).bind λbI=>if bI=true then((rR.f v1.1 v1.2 v21).bind λv26=>if(aa x7+1<=1099511627776) then((nz.f (x7++[(aX.mk v26 4 0)])).bind λP1=>some P1) else none) else((nz.f x7).bind λv28=>some v28))
def iS.f (g:bx) (ai:gO) (bB:Int):Option (List aX):=(iQ.f g).bind λv1=>(HP.f ai).bind λv2=>(pE.f g).bind λv3=>if(v2 !=v3)=true then(some []) else((ko.f g bB).bind λv4=>iS.l0 fuel g ai bB v1 v4 [] 0)
def iS.R (r:(List aX)):bj:=λu G=> ∃a0 n0 H0,aj cT 285 r a0 n0 H0/\u=(ll a0 r n0)/\G=[H0]
theorem iS.c (H:iS.f g ai bB=some r) (fU:iL g fq gu) (Py:aj (Fl.int .i32) 21 ai.aN Qs Vf Qi):
 QR 142 [(pp fq),(pp uV),(ii bB)] [gu,(cl uV 235 [(ii ai.goal),(ii ai.bV),(ll Qs ai.aN Vf)]),Qi] [gu,(cl uV 235 [(ii ai.goal),(ii ai.bV),(ll Qs ai.aN Vf)]),Qi] F (iS.R r):=by
 unfold iS.f at H;refine aF Tryz.func142 J J (λW=>rc T 8 (k [0] J vc H (iQ.c · fU) (λv1 H=>ro T 14 (k [1,1] J acy H (HP.c · Py) (λv2 H=>ro T 1 (k [0] J Cu H (pE.c · fU) (λv3 H=>ro T 4 (cb J H (λH=>?_) (λH=>?_)))))))))
 ·refine rc T 7 ?_
  cases H;refine bz (p1 T J [4,0,0,0,0] ⟨none,0,[],aj.nil,J,J⟩ J)
 refine rc T 12 (kr ko.R [0] [0] J JT H (ko.c · fU) (λv4 H=>?_));rintro _ _ ⟨a5,n5,H5,s5,rfl,rfl⟩;refine fz J (ro T 5 (bz (lq [0,1,2,7,8,32,33] [2,3,0,0,0] (λ(⟨k9,x7,x8,a7,n7,H7⟩:Nat×List aX×Int×Option Addr×Nat×Hp)=>(iS.l0 k9 g ai bB v1 v4 x7 x8=some r/\aj cT 285 x7 a7 n7 H7,[(9,(ll a7 x7 n7)),(34,(ii x8))],[H7])) J J (fuel,[],0,none,0,[]) [2,3,0,0,0,0] ⟨H,aj.nil⟩ J J ?_)));rintro k9 ⟨x7,x8,a7,n7,H7⟩ ⟨Z6,s7⟩;rw[iS.l0] at Z6;refine rc T 6 (cd J Z6 (λZ6=>?_) (λZ6=>?_))
 ·refine rc T 2 (mq Z6 [0,1,2,7,8,32,33,34] [0,0,0,0,0] (λl8 (⟨aL,a8,n8,H8⟩:List aX×Option Addr×Nat×Hp)=>(aL=l8/\aj cT 285 aL a8 n8 H8,[(9,(ll a8 aL n8))],[H8])) J J (λl8 Z8 _=>?_) ?_)
  ·refine rc T 3 ?_;obtain⟨c9,Z8⟩:=az Z8;obtain⟨q9,o9,e9⟩:=s5.r.addr c9.1 c9.2;refine ix T J e9 c9 (le T 0 (oO s5 4) e9 c9 J J (ro T 7 (kr nT.R [1] [1] J acz Z8 (nT.c · fU) (λv12 Z8=>?_))));rintro _ _ ⟨cC,n10,bT,bL,rfl,rfl⟩;refine fz J (ro T 5 (lq [0,1,2,7,8,11,32,33,34,40,41] [0,5,0,0,0,1] (λ(⟨G1,cn,dt,a12,n12,dq⟩:Nat×List aX×Int×Option Addr×Nat×Hp)=>(iS.l1 G1 ai v1 v4 x8 v12 cn dt=some l8/\aj cT 285 cn a12 n12 dq,[(9,(ll a12 cn n12)),(42,(ii dt))],[dq])) J J (fuel,x7,0,a7,n7,H7) [0,5,0,0,0,1,0] ⟨Z8,s7⟩ J J ?_));rintro G1 ⟨cn,dt,a12,n12,dq⟩ ⟨aY,dE⟩;rw[iS.l1] at aY;refine rc T 6 (cd J aY (λaY=>?_) (λaY=>?_))
   ·refine rc T 6 ?_;obtain⟨jn,aY⟩:=az aY;obtain⟨VQ,Vs,xH⟩:=bL.r.addr jn.1 jn.2;refine ix T J xH jn (bA J (fY T (cs:=[(ii (rd v12 dt).To),(ii (rd v12 dt).kG)]) J J J J J J (iy (k:=pN) (oO bL 5) xH jn J)) (nc T J (λJf=>sg T 7 J (ro T 6 (lf T 7 J (k [2,2] J acA aY (Dk.c · Py) (λfW aY=>ro T 9 (cb J aY (λaY=>?_) (λaY=>?_)))))))))
    ·refine ks [0,1,2,7,8,9,11,13,14,32,33,34,40,41,42] J (fz J (rg [17] [0,0,0,0,0,0,0,0] mix (bH bG) (λhg pf=>ha T 11 [0,1,2,3,5,6,7,8] sz hg pf J (al T 9 7 sz hg pf J J J (ha T 9 [11] sz hg pf J (al T 12 7 sz hg pf J J J (ha T 6 [13,14] sz hg pf J (ao 4 (kh [] J Gv aY (rR.c ·) (λoD aY=>an sz (ao 10 (kh [] J acB aY (qU.c ·) (λv20 aY=>an sz (ha T 3 [15] sz hg pf J (ao 16 (cW (k:=cT) T [(aX.mk oD v20 (af ((rd v12 dt).kG+fW)))] J J J J J J J J J (λjX dP dS=>an (so [0,0,0,0,0,0,0,0]) (ao 17 ?_))))))))))))))))));obtain⟨lV,aY⟩:=az aY;refine dQ (k:=cT) (xs:=cn) T (g:=6) J J J J J J J J J J dE (oO dS 8) lV J (λiu n16 ft eB=>an sl (hb T 18 sl hg pf J (ae (rx T 7 (ar (_,_,_,_,_) [0,0,0,0,0,0,0] ⟨aY,eB⟩ J J)))))
    refine rc T 8 (ar (_,_,_,_,_) [0,0,0,0,0,0,0] ⟨aY,dE⟩ J J)
   refine rc T 6 (am (_,_,_,_) [0,0,0,0,0,1] ⟨oi aY,dE⟩ J J)
  rintro _ ⟨aL,a8,n8,H8⟩ ⟨rfl,s8⟩ Z6;refine rc T 5 (ar (_,_,_,_,_) [0,0,0,0,0,0] ⟨Z6,s8⟩ J J)
 refine rc T 9 (k [2,2] J acC Z6 (HQ.c · Py) (λv21 Z6=>ro T 3 (mq Z6 [7,8,9,15] [0,4,0,0,0] (λz23 (bI:Bool)=>(bI=z23,[(85,(bb bI))],[])) J J (λz23 mH _=>?_) ?_)))
 ·refine rc T 4 (k [] J sF mH (gG.c ·) (λv24 mH=>ro T 3 (ab 80 J mH (λmH=>?_) (λmH=>?_))))
  ·refine ro T 2 (k [1] J wm mH (jf.c · fU) (λv25 mH=>ro T 4 (am _ [0,4,0,0,0] (oi mH) J J)))
  refine ro T 7 (am _ [0,4,0,0,0] (oi mH) J J)
 rintro _ bI rfl Z6;refine cb J Z6 (λZ6=>?_) (λZ6=>?_)
 ·refine rc T 5 (k [] J Gv Z6 (rR.c ·) (λv26 Z6=>ro T 1 (aV (cW (k:=cT) T [(aX.mk v26 4 0)] J J J J J J J J J (λa17 eU fL=>?_)))));obtain⟨xC,Z6⟩:=az Z6;refine aV (dQ (k:=cT) (xs:=x7) T (g:=1) J J J J J J J J J J s7 (oO fL 5) xC J (λjl n18 fv fM=>ro T 6 (kr nz.R [] [] J Gx Z6 (nz.c (l:=(x7++[(aX.mk v26 4 0)])) · (oO fM 1) fM.bZ) (λP1 Z6=>?_))));rintro _ _ ⟨ma,n19,kH,gP,rfl,rfl⟩;refine fz J (ro T 4 ?_)
  cases Z6;exact p1 T J [6,2,2,2,0] ⟨ma,n19,kH,gP,J,J⟩ J
 refine rc T 5 (kr nz.R [] [] J Gx Z6 (nz.c · (oO s7 1) s7.bZ) (λv28 Z6=>?_));rintro _ _ ⟨a20,n20,nI,lL,rfl,rfl⟩;refine fz J (ro T 4 ?_)
 cases Z6;exact p1 T J [5,2,2,2,0] ⟨a20,n20,nI,lL,J,J⟩ J
end
noncomputable section
def zR.f (l:fJ):Option fJ:=some (fJ.mk l.k [] ([]:(List ((Int×Int)×Int))) (-1) (-1))
def zR.R (gi:Nat) (r:fJ):bj:=λu G=> ∃(a0 n0 H0:_) (a1:Nat) (H1:Hp),aj j6 278 r.aw a0 n0 H0/\db (Ky.pair T .i64 J J J lO u3) (λx:Int=>Value.int .i64 x) r.fg a1 H1/\u=(.tuple #[])/\G=[(cl gi 238 [(ii r.k),(ll a0 r.aw n0),(.map (some a1)),(ii r.cJ),(ii r.dp)]),H0,H1]
theorem zR.c (H:zR.f l=some r) (pY:aj j6 278 l.aw lr lF uO):
 QR 145 [(pp gi)] [(cl gi 238 [(ii l.k),(ll lr l.aw lF),(.map none),(ii l.cJ),(ii l.dp)]),uO] [] F (zR.R gi r):=by
 unfold zR.f at H;refine aF Tryz.func145 J J (λW=>rc T 6 (nS J (rc T 5 (aV (vW T (Ky.pair T .i64 J J J lO u3) (λx:Int=>Value.int .i64 x) J J J trivial (λa3 H3 s3=>ro T 2 (sg T 0 J (ro T 2 (sg T 0 J (ro T 2 (sg T 0 J (ro T 2 (sg T 0 J (ro T 1 (jm ?_)))))))))))))))
 cases H;refine bz (p1 T J [0,3,2,1] ⟨none,0,[],a3,H3,aj.nil,s3,J,J⟩ J)
def yg.f (ag:Int):Option (Option fJ):=if ag<1 then(some none) else((zR.f (fJ.mk ag ([]:List bt) [] 0 0)).bind λv1=>some (some v1))
def yg.R (r:(Option fJ)):bj:=λu G=> ∃(u0:Value) (G0:List Hp),X9 r u0 G0/\u=u0/\G=G0
theorem yg.c (H:yg.f ag=some r):
 QR 105 [(ii ag)] [] [] F (yg.R r):=by
 unfold yg.f at H;refine aF Tryz.func105 J J (λW=>rc T 12 (cd J H (λH=>?_) (λH=>?_)))
 ·refine rc T 7 ?_
  cases H;exact p1 T J [0] ⟨_,_,⟨J,J⟩,J,J⟩ J
 refine rc T 6 (nc T J (λb1=>ro T 6 (bz (kr (zR.R b1) [] [1,1] J SP H (zR.c (l:=(fJ.mk ag ([]:List bt) [] 0 0)) · (aj.nil (k:=j6) (E:=278))) (λv1 H=>?_)))));rintro _ _ ⟨a3,n3,H3,a4,H4,s3,s4,rfl,rfl⟩;refine fz J (ro T 9 ?_)
 cases H;exact p1 T J [1,1,1,0] ⟨_,_,⟨b1,a3,n3,H3,a4,H4,s3,s4,J,J⟩,J,J⟩ J
def zS.f (l:fJ):Option fJ:=some (fJ.mk l.k [] ([]:(List ((Int×Int)×Int))) (-1) (-1))
def zS.R (gi:Nat) (r:fJ):bj:=λu G=> ∃(a0 n0 H0:_) (a1:Nat) (H1:Hp),aj j6 278 r.aw a0 n0 H0/\db (Ky.pair T .i64 J J J lO u3) (λx:Int=>Value.int .i64 x) r.fg a1 H1/\u=(.tuple #[])/\G=[(cl gi 238 [(ii r.k),(ll a0 r.aw n0),(.map (some a1)),(ii r.cJ),(ii r.dp)]),H0,H1]
theorem zS.c (H:zS.f l=some r) (pY:aj j6 278 l.aw lr lF uO) (vA:db (Ky.pair T .i64 J J J lO u3) (λx:Int=>Value.int .i64 x) l.fg ni r8):
 QR 145 [(pp gi)] [(cl gi 238 [(ii l.k),(ll lr l.aw lF),(.map (some ni)),(ii l.cJ),(ii l.dp)]),uO,r8] [] F (zS.R gi r):=by
 unfold zS.f at H;refine aF Tryz.func145 J J (λW=>rc T 6 (nS J (rc T 5 (aV (vW T (Ky.pair T .i64 J J J lO u3) (λx:Int=>Value.int .i64 x) J J J trivial (λa4 H4 s4=>ro T 2 (sg T 0 J (ro T 2 (sg T 0 J (ro T 2 (sg T 0 J (ro T 2 (sg T 0 J (ro T 1 (jm ?_)))))))))))))))
 cases H;refine bz (p1 T J [0,4,3,2] ⟨none,0,[],a4,H4,aj.nil,s4,J,J⟩ J)
def ub.f (l:fJ) (ai:Int):Option fJ:=if(0<=ai/\ai<(aa l.aw:Int)) then((if((rd l.aw ai).cU==(-1))=true then(some (l.aw,(rd l.aw ai).bc)) else(if(0<=(rd l.aw ai).cU/\(rd l.aw ai).cU<(aa l.aw:Int)) then(some ((aD l.aw (ax ((rd l.aw ai).cU)) (bt.mk ((rd l.aw ((rd l.aw ai).cU)).key) ((rd l.aw ((rd l.aw ai).cU)).cU) ((rd l.aw ai).bc))),l.cJ)) else none)).bind λ(x1,x2)=>if((rd l.aw ai).bc==(-1))=true then(some (fJ.mk l.k x1 l.fg x2 ((rd l.aw ai).cU))) else(if(0<=(rd l.aw ai).bc/\(rd l.aw ai).bc<(aa x1:Int)) then(some (fJ.mk l.k (aD x1 (ax ((rd l.aw ai).bc)) (bt.mk ((rd x1 ((rd l.aw ai).bc)).key) ((rd l.aw ai).cU) ((rd x1 ((rd l.aw ai).bc)).bc))) l.fg x2 l.dp)) else none)) else none
def ub.R (gi:Nat) (r:fJ):bj:=λu G=> ∃(a0 n0 H0:_) (a1:Nat) (H1:Hp),aj j6 278 r.aw a0 n0 H0/\db (Ky.pair T .i64 J J J lO u3) (λx:Int=>Value.int .i64 x) r.fg a1 H1/\u=(.tuple #[])/\G=[(cl gi 238 [(ii r.k),(ll a0 r.aw n0),(.map (some a1)),(ii r.cJ),(ii r.dp)]),H0,H1]
theorem ub.c (H:ub.f l ai=some r) (pY:aj j6 278 l.aw lr lF uO) (vA:db (Ky.pair T .i64 J J J lO u3) (λx:Int=>Value.int .i64 x) l.fg ni r8):
 QR 224 [(pp gi),(ii ai)] [(cl gi 238 [(ii l.k),(ll lr l.aw lF),(.map (some ni)),(ii l.cJ),(ii l.dp)]),uO,r8] [] F (ub.R gi r):=by
 unfold ub.f at H;refine aF Tryz.func224 J J (λW=>rc T 5 (lf T 0 J (ro T 1 ?_)));obtain⟨c1,H⟩:=az H;obtain⟨q4,o4,e4⟩:=pY.r.addr c1.1 c1.2;refine ix T J e4 c1 (bA J (fY T (cs:=[(ii (rd l.aw ai).key.1),(ii (rd l.aw ai).key.2),(ii (rd l.aw ai).cU),(ii (rd l.aw ai).bc)]) J J J J J J (iy (k:=j6) (oO pY 1) e4 c1 J)) (nc T J (λb5=>sg T 4 J (ro T 2 (mq H [0,4] [3,2,2] (λz3 (⟨x1,x2,a6,n6,H6⟩:List bt×Int×Option Addr×Nat×Hp)=>((x1,x2)=z3/\aj j6 278 x1 a6 n6 H6,[],[(cl gi 238 [(ii l.k),(ll a6 x1 n6),(.map (some ni)),(ii x2),(ii l.dp)]),H6])) J J (λz3 Z2 _=>?_) ?_)))))
 ·refine rc T 3 (lf T 4 J (ro T 3 (cb J Z2 (λZ2=>?_) (λZ2=>?_))))
  ·refine rc T 3 (lf T 4 J (ro T 2 (sg T 0 J (ro T 2 (am (_,_,_,_,_) [3,2,2,0,0] ⟨oi Z2,pY⟩ J J)))))
  refine ks [0,4] J (fz J (rz [10] mix (bH bG) (λhg pf=>ha T 8 [0,1,2] sz hg pf J (al T 3 0 sz hg pf J J J (ha T 6 [4] sz hg pf J (al T 5 4 sz hg pf J J J (ha T 4 [6] sz hg pf J (al T 7 4 sz hg pf J J J ?_))))))));obtain⟨c4,Z2⟩:=az Z2;refine av 8 sz hg pf J (cu T J J J J J e4 c4.1 c4.2) (ha T 1 [9] sz hg pf J (ao 10 (jZ (k:=j6) T 1 3 (bt.mk ((rd l.aw ((rd l.aw ai).cU)).key) ((rd l.aw ((rd l.aw ai).cU)).cU) ((rd l.aw ai).bc)) J J J J J J pY e4 c4 J J J (λH7 s7=>kg [0,4,20,21,22,24,25,26,27,28,29] [1,1,1,1] [1,1,1,1,0] [(23,(ll lr (aD l.aw (ax ((rd l.aw ai).cU)) (bt.mk ((rd l.aw ((rd l.aw ai).cU)).key) ((rd l.aw ((rd l.aw ai).cU)).cU) ((rd l.aw ai).bc))) lF))] [(cl gi 238 [(ii l.k),(ll lr (aD l.aw (ax ((rd l.aw ai).cU)) (bt.mk ((rd l.aw ((rd l.aw ai).cU)).key) ((rd l.aw ((rd l.aw ai).cU)).cU) ((rd l.aw ai).bc))) lF),(.map (some ni)),(ii l.cJ),(ii l.dp)])] J J ⟨dB,trivial⟩ dB (an sl (ae (rx T 1 (am (_,_,_,_,_) [2,1,1,1,0] ⟨oi Z2,s7⟩ J J))))))))
 rintro _ ⟨x1,x2,a6,n6,H6⟩ ⟨rfl,s6⟩ H;refine rc T 3 (lf T 2 J (ro T 3 (cb J H (λH=>?_) (λH=>?_))))
 ·refine rc T 3 (lf T 2 J (ro T 2 (sg T 3 J (ro T 1 (jm ?_)))))
  cases H;exact p1 T J [3,3,1,0] ⟨a6,n6,H6,ni,r8,s6,vA,J,J⟩ J
 refine fz J (rz [10] mix (bH bG) (λhg pf=>ha T 8 [0,1,2] sz hg pf J (al T 3 3 sz hg pf J J J (ha T 6 [4] sz hg pf J (al T 5 2 sz hg pf J J J (ha T 4 [6] sz hg pf J (al T 7 2 sz hg pf J J J ?_)))))));obtain⟨c6,H⟩:=az H;obtain⟨q8,o8,e8⟩:=s6.r.addr c6.1 c6.2;refine av 8 sz hg pf J (cu T J J J J J e8 c6.1 c6.2) (ha T 1 [9] sz hg pf J (ao 10 (jZ (k:=j6) T 4 2 (bt.mk ((rd x1 ((rd l.aw ai).bc)).key) ((rd l.aw ai).cU) ((rd x1 ((rd l.aw ai).bc)).bc)) J J J J J J s6 e8 c6 J J J (λH9 s9=>kg [0,4,32,38,39,40,42,43,44,45,46,47] [0,0,0,1] [0,0,0,1,0] [(41,(ll a6 (aD x1 (ax ((rd l.aw ai).bc)) (bt.mk ((rd x1 ((rd l.aw ai).bc)).key) ((rd l.aw ai).cU) ((rd x1 ((rd l.aw ai).bc)).bc))) n6))] [(cl gi 238 [(ii l.k),(ll a6 (aD x1 (ax ((rd l.aw ai).bc)) (bt.mk ((rd x1 ((rd l.aw ai).bc)).key) ((rd l.aw ai).cU) ((rd x1 ((rd l.aw ai).bc)).bc))) n6),(.map (some ni)),(ii x2),(ii l.dp)])] J J ⟨dB,trivial⟩ dB (an sl (ae (jm ?_)))))))
 cases H;exact p1 T J [4,3,1,0] ⟨a6,n6,H9,ni,r8,s9,vA,J,J⟩ J
def yf.f (l:fJ) (ai:Int):Option fJ:=if(0<=ai/\ai<(aa l.aw:Int)) then(if(0<=ai/\ai<(aa (aD l.aw (ax ai) (bt.mk ((rd l.aw ai).key) (-1) ((rd l.aw ai).bc))):Int)) then(if(l.cJ==(-1))=true then(some (fJ.mk l.k (aD (aD l.aw (ax ai) (bt.mk ((rd l.aw ai).key) (-1) ((rd l.aw ai).bc))) (ax ai) (bt.mk ((rd (aD l.aw (ax ai) (bt.mk ((rd l.aw ai).key) (-1) ((rd l.aw ai).bc))) ai).key) ((rd (aD l.aw (ax ai) (bt.mk ((rd l.aw ai).key) (-1) ((rd l.aw ai).bc))) ai).cU) l.cJ)) l.fg ai ai)) else(if(0<=l.cJ/\l.cJ<(aa (aD (aD l.aw (ax ai) (bt.mk ((rd l.aw ai).key) (-1) ((rd l.aw ai).bc))) (ax ai) (bt.mk ((rd (aD l.aw (ax ai) (bt.mk ((rd l.aw ai).key) (-1) ((rd l.aw ai).bc))) ai).key) ((rd (aD l.aw (ax ai) (bt.mk ((rd l.aw ai).key) (-1) ((rd l.aw ai).bc))) ai).cU) l.cJ)):Int)) then(some (fJ.mk l.k (aD (aD (aD l.aw (ax ai) (bt.mk ((rd l.aw ai).key) (-1) ((rd l.aw ai).bc))) (ax ai) (bt.mk ((rd (aD l.aw (ax ai) (bt.mk ((rd l.aw ai).key) (-1) ((rd l.aw ai).bc))) ai).key) ((rd (aD l.aw (ax ai) (bt.mk ((rd l.aw ai).key) (-1) ((rd l.aw ai).bc))) ai).cU) l.cJ)) (ax l.cJ) (bt.mk ((rd (aD (aD l.aw (ax ai) (bt.mk ((rd l.aw ai).key) (-1) ((rd l.aw ai).bc))) (ax ai) (bt.mk ((rd (aD l.aw (ax ai) (bt.mk ((rd l.aw ai).key) (-1) ((rd l.aw ai).bc))) ai).key) ((rd (aD l.aw (ax ai) (bt.mk ((rd l.aw ai).key) (-1) ((rd l.aw ai).bc))) ai).cU) l.cJ)) l.cJ).key) ai ((rd (aD (aD l.aw (ax ai) (bt.mk ((rd l.aw ai).key) (-1) ((rd l.aw ai).bc))) (ax ai) (bt.mk ((rd (aD l.aw (ax ai) (bt.mk ((rd l.aw ai).key) (-1) ((rd l.aw ai).bc))) ai).key) ((rd (aD l.aw (ax ai) (bt.mk ((rd l.aw ai).key) (-1) ((rd l.aw ai).bc))) ai).cU) l.cJ)) l.cJ).bc))) l.fg ai l.dp)) else none)) else none) else none
def yf.R (gi:Nat) (r:fJ):bj:=λu G=> ∃(a0 n0 H0:_) (a1:Nat) (H1:Hp),aj j6 278 r.aw a0 n0 H0/\db (Ky.pair T .i64 J J J lO u3) (λx:Int=>Value.int .i64 x) r.fg a1 H1/\u=(.tuple #[])/\G=[(cl gi 238 [(ii r.k),(ll a0 r.aw n0),(.map (some a1)),(ii r.cJ),(ii r.dp)]),H0,H1]
theorem yf.c (H:yf.f l ai=some r) (pY:aj j6 278 l.aw lr lF uO) (vA:db (Ky.pair T .i64 J J J lO u3) (λx:Int=>Value.int .i64 x) l.fg ni r8):
 QR 225 [(pp gi),(ii ai)] [(cl gi 238 [(ii l.k),(ll lr l.aw lF),(.map (some ni)),(ii l.cJ),(ii l.dp)]),uO,r8] [] F (yf.R gi r):=by
 unfold yf.f at H;refine aF Tryz.func225 J J (λW=>rc T 1 (fz J (rz [16,19] mix (bH bG) (λhg pf=>ha T 17 [0,1,2] sz hg pf J (al T 3 0 sz hg pf J J J (ha T 12 [4,5,6,7] sz hg pf J (al T 8 0 sz hg pf J J J (ha T 7 [9,10,11,12] sz hg pf J (al T 13 0 sz hg pf J J J ?_)))))))));obtain⟨c1,H⟩:=az H;obtain⟨q4,o4,e4⟩:=pY.r.addr c1.1 c1.2;refine av 14 sz hg pf J (cu T J J J J J e4 c1.1 c1.2) (ha T 4 [15] sz hg pf J (ao 16 (jZ (k:=j6) T 1 2 (bt.mk ((rd l.aw ai).key) (-1) ((rd l.aw ai).bc)) J J J J J J pY e4 c1 J J J (λH5 s5=>kg [0,1,4,5,6,8,9,10,11,13,14,15,16,17,18,19] [1,1,1] [1,1,1,0] [(7,(ll lr (aD l.aw (ax ai) (bt.mk ((rd l.aw ai).key) (-1) ((rd l.aw ai).bc))) lF)),(12,(ll lr (aD l.aw (ax ai) (bt.mk ((rd l.aw ai).key) (-1) ((rd l.aw ai).bc))) lF))] [(cl gi 238 [(ii l.k),(ll lr (aD l.aw (ax ai) (bt.mk ((rd l.aw ai).key) (-1) ((rd l.aw ai).bc))) lF),(.map (some ni)),(ii l.cJ),(ii l.dp)])] J J ⟨dB,dB,trivial⟩ dB (an sl (ao 17 ?_))))));obtain⟨c2,H⟩:=az H;refine lT J (cu T J J J J J e4 c2.1 c2.2) (an sl (hb T 18 sl hg pf J (ao 19 (jZ (k:=j6) T 0 3 (bt.mk ((rd (aD l.aw (ax ai) (bt.mk ((rd l.aw ai).key) (-1) ((rd l.aw ai).bc))) ai).key) ((rd (aD l.aw (ax ai) (bt.mk ((rd l.aw ai).key) (-1) ((rd l.aw ai).bc))) ai).cU) l.cJ) J J J J J J s5 e4 c2 J J J (λH6 s6=>kg [0,1,4,5,6,8,9,10,11,13,14,15,16,17,18,19,20,21] [0,0,0] [0,0,0,0] [(7,(ll lr (aD (aD l.aw (ax ai) (bt.mk ((rd l.aw ai).key) (-1) ((rd l.aw ai).bc))) (ax ai) (bt.mk ((rd (aD l.aw (ax ai) (bt.mk ((rd l.aw ai).key) (-1) ((rd l.aw ai).bc))) ai).key) ((rd (aD l.aw (ax ai) (bt.mk ((rd l.aw ai).key) (-1) ((rd l.aw ai).bc))) ai).cU) l.cJ)) lF)),(12,(ll lr (aD (aD l.aw (ax ai) (bt.mk ((rd l.aw ai).key) (-1) ((rd l.aw ai).bc))) (ax ai) (bt.mk ((rd (aD l.aw (ax ai) (bt.mk ((rd l.aw ai).key) (-1) ((rd l.aw ai).bc))) ai).key) ((rd (aD l.aw (ax ai) (bt.mk ((rd l.aw ai).key) (-1) ((rd l.aw ai).bc))) ai).cU) l.cJ)) lF))] [(cl gi 238 [(ii l.k),(ll lr (aD (aD l.aw (ax ai) (bt.mk ((rd l.aw ai).key) (-1) ((rd l.aw ai).bc))) (ax ai) (bt.mk ((rd (aD l.aw (ax ai) (bt.mk ((rd l.aw ai).key) (-1) ((rd l.aw ai).bc))) ai).key) ((rd (aD l.aw (ax ai) (bt.mk ((rd l.aw ai).key) (-1) ((rd l.aw ai).bc))) ai).cU) l.cJ)) lF),(.map (some ni)),(ii l.cJ),(ii l.dp)])] J J ⟨dB,dB,trivial⟩ dB (an sl (ae (rx T 7 (lf T 3 J (ro T 3 (cb J H (λH=>?_) (λH=>?_))))))))))))
 ·refine rc T 5 (sg T 3 J (ro T 7 (sg T 3 J (ro T 1 (ks [] J (jm ?_))))))
  cases H;exact p1 T J [3,0,0,0] ⟨lr,lF,H6,ni,r8,s6,vA,J,J⟩ J
 refine ks [0,1] J (fz J (rz [11] mix (bH bG) (λhg pf=>ha T 9 [0,1,2] sz hg pf J (al T 3 3 sz hg pf J J J (ha T 5 [4,5,6] sz hg pf J (al T 7 3 sz hg pf J J J (ha T 3 [8] sz hg pf J ?_)))))));obtain⟨c4,H⟩:=az H;refine av 9 sz hg pf J (cu T J J J J J e4 c4.1 c4.2) (ha T 1 [10] sz hg pf J (ao 11 (jZ (k:=j6) T 0 2 (bt.mk ((rd (aD (aD l.aw (ax ai) (bt.mk ((rd l.aw ai).key) (-1) ((rd l.aw ai).bc))) (ax ai) (bt.mk ((rd (aD l.aw (ax ai) (bt.mk ((rd l.aw ai).key) (-1) ((rd l.aw ai).bc))) ai).key) ((rd (aD l.aw (ax ai) (bt.mk ((rd l.aw ai).key) (-1) ((rd l.aw ai).bc))) ai).cU) l.cJ)) l.cJ).key) ai ((rd (aD (aD l.aw (ax ai) (bt.mk ((rd l.aw ai).key) (-1) ((rd l.aw ai).bc))) (ax ai) (bt.mk ((rd (aD l.aw (ax ai) (bt.mk ((rd l.aw ai).key) (-1) ((rd l.aw ai).bc))) ai).key) ((rd (aD l.aw (ax ai) (bt.mk ((rd l.aw ai).key) (-1) ((rd l.aw ai).bc))) ai).cU) l.cJ)) l.cJ).bc)) J J J J J J s6 e4 c4 J J J (λH7 s7=>kg [0,1,31,32,33,35,36,37,38,39,40,41] [0,0,0] [0,0,0,0] [(34,(ll lr (aD (aD (aD l.aw (ax ai) (bt.mk ((rd l.aw ai).key) (-1) ((rd l.aw ai).bc))) (ax ai) (bt.mk ((rd (aD l.aw (ax ai) (bt.mk ((rd l.aw ai).key) (-1) ((rd l.aw ai).bc))) ai).key) ((rd (aD l.aw (ax ai) (bt.mk ((rd l.aw ai).key) (-1) ((rd l.aw ai).bc))) ai).cU) l.cJ)) (ax l.cJ) (bt.mk ((rd (aD (aD l.aw (ax ai) (bt.mk ((rd l.aw ai).key) (-1) ((rd l.aw ai).bc))) (ax ai) (bt.mk ((rd (aD l.aw (ax ai) (bt.mk ((rd l.aw ai).key) (-1) ((rd l.aw ai).bc))) ai).key) ((rd (aD l.aw (ax ai) (bt.mk ((rd l.aw ai).key) (-1) ((rd l.aw ai).bc))) ai).cU) l.cJ)) l.cJ).key) ai ((rd (aD (aD l.aw (ax ai) (bt.mk ((rd l.aw ai).key) (-1) ((rd l.aw ai).bc))) (ax ai) (bt.mk ((rd (aD l.aw (ax ai) (bt.mk ((rd l.aw ai).key) (-1) ((rd l.aw ai).bc))) ai).key) ((rd (aD l.aw (ax ai) (bt.mk ((rd l.aw ai).key) (-1) ((rd l.aw ai).bc))) ai).cU) l.cJ)) l.cJ).bc))) lF))] [(cl gi 238 [(ii l.k),(ll lr (aD (aD (aD l.aw (ax ai) (bt.mk ((rd l.aw ai).key) (-1) ((rd l.aw ai).bc))) (ax ai) (bt.mk ((rd (aD l.aw (ax ai) (bt.mk ((rd l.aw ai).key) (-1) ((rd l.aw ai).bc))) ai).key) ((rd (aD l.aw (ax ai) (bt.mk ((rd l.aw ai).key) (-1) ((rd l.aw ai).bc))) ai).cU) l.cJ)) (ax l.cJ) (bt.mk ((rd (aD (aD l.aw (ax ai) (bt.mk ((rd l.aw ai).key) (-1) ((rd l.aw ai).bc))) (ax ai) (bt.mk ((rd (aD l.aw (ax ai) (bt.mk ((rd l.aw ai).key) (-1) ((rd l.aw ai).bc))) ai).key) ((rd (aD l.aw (ax ai) (bt.mk ((rd l.aw ai).key) (-1) ((rd l.aw ai).bc))) ai).cU) l.cJ)) l.cJ).key) ai ((rd (aD (aD l.aw (ax ai) (bt.mk ((rd l.aw ai).key) (-1) ((rd l.aw ai).bc))) (ax ai) (bt.mk ((rd (aD l.aw (ax ai) (bt.mk ((rd l.aw ai).key) (-1) ((rd l.aw ai).bc))) ai).key) ((rd (aD l.aw (ax ai) (bt.mk ((rd l.aw ai).key) (-1) ((rd l.aw ai).bc))) ai).cU) l.cJ)) l.cJ).bc))) lF),(.map (some ni)),(ii l.cJ),(ii l.dp)])] J J ⟨dB,trivial⟩ dB (an sl (ae (rx T 6 (sg T 3 J (ro T 1 (jm ?_))))))))))
 cases H;exact p1 T J [3,0,0,0] ⟨lr,lF,H7,ni,r8,s7,vA,J,J⟩ J
def ye.f (l:fJ) (a:Int) (b:Int):Option (Int×Bool×Bool×fJ):=(if(ck l.fg (a,b))=true then((ub.f l (aT l.fg (a,b))).bind λv9=>some (v9.k,v9.aw,v9.fg,v9.cJ,v9.dp,(aT l.fg (a,b)),false)) else(if(aa l.aw:Int)<l.k then(if(aa l.aw+1<=1099511627776) then(some (l.k,(l.aw++[(bt.mk (a,b) 0 0)]),l.fg,l.cJ,l.dp,(aa l.aw:Int),false)) else none) else((ub.f l l.dp).bind λv10=>if(0<=l.dp/\l.dp<(aa v10.aw:Int)) then(some (v10.k,(aD v10.aw (ax l.dp) (bt.mk (a,b) ((rd v10.aw l.dp).cU) ((rd v10.aw l.dp).bc))),(f_ v10.fg ((rd v10.aw l.dp).key.1,(rd v10.aw l.dp).key.2)),v10.cJ,v10.dp,l.dp,true)) else none))).bind λ(x1,x2,x3,x4,x5,x6,x7)=>(yf.f (fJ.mk x1 x2 (cQ x3 (a,b) x6) x4 x5) x6).bind λv11=>some (x6,(ck l.fg (a,b)),x7,v11)
def ye.R (gi:Nat) (r:(Int×Bool×Bool×fJ)):bj:=λu G=> ∃(a0 n0 H0:_) (a1:Nat) (H1:Hp),aj j6 278 r.2.2.2.aw a0 n0 H0/\db (Ky.pair T .i64 J J J lO u3) (λx:Int=>Value.int .i64 x) r.2.2.2.fg a1 H1/\u=(.tuple #[(ii r.1),(bb r.2.1),(bb r.2.2.1)])/\G=[(cl gi 238 [(ii r.2.2.2.k),(ll a0 r.2.2.2.aw n0),(.map (some a1)),(ii r.2.2.2.cJ),(ii r.2.2.2.dp)]),H0,H1]
theorem ye.c (H:ye.f l a b=some r) (pY:aj j6 278 l.aw lr lF uO) (vA:db (Ky.pair T .i64 J J J lO u3) (λx:Int=>Value.int .i64 x) l.fg ni r8):
 QR 184 [(pp gi),(ii a),(ii b)] [(cl gi 238 [(ii l.k),(ll lr l.aw lF),(.map (some ni)),(ii l.cJ),(ii l.dp)]),uO,r8] [] F (ye.R gi r):=by
 unfold ye.f at H;refine aF Tryz.func184 J J (λW=>rc T 14 (eN J (rc T 6 (bA J (Gf T J J J J J J) (nc T J (λb4=>sg T 4 J (ro T 3 (dw mix aB (au T J (au T J (au T J (cD T 0 J J J (bf J J J (gA T 4 J J J J J J J) (bf J J J (qu (k:=(a,b)) T (Ky.pair T .i64 J J J lO u3) (λx:Int=>Value.int .i64 x) J J J J J (o_ vA (j:=2) J)) ?_))))))))))))))
 iterate 5 refine au T J ?_
 refine cO (rx T 1 (mq H [0,7,9] [3,3] (λz8 (⟨x1,x2,x3,x4,x5,x6,x7,a5,n5,H5,a6,H6⟩:Int×List bt×(List ((Int×Int)×Int))×Int×Int×Int×Bool×Option Addr×Nat×Hp×Nat×Hp)=>((x1,x2,x3,x4,x5,x6,x7)=z8/\aj j6 278 x2 a5 n5 H5/\db (Ky.pair T .i64 J J J lO u3) (λx:Int=>Value.int .i64 x) x3 a6 H6,[(6,(ii x6)),(8,(bb x7))],[(cl gi 238 [(ii x1),(ll a5 x2 n5),(.map (some a6)),(ii x4),(ii x5)]),H5,H6])) J J (λz8 Z1 _=>?_) ?_))
 ·refine rc T 7 (cb J Z1 (λZ1=>?_) (λZ1=>?_))
  ·refine rc T 3 (kr (ub.R gi) [] [0,0,0] J Tg Z1 (ub.c · pY vA) (λv9 Z1=>?_));rintro _ _ ⟨a7,n7,H7,a8,H8,s7,s8,rfl,rfl⟩;refine fz J (ro T 3 (am (_,_,_,_,_,_,_,_,_,_,_,_) [0,0,0,0,0] ⟨oi Z1,s7,s8⟩ J J))
  refine rc T 1 (dw mix aB (au T J (au T J (au T J (cD T 0 J J J ?_)))))
  iterate 4 refine au T J ?_
  refine cD T 0 J J J (au T J (au T J (cO (rx T 1 (cd J Z1 (λZ1=>?_) (λZ1=>?_))))))
  ·refine rc T 5 (lf T 0 J (ro T 4 (ks [0,6,7,8,9] J (fz J (rg [8,11] [0,0,0,0,0] mix (bH bG) (λhg pf=>ha T 8 [0,1,2,3] sz hg pf J (al T 4 0 sz hg pf J J J (av 5 sz hg pf J (gA T 4 J J J J J J J) (ha T 5 [6] sz hg pf J (ao 7 (cW (k:=j6) T [(bt.mk (a,b) 0 0)] J J J J J J J J J (λa9 H9 s9=>an (so [0,0,0,0,0]) (ao 8 ?_)))))))))))));obtain⟨c5,Z1⟩:=az Z1;refine dQ (k:=j6) (xs:=l.aw) T (g:=1) J J J J J J J J J J pY (oO s9 5) c5 J (λcC n10 bT bL=>an sl (hb T 9 sl hg pf J (hb T 10 sl hg pf J (ao 11 (sf T 0 J (an sl (ae (rx T 1 (rx T 1 (am (_,_,_,_,_,_,_,_,_,_,_,_) [3,3,0,0,0] ⟨oi Z1,bL,vA⟩ J J))))))))))
  refine rc T 5 (lf T 0 J (ro T 8 (kr (ub.R gi) [] [0,0,0] J Tg Z1 (ub.c · pY vA) (λv10 Z1=>?_))));rintro _ _ ⟨dj,n11,cH,a12,dq,cX,dE,rfl,rfl⟩;refine fz J (ro T 3 (ks [0,6,7,8,9] J (fz J (rz [12] mix (bH bG) (λhg pf=>ha T 10 [0,1,2] sz hg pf J (al T 3 2 sz hg pf J J J (ha T 6 [4,5,6] sz hg pf J (al T 7 2 sz hg pf J J J (ha T 4 [8] sz hg pf J ?_)))))))));obtain⟨c7,Z1⟩:=az Z1;obtain⟨VQ,Vs,xH⟩:=cX.r.addr c7.1 c7.2;refine av 9 sz hg pf J (cu T J J J J J xH c7.1 c7.2) (ha T 2 [10] sz hg pf J (av 11 sz hg pf J (fY T (cs:=[(ii (rd v10.aw l.dp).key.1),(ii (rd v10.aw l.dp).key.2)]) J J J J J J (UC (k:=j6) (oO cX 3) xH c7 0 J)) (ao 12 (DZ (g:=4) (m:=v10.fg) (k:=((rd v10.aw l.dp).key.1,(rd v10.aw l.dp).key.2)) T (Ky.pair T .i64 J J J lO u3) (λx:Int=>Value.int .i64 x) J J J J J J J J dE (λfp fT=>an sl (ae (rx T 1 (ks [0,6,7,8,9] J (fz J (rz [8] mix (bH bG) (λhg pf=>ha T 6 [0,1,2] sz hg pf J (al T 3 2 sz hg pf J J J (ha T 4 [4] sz hg pf J (av 5 sz hg pf J (gA T 1 J J J J J J J) (av 6 sz hg pf J (cu T J J J J J xH c7.1 c7.2) (ha T 1 [7] sz hg pf J (ao 8 (jZ (k:=j6) T 3 0 (bt.mk (a,b) ((rd v10.aw l.dp).cU) ((rd v10.aw l.dp).bc)) J J J J J J cX xH c7 J J J (λdP dS=>kg [0,6,7,8,9,43,44,45,47,48,49,50] [0,0,1,1] [0,0,1,1,0] [(46,(ll dj (aD v10.aw (ax l.dp) (bt.mk (a,b) ((rd v10.aw l.dp).cU) ((rd v10.aw l.dp).bc))) n11))] [(cl gi 238 [(ii v10.k),(ll dj (aD v10.aw (ax l.dp) (bt.mk (a,b) ((rd v10.aw l.dp).cU) ((rd v10.aw l.dp).bc))) n11),(.map (some a12)),(ii v10.cJ),(ii v10.dp)])] J J ⟨dB,trivial⟩ dB (an sl (ae (rx T 2 (am (_,_,_,_,_,_,_,_,_,_,_,_) [0,0,2,0,0] ⟨oi Z1,dS,fT⟩ J J)))))))))))))))))))))))
 rintro _ ⟨x1,x2,x3,x4,x5,x6,x7,a5,n5,H5,a6,H6⟩ ⟨rfl,s5,s6⟩ H;refine rc T 1 (fz J (rz [6] mix (bH bG) (λhg pf=>ha T 4 [0,1,2] sz hg pf J (al T 3 2 sz hg pf J J J (av 4 sz hg pf J (gA T 1 J J J J J J J) (ha T 1 [5] sz hg pf J (ao 6 (qh (g:=4) (m:=x3) (k:=(a,b)) (v:=x6) T (Ky.pair T .i64 J J J lO u3) (λx:Int=>Value.int .i64 x) J J J J J J J s6 (λft eB=>an sl (ae (rx T 5 (kr (yf.R gi) [] [2,2,2] J ac2 H (yf.c (l:=(fJ.mk x1 x2 (cQ x3 (a,b) x6) x4 x5)) · s5 eB) (λv11 H=>?_)))))))))))));rintro _ _ ⟨a17,n17,eU,jl,fv,fL,fM,rfl,rfl⟩;refine fz J (ro T 13 ?_)
 cases H;exact p1 T J [2,2,2,0] ⟨a17,n17,eU,jl,fv,fL,fM,J,J⟩ J
def o0.l0:Nat->fJ->List (Int×Int)->Int->Option (List (Int×Int))
 |0,_,_,_=>none
 |k5+1,l,x3,x4=>if(x4 !=(-1))=true then(if(0<=x4/\x4<(aa l.aw:Int)) then(if(aa x3+1<=1099511627776) then(o0.l0 k5 l (x3++[(rd l.aw x4).key]) ((rd l.aw x4).bc)) else none) else none) else(some x3)
def o0.f (l:fJ):Option (List (Int×Int)):=o0.l0 fuel l [] l.cJ
def o0.R (r:(List (Int×Int))):bj:=λu G=> ∃a0 n0 H0,aj (Fl.pair .i64) 76 r a0 n0 H0/\u=(ll a0 r n0)/\G=[H0]
theorem o0.c (H:o0.f l=some r) (pY:aj j6 278 l.aw lr lF uO) (vA:db (Ky.pair T .i64 J J J lO u3) (λx:Int=>Value.int .i64 x) l.fg ni r8):
 QR 139 [(pp gi)] [(cl gi 238 [(ii l.k),(ll lr l.aw lF),(.map (some ni)),(ii l.cJ),(ii l.dp)]),uO,r8] [(cl gi 238 [(ii l.k),(ll lr l.aw lF),(.map (some ni)),(ii l.cJ),(ii l.dp)]),uO,r8] F (o0.R r):=by
 unfold o0.f at H;refine aF Tryz.func139 J J (λW=>rc T 12 (eN J (rc T 13 (lf T 0 J (ro T 4 (bz (lq [0] [3,0,0,0] (λ(⟨k5,x3,x4,a5,n5,H5⟩:Nat×List (Int×Int)×Int×Option Addr×Nat×Hp)=>(o0.l0 k5 l x3 x4=some r/\aj (Fl.pair .i64) 76 x3 a5 n5 H5,[(3,(ll a5 x3 n5)),(4,(ii x4))],[H5])) J J (fuel,[],l.cJ,none,0,[]) [3,0,0,0,0] ⟨H,aj.nil⟩ J J ?_)))))));rintro k5 ⟨x3,x4,a5,n5,H5⟩ ⟨Z1,s5⟩;rw[o0.l0] at Z1;refine rc T 7 (cb J Z1 (λZ1=>?_) (λZ1=>?_))
 ·refine rc T 9 (lf T 1 J (ro T 1 ?_));obtain⟨c3,Z1⟩:=az Z1;obtain⟨q6,o6,e6⟩:=pY.r.addr c3.1 c3.2;refine ix T J e6 c3 (ro T 1 (bA J (fY T (cs:=[(ii (rd l.aw x4).key.1),(ii (rd l.aw x4).key.2)]) J J J J J J (UC (k:=j6) (oO pY 2) e6 c3 0 J)) (aV (cW (k:=(Fl.pair .i64)) T [(rd l.aw x4).key] J J J J J J J J J (λa7 H7 s7=>?_)))));obtain⟨c4,Z1⟩:=az Z1;refine aV (dQ (k:=(Fl.pair .i64)) (xs:=x3) T (g:=4) J J J J J J J J J J s5 (oO s7 5) c4 J (λa8 n8 H8 s8=>ro T 8 (lf T 1 J (ro T 1 (ix T J e6 c3 (ro T 1 (le T 3 (oO pY 2) e6 c3 J J (ro T 3 (ar (_,_,_,_,_) [0,0,0,0,0] ⟨Z1,s8⟩ J J)))))))))
 refine rc T 12 ?_
 cases Z1;exact p1 T J [4,1,1,1,0] ⟨a5,n5,H5,s5,J,J⟩ J
end
noncomputable section
def DC.f (h:DA) (ai:Int) (side:Int):Option Int:=if(¬h.t.W=0) then(if(¬h.t.W=0) then(if((side==0)&&(decide ((af (di ai h.t.W))>0)))=true then(some (af (ai-h.t.W))) else((if(side==1)=true then(some (decide ((fC ai h.t.W)<(af (h.t.W-1))))) else(some false)).bind λx1=>if x1=true then(some (af (ai+1))) else((if(side==2)=true then(some (decide ((af (di ai h.t.W))<(af (h.t.H-1))))) else(some false)).bind λx3=>if x3=true then(some (af (ai+h.t.W))) else(if((side==3)&&(decide ((fC ai h.t.W)>0)))=true then(some (af (ai-1))) else(some (-1)))))) else none) else none
theorem DC.c (H:DC.f h ai side=some r) (ju:(fD,Obj.cells #[(ii h.t.W),(ii h.t.H),(ll B6 h.t.C C0),(ll kL h.l kV),(ll B5 h.aN CZ)] 337 (0,0))∈F) (oW:aO (Fl.int .u8) h.t.C B6 F) (rk:aa h.t.C<=C0) (pF:aO cT h.l kL F) (pD:aa h.l<=kV) (mi:aO (Fl.int .i64) h.aN B5 F) (rj:aa h.aN<=CZ):
 QU 295 [(pp fD),(ii ai),(ii side)] [] F (ii r):=by
 unfold DC.f at H;refine aF Tryz.func295 J J (λW=>rc T 6 (dw mix aB ?_))
 iterate 5 refine au T J ?_
 refine bf J J J (cw T J J J J (oa (j:=0) ju J J)) ?_;obtain⟨c1,H⟩:=az H;refine bf J J J (va J J J c1) ?_
 iterate 5 refine au T J ?_
 refine bf J J J (cw T J J J J (oa (j:=0) ju J J)) ?_;obtain⟨c2,H⟩:=az H;refine bf J J J (u' J J J c2) (au T J (au T J (cO (rx T 8 (ga T [3,4,5] 26 [0,1,2,7,8] 29 J J J J J J J (ro T 3 (cb J H (λH=>?_) (λH=>?_))))))))
 ·refine rc T 7 (lg T J (oa (j:=0) ju J J) (ro T 7 ?_))
  cases H;exact p0 T J [0] J
 refine mq H [0,1,2,7,8] [0] (λz2 (x1:Bool)=>(x1=z2,[(37,(bb x1))],[])) J J (λz2 Z4 _=>?_) ?_
 ·refine rc T 4 (ab 40 J Z4 (λZ4=>?_) (λZ4=>?_))
  ·refine ro T 5 (lg T J (oa (j:=0) ju J J) (ro T 6 (am _ [0] (oi Z4) J J)))
  refine ro T 12 (am _ [0] (oi Z4) J J)
 rintro _ x1 rfl H;refine cb J H (λH=>?_) (λH=>?_)
 ·refine rc T 10 ?_
  cases H;exact p0 T J [0] J
 refine mq H [0,1,2,7] [0] (λz4 (x3:Bool)=>(x3=z4,[(52,(bb x3))],[])) J J (λz4 Z7 _=>?_) ?_
 ·refine rc T 4 (ab 55 J Z7 (λZ7=>?_) (λZ7=>?_))
  ·refine ro T 5 (lg T J (oa (j:=0) ju J J) (ro T 6 (am _ [0] (oi Z7) J J)))
  refine ro T 12 (am _ [0] (oi Z7) J J)
 rintro _ x3 rfl H;refine cb J H (λH=>?_) (λH=>?_)
 ·refine rc T 7 (lg T J (oa (j:=0) ju J J) (ro T 7 ?_))
  cases H;exact p0 T J [0] J
 refine rc T 5 (ga T [3,4,5] 75 [1] 78 J J J J J J J (ro T 3 (cb J H (λH=>?_) (λH=>?_))))
 ·refine rc T 10 ?_
  cases H;exact p0 T J [0] J
 refine rc T 9 ?_
 cases H;exact p0 T J [0] J
def lh.f (h:DA) (ai:Int) (side:Int):Option Bool:=(DC.f h ai side).bind λv1=>if v1<0 then((lb.f h.l ai side).bind λv2=>if(0<=ai/\ai<(aa h.aN:Int)) then(some (v2==(rd h.aN ai))) else none) else((if(0<=v1/\v1<(aa h.t.C:Int)) then(if((rd h.t.C v1)!=255)=true then(if(0<=v1/\v1<(aa h.aN:Int)) then(if(0<=ai/\ai<(aa h.aN:Int)) then(some ((af ((af (rd h.t.C v1))+(rd h.aN v1)))==(rd h.aN ai))) else none) else none) else(some false)) else none).bind λx3=>some x3)
theorem lh.c (H:lh.f h ai side=some r) (ju:(fD,Obj.cells #[(ii h.t.W),(ii h.t.H),(ll B6 h.t.C C0),(ll kL h.l kV),(ll B5 h.aN CZ)] 337 (0,0))∈F) (oW:aO (Fl.int .u8) h.t.C B6 F) (rk:aa h.t.C<=C0) (pF:aO cT h.l kL F) (pD:aa h.l<=kV) (mi:aO (Fl.int .i64) h.aN B5 F) (rj:aa h.aN<=CZ):
 QU 277 [(pp fD),(ii ai),(ii side)] [] F (bb r):=by
 unfold lh.f at H;refine aF Tryz.func277 J J (λW=>rc T 10 (k [] J adE H (DC.c · (qC ju (j:=0) J) (rO oW 0) rk (rO pF 0) pD (rO mi 0) rj) (λv1 H=>ro T 10 (cd J H (λH=>?_) (λH=>?_)))))
 ·refine rc T 1 (dw mix aB (au T J (au T J (au T J (bf J J J (cw T J J J J (oa (j:=0) ju J J)) (au T J (au T J ?_)))))));obtain⟨v2,V3,H⟩:=gx H;refine uU J J J J J J Tl J (lb.c V3 (rO pF 0) pD) (au T J (au T J (au T J (bf J J J (cw T J J J J (oa (j:=0) ju J J)) (au T J ?_)))));obtain⟨c4,H⟩:=az H;obtain⟨q1,o1,e1⟩:=mi.addr c4.1 c4.2;refine bf J J J (cu T J J J J J e1 c4.1 c4.2) (bf J J J (cw T J J J J (eH (k:=(Fl.int .i64)) (rO mi 0) e1 c4 0 J)) (au T J (au T J (cO (rx T 3 ?_)))))
  cases H;exact p0 T J [0] J
 refine rc T 2 (mq H [] [0] (λz4 (x3:Bool)=>(x3=z4,[(6,(bb x3))],[])) J J (λz4 Z5 _=>?_) ?_)
 ·refine dw mix aB ?_
  iterate 4 refine au T J ?_
  refine bf J J J (cw T J J J J (oa (j:=0) ju J J)) (au T J ?_);obtain⟨c6,Z5⟩:=az Z5;obtain⟨q2,o2,e2⟩:=oW.addr c6.1 c6.2;refine bf J J J (cu T J J J J J e2 c6.1 c6.2) (bf J J J (cw T J J J J (eH (k:=(Fl.int .u8)) (rO oW 0) e2 c6 0 J)) (au T J (au T J (qb 38 J Z5 (λZ5=>?_) (λZ5=>?_)))))
  ·iterate 4 refine au T J ?_
   refine bf J J J (cw T J J J J (oa (j:=0) ju J J)) (au T J (bf J J J (cu T J J J J J e2 c6.1 c6.2) (bf J J J (cw T J J J J (eH (k:=(Fl.int .u8)) (rO oW 0) e2 c6 0 J)) ?_)))
   iterate 4 refine au T J ?_
   refine bf J J J (cw T J J J J (oa (j:=0) ju J J)) (au T J ?_);obtain⟨c8,Z5⟩:=az Z5;obtain⟨q3,o3,e3⟩:=mi.addr c8.1 c8.2;refine bf J J J (cu T J J J J J e3 c8.1 c8.2) (bf J J J (cw T J J J J (eH (k:=(Fl.int .i64)) (rO mi 0) e3 c8 0 J)) ?_)
   iterate 4 refine au T J ?_
   refine bf J J J (cw T J J J J (oa (j:=0) ju J J)) (au T J ?_);obtain⟨c9,Z5⟩:=az Z5;refine bf J J J (cu T J J J J J e3 c9.1 c9.2) (bf J J J (cw T J J J J (eH (k:=(Fl.int .i64)) (rO mi 0) e3 c9 0 J)) (au T J (au T J (au T J (cO (rx T 1 (am _ [0] (oi Z5) J J)))))))
  iterate 27 refine au T J ?_
  refine cO (rx T 1 (am _ [0] (oi Z5) J J))
 rintro _ x3 rfl H;refine rc T 1 ?_
 cases H;exact p0 T J [0] J
def E7.f (h:DA) (ai:Int) (side:Int):Option Int:=if(side==0)=true then((lh.f h ai 0).bind λv1=>if v1=true then(some 0) else((lh.f h ai 1).bind λv2=>if v2=true then(some 1) else((lh.f h ai 2).bind λv3=>if v3=true then(some 2) else((lh.f h ai 3).bind λv4=>if v4=true then(some 3) else(some 5))))) else(if(side==1)=true then((lh.f h ai 1).bind λv5=>if v5=true then(some 1) else((lh.f h ai 2).bind λv6=>if v6=true then(some 2) else((lh.f h ai 3).bind λv7=>if v7=true then(some 3) else(some 5)))) else(if(side==2)=true then((lh.f h ai 2).bind λv8=>if v8=true then(some 2) else((lh.f h ai 3).bind λv9=>if v9=true then(some 3) else(some 5))) else(if(side==3)=true then((lh.f h ai 3).bind λv10=>if v10=true then(some 3) else(some 5)) else(some 5))))
theorem E7.c (H:E7.f h ai side=some r) (ju:(fD,Obj.cells #[(ii h.t.W),(ii h.t.H),(ll B6 h.t.C C0),(ll kL h.l kV),(ll B5 h.aN CZ)] 337 (0,0))∈F) (oW:aO (Fl.int .u8) h.t.C B6 F) (rk:aa h.t.C<=C0) (pF:aO cT h.l kL F) (pD:aa h.l<=kV) (mi:aO (Fl.int .i64) h.aN B5 F) (rj:aa h.aN<=CZ):
 QU 251 [(pp fD),(ii ai),(ii side)] [] F (ii r):=by
 unfold E7.f at H;refine aF Tryz.func251 J J (λW=>rc T 28 (cb J H (λH=>?_) (λH=>?_)))
 ·refine rc T 9 (k [] J xP H (lh.c · (qC ju (j:=0) J) (rO oW 0) rk (rO pF 0) pD (rO mi 0) rj) (λv1 H=>ro T 2 (cb J H (λH=>?_) (λH=>?_))))
  ·refine rc T 14 ?_
   cases H;exact p0 T J [0] J
  refine rc T 7 (k [] J xP H (lh.c · (qC ju (j:=0) J) (rO oW 0) rk (rO pF 0) pD (rO mi 0) rj) (λv2 H=>ro T 2 (cb J H (λH=>?_) (λH=>?_))))
  ·refine rc T 12 ?_
   cases H;exact p0 T J [0] J
  refine rc T 7 (k [] J xP H (lh.c · (qC ju (j:=0) J) (rO oW 0) rk (rO pF 0) pD (rO mi 0) rj) (λv3 H=>ro T 2 (cb J H (λH=>?_) (λH=>?_))))
  ·refine rc T 10 ?_
   cases H;exact p0 T J [0] J
  refine rc T 8 (k [] J xP H (lh.c · (qC ju (j:=0) J) (rO oW 0) rk (rO pF 0) pD (rO mi 0) rj) (λv4 H=>ro T 2 (cb J H (λH=>?_) (λH=>?_))))
  ·refine rc T 9 ?_
   cases H;exact p0 T J [0] J
  refine rc T 11 ?_
  cases H;exact p0 T J [0] J
 refine rc T 9 (cb J H (λH=>?_) (λH=>?_))
 ·refine rc T 11 (k [] J xP H (lh.c · (qC ju (j:=0) J) (rO oW 0) rk (rO pF 0) pD (rO mi 0) rj) (λv5 H=>ro T 2 (cb J H (λH=>?_) (λH=>?_))))
  ·refine rc T 12 ?_
   cases H;exact p0 T J [0] J
  refine rc T 7 (k [] J xP H (lh.c · (qC ju (j:=0) J) (rO oW 0) rk (rO pF 0) pD (rO mi 0) rj) (λv6 H=>ro T 2 (cb J H (λH=>?_) (λH=>?_))))
  ·refine rc T 10 ?_
   cases H;exact p0 T J [0] J
  refine rc T 8 (k [] J xP H (lh.c · (qC ju (j:=0) J) (rO oW 0) rk (rO pF 0) pD (rO mi 0) rj) (λv7 H=>ro T 2 (cb J H (λH=>?_) (λH=>?_))))
  ·refine rc T 9 ?_
   cases H;exact p0 T J [0] J
  refine rc T 11 ?_
  cases H;exact p0 T J [0] J
 refine rc T 9 (cb J H (λH=>?_) (λH=>?_))
 ·refine rc T 13 (k [] J xP H (lh.c · (qC ju (j:=0) J) (rO oW 0) rk (rO pF 0) pD (rO mi 0) rj) (λv8 H=>ro T 2 (cb J H (λH=>?_) (λH=>?_))))
  ·refine rc T 10 ?_
   cases H;exact p0 T J [0] J
  refine rc T 8 (k [] J xP H (lh.c · (qC ju (j:=0) J) (rO oW 0) rk (rO pF 0) pD (rO mi 0) rj) (λv9 H=>ro T 2 (cb J H (λH=>?_) (λH=>?_))))
  ·refine rc T 9 ?_
   cases H;exact p0 T J [0] J
  refine rc T 11 ?_
  cases H;exact p0 T J [0] J
 refine rc T 8 (cb J H (λH=>?_) (λH=>?_))
 ·refine rc T 15 (k [] J xP H (lh.c · (qC ju (j:=0) J) (rO oW 0) rk (rO pF 0) pD (rO mi 0) rj) (λv10 H=>ro T 2 (cb J H (λH=>?_) (λH=>?_))))
  ·refine rc T 9 ?_
   cases H;exact p0 T J [0] J
  refine rc T 11 ?_
  cases H;exact p0 T J [0] J
 refine rc T 19 ?_
 cases H;exact p0 T J [0] J
def DB.f (h:DA) (ai:Int):Option Int:=if(0<=ai/\ai<(aa h.aN:Int)) then(if((rd h.aN ai)==1099511627776)=true then(some 5) else((lb.f h.l ai 4).bind λv1=>if((rd h.aN ai)==v1)=true then(some 4) else((E7.f h ai 0).bind λv2=>some v2))) else none
theorem DB.c (H:DB.f h ai=some r) (ju:(fD,Obj.cells #[(ii h.t.W),(ii h.t.H),(ll B6 h.t.C C0),(ll kL h.l kV),(ll B5 h.aN CZ)] 337 (0,0))∈F) (oW:aO (Fl.int .u8) h.t.C B6 F) (rk:aa h.t.C<=C0) (pF:aO cT h.l kL F) (pD:aa h.l<=kV) (mi:aO (Fl.int .i64) h.aN B5 F) (rj:aa h.aN<=CZ):
 QU 229 [(pp fD),(ii ai)] [] F (ii r):=by
 unfold DB.f at H;refine aF Tryz.func229 J J (λW=>rc T 11 (lg T J (oa (j:=0) ju J J) (ro T 1 ?_)));obtain⟨c1,H⟩:=az H;obtain⟨q1,o1,e1⟩:=mi.addr c1.1 c1.2;refine ix T J e1 c1 (le T 0 (rO mi 0) e1 c1 J J (ro T 9 (cb J H (λH=>?_) (λH=>?_))))
 ·refine rc T 8 ?_
  cases H;exact p0 T J [0] J
 refine rc T 5 (lg T J (oa (j:=0) ju J J) (ro T 1 (k [] J Tl H (lb.c · (rO pF 0) pD) (λv1 H=>ro T 4 (cb J H (λH=>?_) (λH=>?_))))))
 ·refine rc T 8 ?_
  cases H;exact p0 T J [0] J
 refine rc T 7 (k [] J adk H (E7.c · (qC ju (j:=0) J) (rO oW 0) rk (rO pF 0) pD (rO mi 0) rj) (λv2 H=>ro T 4 ?_))
 cases H;exact p0 T J [0] J
def oz.l0:Nat->aG->(List aX)->((List Int)×Int)->List Int->Int->Option (eJ×Int)
 |0,_,_,_,_,_=>none
 |k6+1,t,l,v1,x4,x5=>if x5<(aa v1.1:Int) then((DB.f (DA.mk t l v1.1) x5).bind λv7=>if(aa x4+1<=1099511627776) then(oz.l0 k6 t l v1 (x4++[v7]) (af (x5+1))) else none) else(some ((eJ.mk v1.1 x4),0))
def oz.f (t:aG) (l:(List aX)):Option (eJ×Int):=(uG.f t l).bind λv1=>if(v1.2 !=0)=true then(some ((eJ.mk [] []),v1.2)) else(oz.l0 fuel t l v1 [] 0)
def oz.R (r:(eJ×Int)):bj:=λu G=> ∃a0 n0 H0 a1 n1 H1,aj (Fl.int .i64) 3 r.1.cN a0 n0 H0/\aj (Fl.int .i64) 3 r.1.cx a1 n1 H1/\u=(.tuple #[(.agg #[(ll a0 r.1.cN n0),(ll a1 r.1.cx n1)]),(ii r.2)])/\G=[H0,H1]
theorem oz.c (H:oz.f t l=some r) (d_:aO (Fl.int .u8) t.C iD F) (fy:aa t.C<=iE) (dm:aO cT l gZ F) (gj:aa l<=gX):
 QR 188 [(.agg #[(ii t.W),(ii t.H),(ll iD t.C iE)]),(ll gZ l gX)] [] [] F (oz.R r):=by
 unfold oz.f at H;refine aF Tryz.func188 J J (λW=>rc T 2 (nc T J (λb1=>nc T J (λb2=>ro T 5 (lm T 1 J (ro T 1 (kr uG.R [] [] J Th H (uG.c · (rO d_ 0) fy (rO dm 0) gj) (λv1 H=>?_))))))));rintro _ _ ⟨a3,n3,H3,s3,rfl,rfl⟩;refine fz J (ro T 14 (cb J H (λH=>?_) (λH=>?_)))
 ·refine rc T 4 (sg T 2 J (ro T 5 ?_))
  cases H;refine bz (bz (pb T J (.cS (j:=2) [nl,nl] J J J J J J J (.tmp J .nil)) [4,4,0] ⟨(_,_),none,0,[],none,0,[],aj.nil,aj.nil,J,J⟩ J J))
 refine rc T 4 (lm T 1 J (ro T 3 (nc T J (λb6=>ro T 2 (ke [4,6,8] [0,1,1,1] J J (rx T 5 (nc T J (λb7=>sg T 4 J (ro T 11 (bz (lq [4,8,9,29] [0,0,1,0] (λ(⟨k6,x4,x5,a9,n9,H9⟩:Nat×List Int×Int×Option Addr×Nat×Hp)=>(oz.l0 k6 t l v1 x4 x5=some r/\aj (Fl.int .i64) 3 x4 a9 n9 H9,[(30,(ii x5))],[(cl b7 79 [(ll a3 v1.1 n3),(ll a9 x4 n9)]),H9])) J J (fuel,[],0,none,0,[]) [0,0,1,0,0,0] ⟨H,aj.nil⟩ J J ?_)))))))))));rintro k6 ⟨x4,x5,a9,n9,H9⟩ ⟨Z3,s9⟩;rw[oz.l0] at Z3;refine rc T 6 (cd J Z3 (λZ3=>?_) (λZ3=>?_))
 ·refine rc T 10 (fz J (rg [6,8] [0,0,0,0,0,0] mix (bH bG) (λhg pf=>ha T 8 [0] sz hg pf J (al T 1 4 sz hg pf J J J (ha T 5 [2,3] sz hg pf J (ao 4 (kh [] J ac4 Z3 (DB.c (h:=(DA.mk t l v1.1)) · (zU (j:=2) J) (rO d_ 0) fy (rO dm 0) gj (oO s3 3) s3.bZ) (λv7 Z3=>an sz (ao 5 (cW (k:=(Fl.int .i64)) T [v7] J J J J J J J J J (λcC bT bL=>an (so [0,0,0,0,0,0]) (ao 6 ?_))))))))))));obtain⟨c6,Z3⟩:=az Z3;refine dQ (k:=(Fl.int .i64)) (xs:=x4) T (g:=5) J J J J J J J J J J s9 (oO bL 6) c6 J (λdj n11 cH cX=>an sl (hb T 7 sl hg pf J (ao 8 (sf T 4 J (an sl (ae (rx T 7 (ar (_,_,_,_,_) [0,0,0,0,0,0] ⟨Z3,cX⟩ J J))))))))
 refine rc T 7 (lm T 4 J (sg T 1 J (ro T 4 ?_)))
 cases Z3;exact pb T J (.cS (j:=1) [(ll a3 v1.1 n3),(ll a9 x4 n9)] J J J J J J J (.tmp J .nil)) [3,4,0] ⟨(_,_),a3,n3,H3,a9,n9,H9,s3,s9,J,J⟩ J J
end
noncomputable section
def yI.f (ag:Int):Option (Option ji):=if ag<1 then(some none) else((yg.f ag).bind λv1=>dM v1 (none) (λeT=>some (some (ji.mk eT [] (g_.mk 0 0 0 0 0 0)))))
def yI.R (r:(Option ji)):bj:=λu G=> ∃(u0:Value) (G0:List Hp),Yd r u0 G0/\u=u0/\G=G0
theorem yI.c (H:yI.f ag=some r):
 QR 77 [(ii ag)] [] [] F (yI.R r):=by
 unfold yI.f at H;refine aF Tryz.func77 J J (λW=>rc T 12 (cd J H (λH=>?_) (λH=>?_)))
 ·refine rc T 7 ?_
  cases H;exact p1 T J [0] ⟨_,_,⟨J,J⟩,J,J⟩ J
 refine rc T 5 (kr yg.R [] [] J ab4 H (yg.c ·) (λv1 H=>?_));rintro _ _ ⟨_,_,O3,rfl,rfl⟩;rcases v1 with _ |eT
 ·replace H:=fj J H
  cases H
 replace H:=fk J H;obtain⟨b1,a2,n2,H2,a3,H3,s2,s3,rfl,rfl⟩:=O3;refine ro T 1 (nc T J (λb4=>ro T 4 ?_))
 cases H;refine bz (gL [4,1,1,1,1] J (p1 T J [1,0] ⟨_,_,⟨b4,(List.flatten [(cl b4 173 [(pp b1),nl,(uu 0),(uu 0),(uu 0),(uu 0),(uu 0),(uu 0)]),(cl b1 238 [(ii eT.k),(ll a2 eT.aw n2),(.map (some a3)),(ii eT.cJ),(ii eT.dp)]),H2,H3,[]]),(show sb (ji.mk eT [] (g_.mk 0 0 0 0 0 0)) b4 (List.flatten [(cl b4 173 [(pp b1),nl,(uu 0),(uu 0),(uu 0),(uu 0),(uu 0),(uu 0)]),(cl b1 238 [(ii eT.k),(ll a2 eT.aw n2),(.map (some a3)),(ii eT.cJ),(ii eT.dp)]),H2,H3,[]]) from⟨b1,a2,n2,H2,a3,H3,none,0,[],s2,s3,(gT.nil (kd:=EM) (E:=291)),J⟩),J,J⟩,J,J⟩ J))
def p8.f (s:ji):Option ji:=(zS.f s.keys).bind λv1=>some (ji.mk v1 [] s.count)
def p8.R (mM:Nat) (r:ji):bj:=λu G=> ∃(H0:Hp),sb r mM H0/\u=(.tuple #[])/\G=[H0]
theorem p8.c (H:p8.f s=some r) (cR:sb s bg dJ):
 QR 117 [(pp bg)] [dJ] [] F (p8.R bg r):=by
 unfold p8.f at H;refine aF Tryz.func117 J J (λW=>rc T 6 (nS J (rc T 1 ?_)));obtain⟨b3,a4,n4,H4,a5,H5,a6,n6,H6,s4,s5,s6,cz⟩:=(λx=>x) cR;refine bU 0 (congrArg some cz) (fz J (rc T 4 (lf T 1 J (kr (zS.R b3) [] [2,2,2] J SP H (zS.c · s4 s5) (λv1 H=>?_)))));rintro _ _ ⟨a7,n7,H7,a8,H8,s7,s8,rfl,rfl⟩;refine fz J (ro T 6 (sg T 1 J (ro T 1 (jm ?_))))
 cases H;refine bz (gL [1,2,2,2,2] J (p1 T J [2,0] ⟨(List.flatten [(cl bg 173 [(pp b3),nl,(uu s.count.bM),(uu s.count.bN),(uu s.count.bJ),(uu s.count.bF),(uu s.count.bW),(uu s.count.bR)]),(cl b3 238 [(ii v1.k),(ll a7 v1.aw n7),(.map (some a8)),(ii v1.cJ),(ii v1.dp)]),H7,H8,[]]),(show sb (ji.mk v1 [] s.count) bg (List.flatten [(cl bg 173 [(pp b3),nl,(uu s.count.bM),(uu s.count.bN),(uu s.count.bJ),(uu s.count.bF),(uu s.count.bW),(uu s.count.bR)]),(cl b3 238 [(ii v1.k),(ll a7 v1.aw n7),(.map (some a8)),(ii v1.cJ),(ii v1.dp)]),H7,H8,[]]) from⟨b3,a7,n7,H7,a8,H8,none,0,[],s7,s8,(gT.nil (kd:=EM) (E:=291)),J⟩),J,J⟩ J))
def mV.f (count:Int):Option Int:=(tg.f count 1).bind λv1=>some v1
def mV.R (aaB:Nat) (aam:TypeId) (aaW aaX:List Value) (r:Int) (u:Value) (G:List Hp):Prop:=u=(.tuple #[])/\G=[[(aaB,Obj.cells (aaW++(Value.int .u64 r)::aaX).toArray aam (0,0))]]
theorem mV.c (H:mV.f count=some r):
 QR 186 [(.pointer (some ⟨Q4,aa pre_count,none⟩))] [[(Q4,Obj.cells (pre_count++(uu count)::post_count).toArray Yk (0,0))]] [] F (mV.R Q4 Yk pre_count post_count r):=by
 unfold mV.f at H;refine aF Tryz.func186 J J (λW=>rc T 4 (lg T J (aeG (j:=0) J) (k [] J JQ H (tg.c ·) (λv1 H=>ro T 1 (aV (Zz T 0 J J J J J J ?_))))));refine ro T 1 (jm ?_)
 cases H;exact p1 T J [0,0] ⟨J,J⟩ J
def uC.f (ag:eJ):Option eJ:=(qO.f ag.cN).bind λv1=>(qO.f ag.cx).bind λv2=>some (eJ.mk v1 v2)
def uC.R (r:eJ):bj:=λu G=> ∃a0 n0 H0 a1 n1 H1,aj (Fl.int .i64) 3 r.cN a0 n0 H0/\aj (Fl.int .i64) 3 r.cx a1 n1 H1/\u=(.agg #[(ll a0 r.cN n0),(ll a1 r.cx n1)])/\G=[H0,H1]
theorem uC.c (H:uC.f ag=some r) (abZ:aO (Fl.int .i64) ag.cN Yw F) (aas:aa ag.cN<=af1) (abY:aO (Fl.int .i64) ag.cx Yv F) (aar:aa ag.cx<=af0):
 QR 187 [(.agg #[(ll Yw ag.cN af1),(ll Yv ag.cx af0)])] [] [] F (uC.R r):=by
 unfold uC.f at H;refine aF Tryz.func187 J J (λW=>rc T 2 (nc T J (λb1=>nc T J (λb2=>ro T 3 (ks [1,2] J (fz J (rg [7] [0,0,0] mix (bH bG) (λhg pf=>ha T 7 [0] sz hg pf J (al T 1 1 sz hg pf J J J (ha T 5 [3] sz hg pf J (al T 4 1 sz hg pf J J J (ao 2 (kR qO.R [] [] J Nu H (qO.c · (rO abZ 0) aas) (λv1 H=>?_))))))))))))));rintro _ _ ⟨a3,n3,H3,s3,rfl,rfl⟩;refine fz J (an (so [0,0,0]) (ao 5 (kR qO.R [] [] J Nu H (qO.c · (rO abY 0) aar) (λv2 H=>?_))));rintro _ _ ⟨a4,n4,H4,s4,rfl,rfl⟩;refine fz J (an (so [0,0,0]) (ha T 1 [6] (so [0,0,0]) hg pf J (ao 7 (sf T 2 J (an sl (ae (rx T 1 (rc T 1 ?_))))))))
 cases H;exact pb T J (.cS (j:=2) [(ll a3 v1 n3),(ll a4 v2 n4)] J J J J J J J .nil) [3,3,0] ⟨(_,_),a3,n3,H3,a4,n4,H4,s3,s4,J,J⟩ J J
def mT.f (s:ji) (goal:Int) (bB:Int) (version:Int) (t:aG) (l:(List aX)):Option (eJ×Int×ji):=(Ak.f t l).bind λv1=>if(!v1)=true then(some ((eJ.mk [] []),1,s)) else((ye.f s.keys goal bB).bind λv2=>(if(v2.1==(aa s.fields:Int))=true then(if(aa s.fields+1<=1099511627776) then(some (s.fields++[(qN.mk 0 [] (eJ.mk [] []))])) else none) else(some s.fields)).bind λx3=>if(0<=v2.1/\v2.1<(aa x3:Int)) then((if v2.2.1=true then(if((rd x3 v2.1).version==version)=true then((Bw.f ((rd x3 v2.1).uB) l).bind λv7=>some v7) else(some false)) else(some false)).bind λx5=>if x5=true then((mV.f s.count.bF).bind λv8=>(uC.f ((rd x3 v2.1).field)).bind λv9=>some (v9,0,(ji.mk v2.2.2.2 x3 (g_.mk s.count.bM s.count.bN s.count.bJ v8 s.count.bW s.count.bR)))) else((if v2.2.1=true then((mV.f s.count.bW).bind λv12=>some v12) else(some s.count.bW)).bind λaL=>(if v2.2.2.1=true then((mV.f s.count.bR).bind λdz=>some dz) else(some s.count.bR)).bind λaP=>(mV.f s.count.bJ).bind λdZ=>(oz.f t l).bind λv17=>(sZ.f l).bind λfW=>(uC.f v17.1).bind λoD=>some (oD,0,(ji.mk v2.2.2.2 (aD x3 (ax v2.1) (qN.mk version fW v17.1)) (g_.mk s.count.bM s.count.bN dZ s.count.bF aL aP))))) else none)
def mT.R (mM:Nat) (r:(eJ×Int×ji)):bj:=λu G=> ∃(a0 n0 H0:_) (a1 n1 H1:_) (H2:Hp),aj (Fl.int .i64) 3 r.1.cN a0 n0 H0/\aj (Fl.int .i64) 3 r.1.cx a1 n1 H1/\sb r.2.2 mM H2/\u=(.tuple #[(.agg #[(ll a0 r.1.cN n0),(ll a1 r.1.cx n1)]),(ii r.2.1)])/\G=[H0,H1,H2]
theorem mT.c (H:mT.f s goal bB version t l=some r) (cR:sb s bg dJ) (d_:aO (Fl.int .u8) t.C iD F) (fy:aa t.C<=iE) (dm:aO cT l gZ F) (gj:aa l<=gX):
 QR 144 [(pp bg),(ii goal),(ii bB),(ii version),(.agg #[(ii t.W),(ii t.H),(ll iD t.C iE)]),(ll gZ l gX)] [dJ] [] F (mT.R bg r):=by
 unfold mT.f at H;refine aF Tryz.func144 J J (λW=>rc T 2 (nc T J (λb2=>nc T J (λb3=>ro T 9 (lm T 2 J (ro T 1 (k [] J S3 H (Ak.c · (rO d_ 1) fy (rO dm 1) gj) (λv1 H=>ro T 4 (cb J H (λH=>?_) (λH=>?_))))))))))
 ·refine rc T 3 (sg T 3 J (ro T 5 ?_))
  cases H;refine bz (bz (pb T J (.cS (j:=3) [nl,nl] J J J J J J J (.tmp J .nil)) [4,4,0,0] ⟨(_,_),none,0,[],none,0,[],dJ,aj.nil,aj.nil,cR,J,J⟩ J J))
 refine rc T 3 ?_;obtain⟨b7,a8,n8,H8,a9,H9,cC,n10,bT,s8,s9,bL,hH6⟩:=(λx=>x) cR;refine bU 0 (congrArg some hH6) (fz J (rc T 4 (lf T 3 J (ro T 2 (kr (ye.R b7) [] [4,4,4] J acG H (ye.c · s8 s9) (λv2 H=>?_))))));rintro _ _ ⟨dj,n11,cH,a12,dq,cX,dE,rfl,rfl⟩;refine fz J (ro T 9 (mq H [0,3,5,10,12,14,15,16] [0,4,4,4,0,0] (λz4 (⟨x3,dh,n13,dI⟩:List qN×Option Addr×Nat×Hp)=>(x3=z4/\gT EM 291 x3 dh n13 dI,[],[(cl bg 173 [(pp b7),(ll dh x3 n13),(uu s.count.bM),(uu s.count.bN),(uu s.count.bJ),(uu s.count.bF),(uu s.count.bW),(uu s.count.bR)]),dI])) J J (λz4 Z4 _=>?_) ?_))
 ·refine rc T 6 (lf T 3 J (ro T 4 (cb J Z4 (λZ4=>?_) (λZ4=>?_))))
  ·refine rc T 5 (lf T 3 J (ro T 1 (bz (bz (bz (gL [8,8,8] J (aV (FR (kd:=EM) (E:=291) (q:=8) (c:=[(ii 0),nl,nl,nl]) T (qN.mk 0 [] (eJ.mk [] [])) J J J J J J J J J J ⟨none,0,[],none,0,[],none,0,[],(aj.nil (k:=cT) (E:=285)),(aj.nil (k:=(Fl.int .i64)) (E:=3)),(aj.nil (k:=(Fl.int .i64)) (E:=3)),J,J⟩ (λjl fv fM=>?_)))))))));obtain⟨c6,Z4⟩:=az Z4;refine aV (FQ (kd:=EM) (xs:=s.fields) (ys:=[(qN.mk 0 [] (eJ.mk [] []))]) T (g:=4) (q:=9) J J J J J J J J J J bL J J fM c6 J (λma n19 kH gP=>ro T 2 (sg T 3 J (ro T 1 (ke [0,3,5,10,12,14,15,16] [0,0,0,0,0,0,0,0] J J (rx T 1 (am (_,_,_,_) [0,4,4,4,0,0,0,0] ⟨oi Z4,gP⟩ J J)))))))
  refine rc T 2 (am (_,_,_,_) [0,4,4,4,0,0,0,0] ⟨oi Z4,bL⟩ J J)
 rintro _ ⟨x3,dh,n13,dI⟩ ⟨rfl,cY⟩ H;refine rc T 5 (lf T 6 J (ro T 1 ?_));obtain⟨c7,H⟩:=az H;obtain⟨Wc,Vu,tR⟩:=cY.r.addr c7.1 c7.2;refine ix T J tR c7 (ro T 4 (mq H [0,3,5,10,12,15,16,17] [0,5,0,0,0,2,0,0] (λz6 (x5:Bool)=>(x5=z6,[(79,(bb x5))],[])) J J (λz6 Z8 _=>?_) ?_))
 ·refine rc T 3 (ab 64 J Z8 (λZ8=>?_) (λZ8=>?_))
  ·refine ro T 3 ?_;obtain⟨_,Xw,⟨a21,n21,a22,n22,a23,n23,⟨r21,m21⟩,⟨r22,m22⟩,⟨r23,m23⟩,rfl⟩⟩:=nQ.view cY.r c7;refine lg T J (CJ (j:=7) J Xw tR 0 J) (ro T 4 (ab 72 J Z8 (λZ8=>?_) (λZ8=>?_)))
   ·refine ro T 3 (lg T J (CJ (j:=7) J Xw tR 1 J) (ro T 1 (k [] J acH Z8 (Bw.c · (rO r21 7) m21 (rO dm 0) gj) (λv7 Z8=>ro T 3 (am _ [0,5,0,0,0,2,0,0] (oi Z8) J J)))))
   refine ro T 9 (am _ [0,5,0,0,0,2,0,0] (oi Z8) J J)
  refine ro T 17 (am _ [0,5,0,0,0,2,0,0] (oi Z8) J J)
 rintro _ x5 rfl H;refine cb J H (λH=>?_) (λH=>?_)
 ·refine rc T 6 (kr (mV.R bg 173 [(pp b7),(ll dh x3 n13),(uu s.count.bM),(uu s.count.bN),(uu s.count.bJ)] [(uu s.count.bW),(uu s.count.bR)]) [] [1] J JU H (mV.c (pre_count:=[(pp b7),(ll dh x3 n13),(uu s.count.bM),(uu s.count.bN),(uu s.count.bJ)]) (post_count:=[(uu s.count.bW),(uu s.count.bR)]) ·) (λv8 H=>?_));rintro _ _ ⟨rfl,rfl⟩;refine fz J (ro T 7 ?_);obtain⟨_,w28,⟨a25,n25,a26,n26,I2,n27,⟨r25,m25⟩,⟨r26,m26⟩,⟨r27,m27⟩,rfl⟩⟩:=nQ.view cY.r c7;refine bA J (fY T (cs:=[(ll a26 (rd x3 v2.1).field.cN n26),(ll I2 (rd x3 v2.1).field.cx n27)]) J J J J J J (Oy (j:=4) J w28 tR 2 J)) (kr uC.R [] [] J S4 H (uC.c · (rO r26 4) m26 (rO r27 4) m27) (λv9 H=>?_));rintro _ _ ⟨zi,n29,rY,B3,n30,rZ,rJ,pW,rfl,rfl⟩;refine fz J (sg T 6 J (ro T 5 ?_))
  cases H;refine gL [7,1,1,1,1] J (pb T J (.cS (j:=2) [(ll zi v9.cN n29),(ll B3 v9.cx n30)] J J J J J J J (.tmp J .nil)) [3,3,3,0] ⟨(_,_),zi,n29,rY,B3,n30,rZ,(List.flatten [(cl bg 173 [(pp b7),(ll dh x3 n13),(uu s.count.bM),(uu s.count.bN),(uu s.count.bJ),(uu v8),(uu s.count.bW),(uu s.count.bR)]),(cl b7 238 [(ii v2.2.2.2.k),(ll dj v2.2.2.2.aw n11),(.map (some a12)),(ii v2.2.2.2.cJ),(ii v2.2.2.2.dp)]),cH,dq,dI]),rJ,pW,(show sb (ji.mk v2.2.2.2 x3 (g_.mk s.count.bM s.count.bN s.count.bJ v8 s.count.bW s.count.bR)) bg (List.flatten [(cl bg 173 [(pp b7),(ll dh x3 n13),(uu s.count.bM),(uu s.count.bN),(uu s.count.bJ),(uu v8),(uu s.count.bW),(uu s.count.bR)]),(cl b7 238 [(ii v2.2.2.2.k),(ll dj v2.2.2.2.aw n11),(.map (some a12)),(ii v2.2.2.2.cJ),(ii v2.2.2.2.dp)]),cH,dq,dI]) from⟨b7,dj,n11,cH,a12,dq,dh,n13,dI,cX,dE,cY,J⟩),J,J⟩ J J)
 refine rc T 2 (mq H [0,3,5,10,12,16,17] [0,1,1,1,1,1,1] (λl8 (aL:Int)=>(aL=l8,[],[(cl bg 173 [(pp b7),(ll dh x3 n13),(uu s.count.bM),(uu s.count.bN),(uu s.count.bJ),(uu s.count.bF),(uu aL),(uu s.count.bR)])])) J J (λl8 dC _=>?_) ?_)
 ·refine rc T 5 (cb J dC (λdC=>?_) (λdC=>?_))
  ·refine rc T 5 (kr (mV.R bg 173 [(pp b7),(ll dh x3 n13),(uu s.count.bM),(uu s.count.bN),(uu s.count.bJ),(uu s.count.bF)] [(uu s.count.bR)]) [] [1] J JU dC (mV.c (pre_count:=[(pp b7),(ll dh x3 n13),(uu s.count.bM),(uu s.count.bN),(uu s.count.bJ),(uu s.count.bF)]) (post_count:=[(uu s.count.bR)]) ·) (λv12 dC=>?_));rintro _ _ ⟨rfl,rfl⟩;refine fz J (ro T 2 (am _ [0,0,0,0,0,0,0,0] (oi dC) J J))
  refine rc T 2 (am _ [0,1,1,1,1,1,1,0] (oi dC) J J)
 rintro _ aL rfl H;refine mq H [0,3,5,10,12,17] [0,0,0,0,0,0,0] (λvG (aP:Int)=>(aP=vG,[],[(cl bg 173 [(pp b7),(ll dh x3 n13),(uu s.count.bM),(uu s.count.bN),(uu s.count.bJ),(uu s.count.bF),(uu aL),(uu aP)])])) J J (λvG lp _=>?_) ?_
 ·refine rc T 5 (cb J lp (λlp=>?_) (λlp=>?_))
  ·refine rc T 5 (kr (mV.R bg 173 [(pp b7),(ll dh x3 n13),(uu s.count.bM),(uu s.count.bN),(uu s.count.bJ),(uu s.count.bF),(uu aL)] []) [] [7] J JU lp (mV.c (pre_count:=[(pp b7),(ll dh x3 n13),(uu s.count.bM),(uu s.count.bN),(uu s.count.bJ),(uu s.count.bF),(uu aL)]) (post_count:=[]) ·) (λdz lp=>?_));rintro _ _ ⟨rfl,rfl⟩;refine fz J (ro T 2 (am _ [0,0,0,0,0,0,0,0] (oi lp) J J))
  refine rc T 2 (am _ [0,0,0,0,0,0,0,0] (oi lp) J J)
 rintro _ aP rfl H;refine rc T 6 (kr (mV.R bg 173 [(pp b7),(ll dh x3 n13),(uu s.count.bM),(uu s.count.bN)] [(uu s.count.bF),(uu aL),(uu aP)]) [] [7] J JU H (mV.c (pre_count:=[(pp b7),(ll dh x3 n13),(uu s.count.bM),(uu s.count.bN)]) (post_count:=[(uu s.count.bF),(uu aL),(uu aP)]) ·) (λdZ H=>?_));rintro _ _ ⟨rfl,rfl⟩;refine fz J (ro T 4 (lm T 5 J (ro T 1 (kr oz.R [] [] J acI H (oz.c · (rO d_ 0) fy (rO dm 0) gj) (λv17 H=>?_)))));rintro _ _ ⟨a31,n31,BT,a32,n32,II,Ae,Af,rfl,rfl⟩;refine fz J (ro T 3 (nc T J (λb33=>sg T 10 J (ro T 4 (ke [3,5,12,17,18] [0,0,0,0,0,1,1,1,1,1] J J (fz J (rg [7] [0,0,0,0,0,0,0,0,0,0] mix (bH bG) (λhg pf=>ha T 5 [0,1,2] sz hg pf J (av 4 sz hg pf J (gA T 9 J J J J J J J) (ao 3 (kR sZ.R [] [] J S5 H (sZ.c · (rO dm 0) gj) (λfW H=>?_))))))))))));rintro _ _ ⟨FD,n34,vI,yH,rfl,rfl⟩;refine fz J (an (so [0,0,0,0,0,0,0,0,0,0]) (ha T 1 [5,6] (so [0,0,0,0,0,0,0,0,0,0]) hg pf J (ao 7 (Mc (j:=4) J cY c7 (λ_ _ AH Vw Bq=>?_)))));obtain⟨a35,n35,IK,AP,n36,AG,a37,n37,Fs,K9,Dn,Dp,rfl,rfl⟩:=Vw;refine Mf (Md T 4 0 [(ii version),(ll FD fW n34),(ll a31 v17.1.cN n31),(ll a32 v17.1.cx n32)] J J J J J J Bq tR J J J J (λLL Br=>an sl (ae (rx T 3 (lm T 9 J (kr uC.R [] [] J S4 H (uC.c · (oO Ae 7) Ae.bZ (oO Af 8) Af.bZ) (λoD H=>?_)))))));rintro _ _ ⟨a40,n40,LM,a41,n41,Ft,ES,Ag,rfl,rfl⟩;refine fz J (sg T 5 J (ro T 2 (gL [10,7,7] J (Mb (j:=4) (q:=13) (qN.mk version fW v17.1) J Br J J ⟨FD,n34,vI,a31,n31,BT,a32,n32,II,yH,Ae,Af,J,J⟩ (λgR uo=>kg [12,13] [0,0,0,0,0,0,5,5] [0,0,0,0,0,0,5,5,0] [] [(cl bg 173 [(pp b7),(ll dh (aD x3 (ax v2.1) (qN.mk version fW v17.1)) n13),(uu s.count.bM),(uu s.count.bN),(uu dZ),(uu s.count.bF),(uu aL),(uu aP)])] J J trivial dB (rx T 2 ?_))))))
 cases H;refine gL [8,1,1,1,1] J (pb T J (.cS (j:=1) [(ll a40 oD.cN n40),(ll a41 oD.cx n41)] J J J J J J J (.tmp J .nil)) [2,2,2,0] ⟨(_,_),a40,n40,LM,a41,n41,Ft,(List.flatten [(cl bg 173 [(pp b7),(ll dh (aD x3 (ax v2.1) (qN.mk version fW v17.1)) n13),(uu s.count.bM),(uu s.count.bN),(uu dZ),(uu s.count.bF),(uu aL),(uu aP)]),(cl b7 238 [(ii v2.2.2.2.k),(ll dj v2.2.2.2.aw n11),(.map (some a12)),(ii v2.2.2.2.cJ),(ii v2.2.2.2.dp)]),cH,dq,gR]),ES,Ag,(show sb (ji.mk v2.2.2.2 (aD x3 (ax v2.1) (qN.mk version fW v17.1)) (g_.mk s.count.bM s.count.bN dZ s.count.bF aL aP)) bg (List.flatten [(cl bg 173 [(pp b7),(ll dh (aD x3 (ax v2.1) (qN.mk version fW v17.1)) n13),(uu s.count.bM),(uu s.count.bN),(uu dZ),(uu s.count.bF),(uu aL),(uu aP)]),(cl b7 238 [(ii v2.2.2.2.k),(ll dj v2.2.2.2.aw n11),(.map (some a12)),(ii v2.2.2.2.cJ),(ii v2.2.2.2.dp)]),cH,dq,gR]) from⟨b7,dj,n11,cH,a12,dq,dh,n13,gR,cX,dE,uo,J⟩),J,J⟩ J J)
def E3.f (s:ji):Option g_:=some s.count
theorem E3.c (H:E3.f s=some r) (cR:sb s bg dJ):
 QU 80 [(pp bg)] [dJ] F (.agg #[(uu r.bM),(uu r.bN),(uu r.bJ),(uu r.bF),(uu r.bW),(uu r.bR)]):=by
 unfold E3.f at H;refine aF Tryz.func80 J J (λW=>rc T 2 (nc T J (λb2=>ro T 9 (eN J (rc T 3 ?_)))));obtain⟨b4,a5,n5,H5,a6,H6,a7,n7,H7,s5,s6,s7,dx⟩:=(λx=>x) cR;refine bU 0 (congrArg some dx) (fz J (rc T 4 (lm T 2 J (sg T 1 J (ro T 3 ?_)))))
 cases H;refine dD [2,2,2,2,2] J dx (pb T J (.cS (j:=1) [(uu s.count.bM),(uu s.count.bN),(uu s.count.bJ),(uu s.count.bF),(uu s.count.bW),(uu s.count.bR)] J J J J J J J .nil) [2,0] () J J)
def Al.f (s:ji):Option (List (Int×Int)):=(o0.f s.keys).bind λv1=>some v1
def Al.R (r:(List (Int×Int))):bj:=λu G=> ∃a0 n0 H0,aj (Fl.pair .i64) 76 r a0 n0 H0/\u=(ll a0 r n0)/\G=[H0]
theorem Al.c (H:Al.f s=some r) (cR:sb s bg dJ):
 QR 99 [(pp bg)] [dJ] [dJ] F (Al.R r):=by
 unfold Al.f at H;refine aF Tryz.func99 J J (λW=>rc T 12 (eN J (rc T 3 ?_)));obtain⟨b3,a4,n4,H4,a5,H5,a6,n6,H6,s4,s5,s6,cz⟩:=(λx=>x) cR;refine bU 0 (congrArg some cz) (fz J (rc T 4 (lf T 1 J (kr o0.R [2,2,2] [2,2,2] J ach H (o0.c · s4 s5) (λv1 H=>?_)))));rintro _ _ ⟨a7,n7,H7,s7,rfl,rfl⟩;refine fz J (ro T 4 ?_)
 cases H;refine dD [1,3,3,3,1] J cz (p1 T J [1,1,0] ⟨a7,n7,H7,s7,J,J⟩ J)
end
end Go.Proofs.YthodkonhneebbaaGreatDoor
