/- What the functions of some packages compute, each as a function of plain Lean, with its contract. No condition. -/
import Derived.Test.YthodkonhneebbaaGreatDoorKT
import Derived.Test.YthodkonhneebbaaGreatDoorK7
import Derived.Test.YthodkonhneebbaaGreatDoorK8
import Derived.Test.YthodkonhneebbaaGreatDoorK10
import Derived.Test.YthodkonhneebbaaGreatDoorK5
import Derived.Test.YthodkonhneebbaaGreatDoorK6
namespace Go.Proofs.YthodkonhneebbaaGreatDoor
open Go.Hx
set_option maxRecDepth 100000
set_option linter.unusedSimpArgs false
set_option linter.unusedVariables false
set_option maxHeartbeats 4000000
set_option autoImplicit true
set_option relaxedAutoImplicit true
noncomputable section
def G3.f:Option Int:=some 0
theorem G3.c (H:G3.f=some r):
 QU 108 [(.pointer none)] [] F (uu r):=by
 unfold G3.f at H;refine aB Tryz.func108 J J (λW=>rc T 12 (mW J (rc T 7 ?_)))
 cases H;exact p0 T J [0] J
def G4.f (ag:jN) (iS:dz) (eA:bt):Option Int:=some ag.count
theorem G4.c (H:G4.f ag iS eA=some r) (cE:rZ ag aV kN iP cX) (xD:l7 iS kN iP mP) (ou:iq eA iP lr):
 QU 108 [(pp aV)] [cX,mP,lr] F (uu r):=by
 unfold G4.f at H;refine aB Tryz.func108 J J (λW=>rc T 12 (dW J (rc T 3 ?_)));obtain⟨zw,H7,s7,ju⟩:=(λx=>x) cE;refine bz 0 (congrArg some ju) (fz J (rc T 4 (lf T 3 J (ro T 4 ?_))))
 cases H;refine cV [3,3] J ju (p0 T J [3,0,0,0] J)
def sW.f (m:dz) (g:bt):Option (Option jN):=some (some (jN.mk none 0))
def sW.R (w0:Nat) (w1:Nat) (r:(Option jN)) (u:Value) (G:List Hp):Prop:= ∃(u0:Value) (G0:List Hp),Xw w0 w1 r u0 G0/\u=u0/\G=G0
theorem sW.c (H:sW.f m g=some r) (rN:l7 m iD eX mO) (fC:iq g eX fW):
 QR 151 [(pp iD),(pp eX)] [mO,fW] [mO,fW] F (sW.R iD eX r):=by
 unfold sW.f at H;refine aB Tryz.func151 J J (λW=>rc T 16 (dW J (rc T 7 (nc T J (λb3=>ro T 4 ?_)))))
 cases H;refine br (gj [3,3] J (p1 T J [3,0,0,0] ⟨_,_,⟨b3,(List.flatten [(cl b3 233 [(pp iD),(pp eX),(.pointer none),(uu 0)]),[]]),(show rZ (jN.mk none 0) b3 iD eX (List.flatten [(cl b3 233 [(pp iD),(pp eX),(.pointer none),(uu 0)]),[]]) from⟨(.pointer none),[],(show Ld none iD eX (.pointer none) [] from⟨J,J⟩),J⟩),J,J⟩,J,J⟩ J))
def G5.f:Option Unit:=some ()
theorem G5.c (H:G5.f=some r):
 QU 118 [(.pointer none)] [] F (.tuple #[]):=by
 unfold G5.f at H;refine aB Tryz.func118 J J (λW=>rc T 6 (dW J (rc T 1 (i_ ?_))))
 cases H;exact p0 T J [0] J
def AL.f (ag:jN) (iS:dz) (eA:bt):Option jN:=some (jN.mk none ag.count)
def AL.R (na:Nat) (N0:Nat) (N1:Nat) (r:jN) (u:Value) (G:List Hp):Prop:= ∃(H0:Hp),rZ r na N0 N1 H0/\u=(.tuple #[])/\G=[H0]
theorem AL.c (H:AL.f ag iS eA=some r) (cE:rZ ag aV kN iP cX) (xD:l7 iS kN iP mP) (ou:iq eA iP lr):
 QR 118 [(pp aV)] [cX,mP,lr] [mP,lr] F (AL.R aV kN iP r):=by
 unfold AL.f at H;refine aB Tryz.func118 J J (λW=>rc T 6 (mW J ?_));obtain⟨zw,H7,s7,ju⟩:=(λx=>x) cE;refine bz 0 (congrArg some ju) (fz J (rc T 4 (sg T 3 J (ro T 1 (i_ ?_)))))
 cases H;refine br (gj [3,4] J (p1 T J [4,0,0,0] ⟨(List.flatten [(cl aV 233 [(pp kN),(pp iP),(.pointer none),(uu ag.count)]),[]]),(show rZ (jN.mk none ag.count) aV kN iP (List.flatten [(cl aV 233 [(pp kN),(pp iP),(.pointer none),(uu ag.count)]),[]]) from⟨(.pointer none),[],(show Ld none kN iP (.pointer none) [] from⟨J,J⟩),J⟩),J,J⟩ J))
def jm.l1:Nat->Int->bt->(Int×Int)->(List (Int×Int))->Int->Int->List dC->Int->Option ((List (Int×Int))×(List dC))
 |0,_,_,_,_,_,_,_,_=>none
 |o_+1,goal,eA,v1,bf,bc,aT,bR,dQ=>if dQ<=3 then((lZ.f v1.1 v1.2 bc dQ).bind λv25=>(if v25<0 then(some true) else((gD.f v1.1 v1.2 v25).bind λv28=>(gD.f v1.1 v1.2 goal).bind λrS=>if(v28 !=rS)=true then(some true) else((je.f eA v25).bind λv30=>some (v30==255)))).bind λfv=>if fv=true then(jm.l1 o_ goal eA v1 bf bc aT bR (aa (dQ+1))) else((je.f eA bc).bind λv31=>(nk.f (eO.mk bR) (aa (aT+v31)) v25).bind λv32=>jm.l1 o_ goal eA v1 bf bc aT v32.l (aa (dQ+1)))) else(some ((cC bf bc aT),bR))
def jm.l0:Nat->Int->bt->(Int×Int)->(List (Int×Int))->List dC->Int->Int->Bool->Option (List (Int×Int))
 |0,_,_,_,_,_,_,_,_=>none
 |yT+1,goal,eA,v1,bf,bq,aT,bc,cn=>if cn=true then((if(bQ bf bc)=true then(some (bf,bq)) else(jm.l1 fuel goal eA v1 bf bc aT bq 0)).bind λ(db,dL)=>(nj.f (eO.mk dL)).bind λv33=>jm.l0 yT goal eA v1 db v33.2.2.2.l v33.1 v33.2.1 v33.2.2.1) else(some bf)
def jm.f (ag:jN) (goal:Int) (iS:dz) (eA:bt):Option (List (Int×Int)):=(iE.f eA).bind λv1=>(je.f eA goal).bind λv2=>if(v2==255)=true then(some ([]:(List (Int×Int)))) else((vd.f).bind λv3=>c_ v3 (none) (λzH=>(nk.f zH 0 goal).bind λv4=>(nj.f v4).bind λv5=>jm.l0 fuel goal eA v1 ([]:(List (Int×Int))) v5.2.2.2.l v5.1 v5.2.1 v5.2.2.1))
def jm.R (r:(List (Int×Int))) (u:Value) (G:List Hp):Prop:= ∃(a0:Nat) (H0:Hp),cP (Ky.int .i64 u3) (λx:Int=>Value.int .i64 x) r a0 H0/\u=(.map (some a0))/\G=[H0]
theorem jm.c (H:jm.f ag goal iS eA=some r) (cE:rZ ag aV kN iP cX) (xD:l7 iS kN iP mP) (ou:iq eA iP lr):
 QR 214 [(pp aV),(ii goal)] [cX,mP,lr] [cX,mP,lr] F (jm.R r):=by
 unfold jm.f at H;refine aB Tryz.func214 J J (λW=>rc T 6 ?_);obtain⟨zw,H7,s7,ju⟩:=(λx=>x) cE;refine bz 0 (congrArg some ju) (fz J (rc T 4 (lf T 3 J (k [1] J tP H (iE.c · ou) (λv1 H=>ro T 9 (aW (uJ T (Ky.int .i64 u3) (λx:Int=>Value.int .i64 x) J J J trivial (λa8 H8 s8=>ro T 9 (lf T 3 J (ro T 1 (k [1] J u9 H (je.c · ou) (λv2 H=>ro T 3 (cb J H (λH=>?_) (λH=>?_))))))))))))))
 ·refine rc T 8 ?_
  cases H;refine cV [3,3] J ju (p1 T J [3,3,0,0,0] ⟨a8,H8,s8,J,J⟩ J)
 refine rc T 4 (kr vd.R [] [] J SH H (vd.c ·) (λv3 H=>?_));rintro _ _ ⟨_,_,O5,rfl,rfl⟩;rcases v3 with _ |zH
 ·replace H:=eJ J H
  cases H
 replace H:=eK J H;obtain⟨b9,cw,n10,bV,bS,rfl,rfl⟩:=O5;refine ro T 7 (kr (nk.R b9) [] [6,6] J Jo H (nk.c · bS) (λv4 H=>?_));rintro _ _ ⟨dt,n11,cA,cS,rfl,rfl⟩;refine fz J (ro T 1 (ks [0,1,5,6,7,8] J (rx T 5 (kr (nj.R b9) [] [6,6] J Jp H (nj.c · cS) (λv5 H=>?_)))));rintro _ _ ⟨a12,n12,dw,dD,rfl,rfl⟩;refine fz J (ro T 10 (lq [0,1,5,6,8] [2,2,2,0,0] (λ(⟨yT,bf,bq,aT,bc,cn,jT,dF,jU,n16,fV⟩:Nat×(List (Int×Int))×List dC×Int×Int×Bool×Nat×Hp×Option Addr×Nat×Hp)=>(jm.l0 yT goal eA v1 bf bq aT bc cn=some r/\cP (Ky.int .i64 u3) (λx:Int=>Value.int .i64 x) bf jT dF/\aj fB 359 bq jU n16 fV,[(7,(.map (some jT))),(9,(ii aT)),(10,(ii bc)),(11,(bb cn))],[dF,(cl b9 357 [(ll jU bq n16)]),fV])) J J (fuel,([]:(List (Int×Int))),v5.2.2.2.l,v5.1,v5.2.1,v5.2.2.1,a8,H8,a12,n12,dw) [2,2,2,0,0,0,0,0] ⟨H,s8,dD⟩ J J ?_));rintro yT ⟨bf,bq,aT,bc,cn,jT,dF,jU,n16,fV⟩ ⟨Z8,dK,fP⟩;rw[jm.l0] at Z8;refine rc T 6 (cb J Z8 (λZ8=>?_) (λZ8=>?_))
 ·refine rc T 2 (mq Z8 [0,1,5,6,8] [0,0,0,0,0] (λPt (⟨db,dL,a17,dV,iY,n18,fb⟩:(List (Int×Int))×List dC×Nat×Hp×Option Addr×Nat×Hp)=>((db,dL)=Pt/\cP (Ky.int .i64 u3) (λx:Int=>Value.int .i64 x) db a17 dV/\aj fB 359 dL iY n18 fb,[(7,(.map (some a17)))],[dV,(cl b9 357 [(ll iY dL n18)]),fb])) J J (λPt lK _=>?_) ?_)
  ·refine rc T 6 (bp J (pO (k:=bc) T (Ky.int .i64 u3) (λx:Int=>Value.int .i64 x) J J J J J (oh dK (j:=5) J)) (ro T 12 (cb J lK (λlK=>?_) (λlK=>?_))))
   ·refine rc T 4 (am (_,_,_,_,_,_,_) [0,0,0,0,0,0,0,0] ⟨oi lK,dK,fP⟩ J J)
   refine rc T 7 (aW (pE (g:=5) (m:=bf) (k:=bc) (v:=aT) T (Ky.int .i64 u3) (λx:Int=>Value.int .i64 x) J J J J J J J dK (λkF gQ=>ro T 8 (lq [0,1,5,6,7,8,9,10] [0,0,0,0,0,0] (λ(⟨o_,bR,dQ,a21,n21,lj⟩:Nat×List dC×Int×Option Addr×Nat×Hp)=>(jm.l1 o_ goal eA v1 bf bc aT bR dQ=some Pt/\aj fB 359 bR a21 n21 lj,[(14,(ii dQ))],[(cl b9 357 [(ll a21 bR n21)]),lj])) J J (fuel,bq,0,jU,n16,fV) [0,0,0,0,0,0,0,0] ⟨lK,fP⟩ J J ?_))));rintro o_ ⟨bR,dQ,a21,n21,lj⟩ ⟨bo,jO⟩;rw[jm.l1] at bo;refine rc T 7 (cd J bo (λbo=>?_) (λbo=>?_))
   ·refine rc T 10 (k [] J Ae bo (lZ.c ·) (λv25 bo=>ro T 4 (mq bo [0,1,5,6,7,8,9,10,14,15] [0,0,0,0,0,0,0,0] (λW8 (fv:Bool)=>(fv=W8,[(90,(bb fv))],[])) J J (λW8 cm _=>?_) ?_)))
    ·refine rc T 4 (ad 71 J cm (λcm=>?_) (λcm=>?_))
     ·refine ro T 21 (am _ [0,0,0,0,0,0,0,0] (oi cm) J J)
     refine ro T 3 (k [] J rC cm (gD.c ·) (λv28 cm=>ro T 3 (k [] J rC cm (gD.c ·) (λrS cm=>ro T 3 (ab 82 J cm (λcm=>?_) (λcm=>?_))))))
     ·refine ro T 10 (am _ [0,0,0,0,0,0,0,0] (oi cm) J J)
     refine ro T 3 (lf T 1 J (ro T 1 (k [4] J u9 cm (je.c · ou) (λv30 cm=>ro T 4 (am _ [0,0,0,0,0,0,0,0] (oi cm) J J)))))
    rintro _ fv rfl bo;refine cb J bo (λbo=>?_) (λbo=>?_)
    ·refine rc T 10 (ar (_,_,_,_,_) [0,0,0,0,0,0,0,0] ⟨bo,jO⟩ J J)
    refine rc T 8 (lf T 1 J (ro T 1 (k [4] J u9 bo (je.c · ou) (λv31 bo=>ro T 2 (kr (nk.R b9) [] [6,6] J Jo bo (nk.c (h:=(eO.mk bR)) · jO) (λv32 bo=>?_))))));rintro _ _ ⟨a22,n22,mj,iI,rfl,rfl⟩;refine fz J (ro T 9 (ar (_,_,_,_,_) [0,0,0,0,0,0,0,0] ⟨bo,iI⟩ J J))
   refine rc T 6 (am (_,_,_,_,_,_,_) [0,0,0,0,0,0,0,0] ⟨oi bo,gQ,jO⟩ J J)
  rintro _ ⟨db,dL,a17,dV,iY,n18,fb⟩ ⟨rfl,fh,fq⟩ Z8;refine rc T 2 (kr (nj.R b9) [] [6,6] J Jp Z8 (nj.c (h:=(eO.mk dL)) · fq) (λv33 Z8=>?_));rintro _ _ ⟨a23,n23,jF,gR,rfl,rfl⟩;refine fz J (ro T 9 (ar (_,_,_,_,_,_,_,_,_,_) [0,0,0,0,0,0,0,0] ⟨Z8,fh,gR⟩ J J))
 refine rc T 12 ?_
 cases Z8;refine cV [1,1] J ju (p1 T J [3,5,1,1,0] ⟨jT,dF,dK,J,J⟩ J)
def sX.f (ag:ie) (node:Int) (key:Int):Option (Bool×ie):=if(0<=node/\node<(List.length ag.aQ:Int)) then(if key≥(aa (rd ag.aQ node)) then(some (false,ag)) else(some (true,(ie.mk ag.goal ag.bL (List.set ag.aQ (Int.toNat node) (IntKind.i32.wrap key)))))) else none
def sX.R (aV:Nat) (r:(Bool×ie)) (u:Value) (G:List Hp):Prop:= ∃(a0:Option Addr) (n0:Nat) (H0:Hp),aj (Fl.int .i32) 21 r.2.aQ a0 n0 H0/\u=(bb r.1)/\G=[(cl aV 235 [(ii r.2.goal),(ii r.2.bL),(ll a0 r.2.aQ n0)]),H0]
theorem sX.c (H:sX.f ag node key=some r) (vQ:aj (Fl.int .i32) 21 ag.aQ wz xi zK):
 QR 216 [(pp aV),(ii node),(ii key)] [(cl aV 235 [(ii ag.goal),(ii ag.bL),(ll wz ag.aQ xi)]),zK] [] F (sX.R aV r):=by
 unfold sX.f at H;refine aB Tryz.func216 J J (λW=>rc T 12 (lf T 0 J (ro T 1 ?_)));obtain⟨c1,H⟩:=az H;obtain⟨q3,o3,e3⟩:=vQ.r.addr c1.1 c1.2;refine ix T J e3 c1 (le T 0 (oO vQ 1) e3 c1 J J (ro T 4 (cd J H (λH=>?_) (λH=>?_))))
 ·refine rc T 7 ?_
  cases H;exact p1 T J [0,0,0] ⟨wz,xi,zK,vQ,J,J⟩ J
 refine rc T 7 (lf T 0 J (ro T 3 (ix T J e3 c1 (aW (kI (k:=(Fl.int .i32)) T 1 0 (IntKind.i32.wrap key) J J J J J J vQ e3 c1 J J J (λH4 s4=>kg [] [1,1] [1,1,0] [] [(cl aV 235 [(ii ag.goal),(ii ag.bL),(ll wz (List.set ag.aQ (Int.toNat node) (IntKind.i32.wrap key)) xi)])] J J trivial (by first |rfl |(simp only[ll,List.length_set];rfl)) (ro T 8 ?_)))))))
 cases H;exact p1 T J [2,0,0] ⟨wz,xi,H4,s4,J,J⟩ J
def fO.l2:Nat->Int->Int->(List dR)->Int->Int->List Int->List dC->Int->Option (Int×Int×(List Int)×(List dC))
 |0,_,_,_,_,_,_,_,_=>none
 |Gr+1,goal,fw,rT,C8,C9,Be,zB,qU=>if qU<(List.length rT:Int) then(if(0<=qU/\qU<(List.length rT:Int)) then((sX.f (ie.mk C8 C9 Be) ((rd rT qU).To) (aa (fw+(rd rT qU).kE))).bind λv64=>if v64.1=true then((nk.f (eO.mk zB) (aa (fw+(rd rT qU).kE)) ((rd rT qU).To)).bind λWZ=>fO.l2 Gr goal fw rT v64.2.goal v64.2.bL v64.2.aQ WZ.l (aa (qU+1))) else(fO.l2 Gr goal fw rT v64.2.goal v64.2.bL v64.2.aQ zB (aa (qU+1)))) else none) else(some (C8,C9,Be,zB))
def fO.l1:Nat->Int->dz->bt->Int->Int->List Int->List dC->Int->Int->Bool->Option (Option ie)
 |0,_,_,_,_,_,_,_,_,_,_=>none
 |xa+1,goal,iS,eA,iK,gf,gU,iL,fw,iM,ig=>if ig=true then((if(0<=iM/\iM<(List.length gU:Int)) then(if fw>(aa (rd gU iM)) then(some (iK,gf,gU,iL)) else((gO.f iS iM eA).bind λrT=>fO.l2 fuel goal fw rT iK gf gU iL 0)) else none).bind λ(HK,HM,EJ,C7)=>(nj.f (eO.mk C7)).bind λv66=>fO.l1 xa goal iS eA HK HM EJ v66.2.2.2.l v66.1 v66.2.1 v66.2.2.1) else(some (some (ie.mk iK gf gU)))
def fO.l0:Nat->Int->dz->bt->(List (Int×Int))->(List Int)->Int->Int->List Int->List dC->Int->Option (Option ie)
 |0,_,_,_,_,_,_,_,_,_,_=>none
 |JX+1,goal,iS,eA,v5,v7,aT,bc,cn,dm,db=>if db<(List.length v7:Int) then((if(0<=db/\db<(List.length v7:Int)) then((if(bQ v5 (rd v7 db))=true then((sX.f (ie.mk aT bc cn) (rd v7 db) (aO v5 (rd v7 db))).bind λrS=>some (rS.2.goal,rS.2.bL,rS.2.aQ,rS.1)) else(some (aT,bc,cn,false))).bind λ(qf,lH,fv,l6)=>if l6=true then((nk.f (eO.mk dm) (aO v5 (rd v7 db)) (rd v7 db)).bind λv30=>some (qf,lH,fv,v30.l)) else(some (qf,lH,fv,dm))) else none).bind λ(b_,lh,ei,bR)=>fO.l0 JX goal iS eA v5 v7 b_ lh ei bR (aa (db+1))) else((nj.f (eO.mk dm)).bind λv31=>fO.l1 fuel goal iS eA aT bc cn v31.2.2.2.l v31.1 v31.2.1 v31.2.2.1)
def fO.f (ag:jN) (goal:Int) (iS:dz) (eA:bt):Option (Option ie):=(iE.f eA).bind λv1=>(oS.f eA).bind λv2=>(px.f [2147483647] (aa (v1.1*v1.2))).bind λv3=>(vd.f).bind λv4=>c_ v4 (none) (λqV=>(jm.f ag goal iS eA).bind λv5=>(gD.f v1.1 v1.2 goal).bind λv6=>(xg.f iS v6 eA).bind λv7=>fO.l0 fuel goal iS eA v5 v7 goal v2 v3 qV.l 0)
def fO.R (r:(Option ie)) (u:Value) (G:List Hp):Prop:= ∃(u0:Value) (G0:List Hp),Xx r u0 G0/\u=u0/\G=G0
theorem fO.c (H:fO.f ag goal iS eA=some r) (cE:rZ ag aV kN iP cX) (xD:l7 iS kN iP mP) (ou:iq eA iP lr):
 QR 182 [(pp aV),(ii goal)] [cX,mP,lr] [cX,mP,lr] F (fO.R r):=by
 unfold fO.f at H;refine aB Tryz.func182 J J (λW=>rc T 6 ?_);obtain⟨zw,H7,s7,ju⟩:=(λx=>x) cE;refine bz 0 (congrArg some ju) (fz J (rc T 4 (lf T 3 J (k [1] J tP H (iE.c · ou) (λv1 H=>ro T 13 (lf T 3 J (k [1] J BQ H (oS.c · ou) (λv2 H=>aW (cU (k:=(Fl.int .i32)) T [2147483647] J J J J J J J J J (λa8 H8 s8=>ro T 3 (kr px.R [] [] J acD H (px.c · (oO s8 5) s8.bW) (λv3 H=>?_))))))))))));rintro _ _ ⟨a9,n9,H9,s9,rfl,rfl⟩;refine fz J (ro T 1 (nc T J (λfL=>ro T 5 (kr vd.R [] [] J SH H (vd.c ·) (λv4 H=>?_)))));rintro _ _ ⟨_,_,O5,rfl,rfl⟩;rcases v4 with _ |qV
 ·replace H:=eJ J H
  cases H
 replace H:=eK J H;obtain⟨jG,a12,n12,dw,dD,rfl,rfl⟩:=O5;refine ro T 7 ?_;obtain⟨v5,V6,H⟩:=fY H;refine aW (Fc (As:=[(cl aV 233 [(pp kN),(pp iP),zw,(uu ag.count)]),H7,mP,lr]) (jm.R v5) [(cl aV 233 [(pp kN),(pp iP),zw,(uu ag.count)]),H7,mP,lr] [3,3,0,0] J J J J acE J J (IV (A:=[cX,mP,lr]) (A2:=[cX,mP,lr]) (by simp only[ju,List.flatten_cons,List.flatten_append,List.flatten_nil,List.append_nil,List.append_assoc]) (by simp only[ju,List.flatten_cons,List.flatten_append,List.flatten_nil,List.append_nil,List.append_assoc]) (jm.c V6 cE xD ou)) ?_)
 rintro _ _ ⟨dy,eo,dh,rfl,rfl⟩;refine fz J (ro T 2 (ke [0,1,5,6,7,8,9] [0,1,1,1,1,1,1,1,1,1] J J (rx T 3 (fz J (rg [] [0,0,0,0,0,0,0,0,0,0] mix (bO bN) (λhg pf=>ha T 8 [0,1,2] sz hg pf J (av 3 sz hg pf J (aw T J J J J (aD (j:=6) J J)) (ha T 3 [4,5,6,10] sz hg pf J (ao 7 (kh [] J rC H (gD.c ·) (λv6 H=>an sz (ao 8 (kR xg.R [8,8] [8,8] J acF H (xg.c · xD ou) (λv7 H=>?_))))))))))))));rintro _ _ ⟨iC,n14,fx,dO,rfl,rfl⟩;refine fz J (an (so [0,0,0,0,0,0,0,0,1,1]) (ha T 0 [9] (so [0,0,0,0,0,0,0,0,1,1]) hg pf J (ae (rx T 2 (lq [0,7,8,9,52,53] [0,5,5,6,6,4,4] (λ(⟨JX,aT,bc,cn,dm,db,a17,n17,dV,iY,n18,fb⟩:Nat×Int×Int×List Int×List dC×Int×Option Addr×Nat×Hp×Option Addr×Nat×Hp)=>(fO.l0 JX goal iS eA v5 v7 aT bc cn dm db=some r/\aj (Fl.int .i32) 21 cn a17 n17 dV/\aj fB 359 dm iY n18 fb,[(54,(ii db))],[(cl fL 235 [(ii aT),(ii bc),(ll a17 cn n17)]),dV,(cl jG 357 [(ll iY dm n18)]),fb])) J J (fuel,goal,v2,v3,qV.l,0,a9,n9,H9,a12,n12,dw) [0,5,5,6,6,4,4,1,0,0,0] ⟨H,s9,dD⟩ J J ?_)))));rintro JX ⟨aT,bc,cn,dm,db,a17,n17,dV,iY,n18,fb⟩ ⟨Z9,fh,fq⟩;rw[fO.l0] at Z9;refine rc T 6 (cd J Z9 (λZ9=>?_) (λZ9=>?_))
 ·refine rc T 2 (mq Z9 [0,7,8,9,52,53,54] [0,0,0,0,0,0,0] (λz23 (⟨b_,lh,ei,bR,l9,n19,kF,a20,n20,nS⟩:Int×Int×List Int×List dC×Option Addr×Nat×Hp×Option Addr×Nat×Hp)=>((b_,lh,ei,bR)=z23/\aj (Fl.int .i32) 21 ei l9 n19 kF/\aj fB 359 bR a20 n20 nS,[],[(cl fL 235 [(ii b_),(ii lh),(ll l9 ei n19)]),kF,(cl jG 357 [(ll a20 bR n20)]),nS])) J J (λz23 ba _=>?_) ?_)
  ·refine rc T 3 ?_;obtain⟨gY,ba⟩:=az ba;obtain⟨Ef,o21,Fw⟩:=dO.r.addr gY.1 gY.2;refine ix T J Fw gY (le T 0 (oO dO 6) Fw gY J J (ro T 7 (bp J (pO (k:=(rd v7 db)) T (Ky.int .i64 u3) (λx:Int=>Value.int .i64 x) J J J J J (oh dh (j:=5) J)) (ro T 7 (mq ba [0,7,8,9,11,12,52,53,54] [0,0,0,0,0,4,4,0,0] (λz28 (⟨qf,lH,fv,l6,a22,n22,mj⟩:Int×Int×List Int×Bool×Option Addr×Nat×Hp)=>((qf,lH,fv,l6)=z28/\aj (Fl.int .i32) 21 fv a22 n22 mj,[(70,(bb l6))],[(cl fL 235 [(ii qf),(ii lH),(ll a22 fv n22)]),mj])) J J (λz28 mS _=>?_) ?_)))))
   ·refine rc T 3 (ab 65 J mS (λmS=>?_) (λmS=>?_))
    ·refine ro T 3 (kr (sX.R fL) [] [7,7] J SI mS (sX.c (ag:=(ie.mk aT bc cn)) · fh) (λrS mS=>?_));rintro _ _ ⟨a23,n23,jF,gR,rfl,rfl⟩;refine fz J (ro T 3 (am (_,_,_,_,_,_,_) [0,0,0,0,0,2,2,0,0,0,0] ⟨oi mS,gR⟩ J J))
    refine ro T 7 (am (_,_,_,_,_,_,_) [0,0,0,0,0,4,4,0,0,0,0] ⟨oi mS,fh⟩ J J)
   rintro _ ⟨qf,lH,fv,l6,a22,n22,mj⟩ ⟨rfl,iI⟩ ba;refine cb J ba (λba=>?_) (λba=>?_)
   ·refine rc T 4 (kr (nk.R jG) [] [5,5] J Jo ba (nk.c (h:=(eO.mk dm)) · fq) (λv30 ba=>?_));rintro _ _ ⟨a24,n24,qX,lU,rfl,rfl⟩;refine fz J (ro T 3 (am (_,_,_,_,_,_,_,_,_,_) [0,0,0,0,0,0,0,0,0,0,0] ⟨oi ba,iI,lU⟩ J J))
   refine rc T 3 (am (_,_,_,_,_,_,_,_,_,_) [0,0,0,0,0,2,2,2,2,0,0] ⟨oi ba,iI,fq⟩ J J)
  rintro _ ⟨b_,lh,ei,bR,l9,n19,kF,a20,n20,nS⟩ ⟨rfl,gQ,lT⟩ Z9;refine rc T 5 (ar (_,_,_,_,_,_,_,_,_,_,_) [0,0,0,0,0,0,0,0,0,0,0] ⟨Z9,gQ,lT⟩ J J)
 refine rc T 9 (kr (nj.R jG) [] [9,9] J Jp Z9 (nj.c (h:=(eO.mk dm)) · fq) (λv31 Z9=>?_));rintro _ _ ⟨a25,n25,gV,jB,rfl,rfl⟩;refine fz J (ro T 10 (lq [0,7,8] [0,0,0,0,0] (λ(⟨xa,iK,gf,gU,iL,fw,iM,ig,a28,n28,ux,yi,n29,qY⟩:Nat×Int×Int×List Int×List dC×Int×Int×Bool×Option Addr×Nat×Hp×Option Addr×Nat×Hp)=>(fO.l1 xa goal iS eA iK gf gU iL fw iM ig=some r/\aj (Fl.int .i32) 21 gU a28 n28 ux/\aj fB 359 iL yi n29 qY,[(14,(ii fw)),(15,(ii iM)),(16,(bb ig))],[(cl fL 235 [(ii iK),(ii gf),(ll a28 gU n28)]),ux,(cl jG 357 [(ll yi iL n29)]),qY])) J J (fuel,aT,bc,cn,v31.2.2.2.l,v31.1,v31.2.1,v31.2.2.1,a17,n17,dV,a25,n25,gV) [0,0,0,0,0,2,2,2,2] ⟨Z9,fh,jB⟩ J J ?_));rintro xa ⟨iK,gf,gU,iL,fw,iM,ig,a28,n28,ux,yi,n29,qY⟩ ⟨eU,j4,qI⟩;rw[fO.l1] at eU;refine rc T 6 (cb J eU (λeU=>?_) (λeU=>?_))
 ·refine rc T 2 (mq eU [0,7,8] [0,0,0,0,0] (λz51 (⟨HK,HM,EJ,C7,Bp,n30,qZ,a31,n31,Bh⟩:Int×Int×List Int×List dC×Option Addr×Nat×Hp×Option Addr×Nat×Hp)=>((HK,HM,EJ,C7)=z51/\aj (Fl.int .i32) 21 EJ Bp n30 qZ/\aj fB 359 C7 a31 n31 Bh,[],[(cl fL 235 [(ii HK),(ii HM),(ll Bp EJ n30)]),qZ,(cl jG 357 [(ll a31 C7 n31)]),Bh])) J J (λz51 r_ _=>?_) ?_)
  ·refine rc T 8 (lf T 5 J (ro T 1 ?_));obtain⟨zU,r_⟩:=az r_;obtain⟨q32,o32,Q2⟩:=j4.r.addr zU.1 zU.2;refine ix T J Q2 zU (le T 0 (oO j4 6) Q2 zU J J (ro T 4 (cd J r_ (λr_=>?_) (λr_=>?_))))
   ·refine rc T 4 (am (_,_,_,_,_,_,_,_,_,_) [0,0,0,0,0,0,0,0,0] ⟨oi r_,j4,qI⟩ J J)
   refine rc T 7 (lf T 1 J (ro T 1 (kr gO.R [3,3] [3,3] J acG r_ (gO.c · xD ou) (λrT r_=>?_))));rintro _ _ ⟨a33,n33,Ih,vL,rfl,rfl⟩;refine fz J (ro T 5 (lq [0,7,8,14,104,105] [0,0,0,5,5,4] (λ(⟨Gr,C8,C9,Be,zB,qU,zO,n36,zI,a37,n37,EN⟩:Nat×Int×Int×List Int×List dC×Int×Option Addr×Nat×Hp×Option Addr×Nat×Hp)=>(fO.l2 Gr goal fw rT C8 C9 Be zB qU=some z51/\aj (Fl.int .i32) 21 Be zO n36 zI/\aj fB 359 zB a37 n37 EN,[(106,(ii qU))],[(cl fL 235 [(ii C8),(ii C9),(ll zO Be n36)]),zI,(cl jG 357 [(ll a37 zB n37)]),EN])) J J (fuel,iK,gf,gU,iL,0,a28,n28,ux,yi,n29,qY) [0,0,0,5,5,4,0,0,0,0] ⟨r_,j4,qI⟩ J J ?_));rintro Gr ⟨C8,C9,Be,zB,qU,zO,n36,zI,a37,n37,EN⟩ ⟨gJ,CH,CI⟩;rw[fO.l2] at gJ;refine rc T 6 (cd J gJ (λgJ=>?_) (λgJ=>?_))
   ·refine rc T 6 ?_;obtain⟨IP,gJ⟩:=az gJ;obtain⟨q38,U0,Q3⟩:=vL.r.addr IP.1 IP.2;refine ix T J Q3 IP (bp J (fm T (cs:=[(ii (rd rT qU).To),(ii (rd rT qU).kE)]) J J J J J J (gB (k:=pa) (oO vL 5) Q3 IP J)) (nc T J (λb39=>sg T 10 J (ro T 6 (lf T 10 J (ro T 2 (lf T 10 J (ro T 1 (kr (sX.R fL) [] [6,6] J SI gJ (sX.c (ag:=(ie.mk C8 C9 Be)) · CH) (λv64 gJ=>?_))))))))));rintro _ _ ⟨a40,n40,La,El,rfl,rfl⟩;refine fz J (ro T 2 (cb J gJ (λgJ=>?_) (λgJ=>?_)))
    ·refine rc T 4 (lf T 8 J (ro T 2 (lf T 8 J (kr (nk.R jG) [] [6,6] J Jo gJ (nk.c (h:=(eO.mk zB)) · CI) (λWZ gJ=>?_)))));rintro _ _ ⟨a41,n41,EO,zk,rfl,rfl⟩;refine fz J (ro T 1 (ke [0,7,8,14,104,105,106] [0,0,0,0,0,0,1,1,1,1] J J (rx T 7 (ar (_,_,_,_,_,_,_,_,_,_,_) [0,0,0,0,0,0,0,0,0,0] ⟨gJ,El,zk⟩ J J))))
    refine rc T 8 (ar (_,_,_,_,_,_,_,_,_,_,_) [0,0,0,0,0,0,3,3,0,0] ⟨gJ,El,CI⟩ J J)
   refine rc T 6 (am (_,_,_,_,_,_,_,_,_,_) [0,0,0,0,0,1,1,1,1] ⟨oi gJ,CH,CI⟩ J J)
  rintro _ ⟨HK,HM,EJ,C7,Bp,n30,qZ,a31,n31,Bh⟩ ⟨rfl,pn,zi⟩ eU;refine rc T 2 (kr (nj.R jG) [] [7,7] J Jp eU (nj.c (h:=(eO.mk C7)) · zi) (λv66 eU=>?_));rintro _ _ ⟨a42,n42,ln,OP,rfl,rfl⟩;refine fz J (ro T 9 (ar (_,_,_,_,_,_,_,_,_,_,_,_,_) [0,0,0,0,0,0,0,0,0] ⟨eU,pn,OP⟩ J J))
 refine rc T 12 ?_
 cases eU;refine cV [1,1] J ju (p1 T J [3,3,5,1,1,0] ⟨_,_,⟨fL,a28,n28,ux,j4,J,J⟩,J,J⟩ J)
def xA.f (ag:jN) (goal:Int) (iS:dz) (eA:bt):Option ((Option ie)×jN×dz):=(je.f eA goal).bind λv1=>if(v1==0)=true then(some (none,ag,iS)) else((nt.f iS eA).bind λv2=>(c_ ag.kept (some true) (λx5=>if(x5.goal !=goal)=true then(some true) else((oS.f eA).bind λv6=>some (x5.bL !=v6)))).bind λx3=>if x3=true then((fO.f ag goal v2.2 eA).bind λv7=>c_ v7 (none) (λqW=>(rR.f ag.count 1).bind λv8=>some ((some qW),(jN.mk (some qW) v8),v2.2))) else(c_ ag.kept (some (none,ag,v2.2)) (λx9=>some ((some x9),ag,v2.2))))
def xA.R (na:Nat) (N0:Nat) (N1:Nat) (aaa:Nat) (afg:Nat) (r:((Option ie)×jN×dz)) (u:Value) (G:List Hp):Prop:= ∃(u0:Value) (H1:Hp) (H2:Hp),XB r.1 r.2.1 na N0 N1 u0 H1/\l7 r.2.2 aaa afg H2/\u=u0/\G=[H1,H2]
theorem xA.c (H:xA.f ag goal iS eA=some r) (cE:rZ ag aV kN iP cX) (xD:l7 iS kN iP mP) (ou:iq eA iP lr):
 QR 143 [(pp aV),(ii goal)] [cX,mP,lr] [lr] F (xA.R aV kN iP kN iP r):=by
 unfold xA.f at H;refine aB Tryz.func143 J J (λW=>rc T 7 ?_);obtain⟨zw,H7,s7,ju⟩:=(λx=>x) cE;refine bz 0 (congrArg some ju) (fz J (rc T 7 (lf T 3 J (ro T 1 (k [1] J u9 H (je.c · ou) (λv1 H=>ro T 4 (cb J H (λH=>?_) (λH=>?_))))))))
 ·refine rc T 7 ?_
  cases H;refine cV [3,3] J ju (p1 T J [3,0,0,0] ⟨_,cX,mP,⟨J,cE⟩,xD,J,J⟩ J)
 refine rc T 7 (lf T 3 J (kr (nt.R kN iP) [1] [0,0] J ack H (nt.c · xD ou) (λv2 H=>?_)));rintro _ _ ⟨H8,s8,rfl,rfl⟩;refine fz J (ro T 3 (mq H [0,1] [0,0,0,0,0] (λz4 (x3:Bool)=>(x3=z4,[(51,(bb x3))],[])) J J (λz4 Z4 _=>?_) ?_))
 ·rcases q5:ag.kept with _ |x5
  ·replace Z4:=eJ q5 Z4;rw[q5] at s7;obtain⟨rfl,rfl⟩:=s7;refine dj mix ay (au T J (au T J (au T J (aN J J J (aw T J J J J (aD (j:=1) J J)) ?_))))
   iterate 27 refine au T J ?_
   refine cR (rx T 1 (am _ [0,0,0,0,0] (oi Z4) J J))
  replace Z4:=eK q5 Z4;rw[q5] at s7;obtain⟨fL,dt,n11,cA,cS,rfl,MI⟩:=s7;refine bz 2 (congrArg some MI) (fz J (dj mix ay (au T J (au T J (au T J (aN J J J (aw T J J J J (aD (j:=1) J J)) ?_))))))
  iterate 5 refine au T J ?_
  refine aN J J J (aw T J J J J (aD (j:=1) J J)) (au T J (au T J (aN J J J (aw T J J J J (aD (j:=4) J J)) ?_)))
  iterate 4 refine au T J ?_
  refine qb 37 J Z4 (λZ4=>?_) (λZ4=>?_)
  ·iterate 14 refine au T J ?_
   refine cR (rx T 1 (cV [4,4] J MI (am _ [0,0,2,0,0] (oi Z4) J J)))
  refine au T J (au T J (au T J (aN J J J (aw T J J J J (aD (j:=1) J J)) (au T J (au T J (aN J J J (aw T J J J J (aD (j:=4) J J)) (au T J (au T J (au T J (aN J J J (aw T J J J J (aD (j:=1) J J)) ?_))))))))));obtain⟨v6,V7,Z4⟩:=fY Z4;refine wC [3] J J J J J J BQ J (oS.c V7 ou) (au T J (au T J (cR (rx T 1 (cV [4,4] J MI (am _ [0,0,2,0,0] (oi Z4) J J))))))
 rintro _ x3 rfl H;refine cb J H (λH=>?_) (λH=>?_)
 ·refine rc T 5 ?_;obtain⟨v7,V9,H⟩:=fY H;refine aW (Fc (As:=[(cl aV 233 [(pp kN),(pp iP),zw,(uu ag.count)]),H7,H8,lr]) (fO.R v7) [(cl aV 233 [(pp kN),(pp iP),zw,(uu ag.count)]),H7,H8,lr] [1,1,1,1] J J J J acm J J (IV (A:=[cX,H8,lr]) (A2:=[cX,H8,lr]) (by simp only[ju,List.flatten_cons,List.flatten_append,List.flatten_nil,List.append_nil,List.append_assoc]) (by simp only[ju,List.flatten_cons,List.flatten_append,List.flatten_nil,List.append_nil,List.append_assoc]) (fO.c V9 cE s8 ou)) ?_)
  rintro _ _ ⟨_,_,Lc,rfl,rfl⟩;rcases v7 with _ |qW
  ·replace H:=eJ J H
   cases H
  replace H:=eK J H;obtain⟨ki,dy,n13,eo,dh,rfl,rfl⟩:=Lc;refine ro T 2 (sg T 3 J (ro T 7 (lf T 3 J (k [] J Jj H (rR.c ·) (λv8 H=>ro T 2 (sg T 3 J (ro T 7 (lf T 3 J (ro T 4 ?_)))))))))
  cases H;refine gj [1,1] J (gj [1,4] J (p1 T J [4,2,2,0] ⟨_,(List.flatten [(cl aV 233 [(pp kN),(pp iP),(pp ki),(uu v8)]),(List.flatten [(cl ki 235 [(ii qW.goal),(ii qW.bL),(ll dy qW.aQ n13)]),eo])]),H8,⟨J,ki,dy,n13,eo,dh,J,J⟩,s8,J,J⟩ J))
 refine rc T 3 ?_;rcases vC:ag.kept with _ |x9
 ·replace H:=eJ vC H;rw[vC] at s7;obtain⟨rfl,rfl⟩:=s7;refine rc T 4 (lf T 1 J (ro T 4 ?_))
  cases H;refine cV [1,1] J ju (p1 T J [3,1,1,0] ⟨_,cX,H8,⟨J,cE⟩,s8,J,J⟩ J)
 replace H:=eK vC H;rw[vC] at s7;obtain⟨pF,a17,n17,dV,fh,rfl,DF⟩:=s7;refine bz 2 (congrArg some DF) (fz J (rc T 4 (lf T 1 J (ro T 4 ?_))))
 cases H;refine cV [4,4] J DF (cV [1,3] J ju (p1 T J [3,1,1,0] ⟨_,cX,H8,⟨vC,pF,a17,n17,dV,fh,J,(by rw[ju,DF])⟩,s8,J,J⟩ J))
def G7.f (ag:ie):Option Int:=some ag.bL
theorem G7.c (H:G7.f ag=some r) (vQ:aj (Fl.int .i32) 21 ag.aQ wz xi zK):
 QU 174 [(pp aV)] [(cl aV 235 [(ii ag.goal),(ii ag.bL),(ll wz ag.aQ xi)]),zK] F (ii r):=by
 unfold G7.f at H;refine aB Tryz.func174 J J (λW=>rc T 12 (dW J (rc T 7 (lf T 0 J (ro T 4 ?_)))))
 cases H;exact p0 T J [0,0,0] J
def CE.f (ag:ie) (cell:Int):Option Int:=(if cell<0 then(some true) else(if cell≥(List.length ag.aQ:Int) then(some true) else(if(0<=cell/\cell<(List.length ag.aQ:Int)) then(some ((rd ag.aQ cell)==2147483647)) else none))).bind λx1=>if x1=true then(some 1099511627776) else(if(0<=cell/\cell<(List.length ag.aQ:Int)) then(some (aa (rd ag.aQ cell))) else none)
theorem CE.c (H:CE.f ag cell=some r) (vQ:aj (Fl.int .i32) 21 ag.aQ wz xi zK):
 QU 177 [(pp aV),(ii cell)] [(cl aV 235 [(ii ag.goal),(ii ag.bL),(ll wz ag.aQ xi)]),zK] F (ii r):=by
 unfold CE.f at H;refine aB Tryz.func177 J J (λW=>rc T 6 (mq H [0,1] [2,0,0] (λz2 (x1:Bool)=>(x1=z2,[(29,(bb x1))],[])) J J (λz2 Z1 _=>?_) ?_))
 ·refine rc T 8 (ad 11 J Z1 (λZ1=>?_) (λZ1=>?_))
  ·refine ro T 20 (am _ [2,0,0] (oi Z1) J J)
  refine ro T 4 (lf T 0 J (ro T 4 (ad 20 J Z1 (λZ1=>?_) (λZ1=>?_))))
  ·refine ro T 11 (am _ [2,0,0] (oi Z1) J J)
  refine ro T 3 (lf T 0 J (ro T 1 ?_));obtain⟨c4,Z1⟩:=az Z1;obtain⟨q3,o3,e3⟩:=vQ.r.addr c4.1 c4.2;refine ix T J e3 c4 (le T 0 (oO vQ 1) e3 c4 J J (ro T 4 (am _ [2,0,0] (oi Z1) J J)))
 rintro _ x1 rfl H;refine cb J H (λH=>?_) (λH=>?_)
 ·refine rc T 7 ?_
  cases H;exact p0 T J [1,1,0] J
 refine rc T 7 (lf T 1 J (ro T 1 ?_));obtain⟨c6,H⟩:=az H;obtain⟨q4,o4,e4⟩:=vQ.r.addr c6.1 c6.2;refine ix T J e4 c6 (le T 0 (oO vQ 2) e4 c6 J J (ro T 5 ?_))
 cases H;exact p0 T J [1,1,0] J
def G8.f (ag:ie):Option Int:=some ag.goal
theorem G8.c (H:G8.f ag=some r) (vQ:aj (Fl.int .i32) 21 ag.aQ wz xi zK):
 QU 179 [(pp aV)] [(cl aV 235 [(ii ag.goal),(ii ag.bL),(ll wz ag.aQ xi)]),zK] F (ii r):=by
 unfold G8.f at H;refine aB Tryz.func179 J J (λW=>rc T 12 (dW J (rc T 7 (lf T 0 J (ro T 4 ?_)))))
 cases H;exact p0 T J [0,0,0] J
def G6.f:Option (Int×Int×Bool):=some (0,0,false)
theorem G6.c (H:G6.f=some r):
 QU 102 [(.pointer none)] [] F (.tuple #[(ii r.1),(ii r.2.1),(bb r.2.2)]):=by
 unfold G6.f at H;refine aB Tryz.func102 J J (λW=>rc T 21 (mW J (rc T 9 ?_)))
 cases H;exact p0 T J [0] J
def CD.f (ag:jN) (iS:dz) (eA:bt):Option (Int×Int×Bool):=(c_ ag.kept (some true) (λx3=>some false)).bind λx1=>if x1=true then(some (0,0,false)) else(c_ ag.kept (none) (λx4=>some (x4.goal,x4.bL,true)))
theorem CD.c (H:CD.f ag iS eA=some r) (cE:rZ ag aV kN iP cX) (xD:l7 iS kN iP mP) (ou:iq eA iP lr):
 QU 102 [(pp aV)] [cX,mP,lr] F (.tuple #[(ii r.1),(ii r.2.1),(bb r.2.2)]):=by
 unfold CD.f at H;refine aB Tryz.func102 J J (λW=>rc T 8 (mq H [0] [3,0,0,0] (λz2 (x1:Bool)=>(x1=z2,[(13,(bb x1))],[])) J J (λz2 Z1 _=>?_) ?_))
 ·obtain⟨zw,H7,s7,ju⟩:=(λx=>x) cE;refine bz 0 (congrArg some ju) (fz J ?_);rcases q2:ag.kept with _ |x3
  ·replace Z1:=eJ q2 Z1;rw[q2] at s7;obtain⟨rfl,rfl⟩:=s7;refine rc T 7 (lf T 3 J (ro T 4 (cV [3,3] J ju (am _ [2,2,0,0] (oi Z1) J J))))
  replace Z1:=eK q2 Z1;rw[q2] at s7;obtain⟨b9,cw,n10,bV,bS,rfl,FH⟩:=s7;refine bz 4 (congrArg some FH) (fz J (rc T 7 (lf T 3 J (ro T 4 (cV [4,4] J FH (cV [3,3] J ju (am _ [2,2,0,0] (oi Z1) J J)))))))
 rintro _ x1 rfl H;refine cb J H (λH=>?_) (λH=>?_)
 ·refine rc T 9 ?_
  cases H;exact p0 T J [1,1,1,0] J
 refine rc T 3 ?_;obtain⟨ajN,fx,dO,RU⟩:=(λx=>x) cE;refine bz 1 (congrArg some RU) (fz J ?_);rcases q4:ag.kept with _ |x4
 ·replace H:=eJ q4 H;rw[q4] at dO;obtain⟨rfl,rfl⟩:=dO;refine dj mix ay (au T J (au T J (au T J (aN J J J (aw T J J J J (aD (j:=3) J J)) ?_))))
  cases H
 replace H:=eK q4 H;rw[q4] at dO;obtain⟨pF,a17,n17,dV,fh,rfl,DF⟩:=dO;refine bz 4 (congrArg some DF) (fz J (dj mix ay (au T J (au T J (au T J (aN J J J (aw T J J J J (aD (j:=3) J J)) (au T J (au T J (aN J J J (aw T J J J J (aD (j:=4) J J)) (au T J (au T J (au T J (aN J J J (aw T J J J J (aD (j:=3) J J)) (au T J (au T J (aN J J J (aw T J J J J (aD (j:=4) J J)) (au T J (au T J (au T J (cR (rx T 2 ?_)))))))))))))))))))))
 cases H;refine cV [4,4] J DF (cV [3,3] J RU (p0 T J [3,1,1,0] J))
end
noncomputable section
def Aw.f (g:bt) (bB:Int):Option (List aZ):=(iE.f g).bind λv1=>some []
def Aw.R (r:(List aZ)) (u:Value) (G:List Hp):Prop:= ∃(a0:Option Addr) (n0:Nat) (H0:Hp),aj cI 285 r a0 n0 H0/\u=(ll a0 r n0)/\G=[H0]
theorem Aw.c (H:Aw.f g bB=some r) (fC:iq g eX fW):
 QR 142 [(pp eX),(.pointer none),(ii bB)] [fW] [fW] F (Aw.R r):=by
 unfold Aw.f at H;refine aB Tryz.func142 J J (λW=>rc T 8 (k [0] J tP H (iE.c · fC) (λv1 H=>ro T 21 (mW J (rc T 7 ?_)))))
 cases H;refine br (p1 T J [2,0,0] ⟨none,0,[],aj.nil,J,J⟩ J)
def iQ.l1:Nat->ie->(Int×Int)->(List Int)->Int->(List dR)->List aZ->Int->Option (List aZ)
 |0,_,_,_,_,_,_,_=>none
 |Gp+1,ai,v1,v4,x8,v12,cn,dm=>if dm<(List.length v12:Int) then(if(0<=dm/\dm<(List.length v12:Int)) then((CE.f ai ((rd v12 dm).To)).bind λfF=>if(fF !=1099511627776)=true then((qR.f v1.1 v1.2 (rd v4 x8)).bind λnO=>(qe.f v1.1 v1.2 (rd v4 x8) ((rd v12 dm).To)).bind λv20=>if(List.length cn+1<=1099511627776) then(iQ.l1 Gp ai v1 v4 x8 v12 (cn++[(aZ.mk nO v20 (aa ((rd v12 dm).kE+fF)))]) (aa (dm+1))) else none) else(iQ.l1 Gp ai v1 v4 x8 v12 cn (aa (dm+1)))) else none) else(some cn)
def iQ.l0:Nat->bt->ie->Int->(Int×Int)->(List Int)->List aZ->Int->Option (List aZ)
 |0,_,_,_,_,_,_,_=>none
 |k9+1,g,ai,bB,v1,v4,x7,x8=>if x8<(List.length v4:Int) then((if(0<=x8/\x8<(List.length v4:Int)) then((mY.f g (rd v4 x8)).bind λv12=>iQ.l1 fuel ai v1 v4 x8 v12 x7 0) else none).bind λaM=>iQ.l0 k9 g ai bB v1 v4 aM (aa (x8+1))) else((G8.f ai).bind λv21=>((gD.f v1.1 v1.2 v21).bind λv24=>if(v24==bB)=true then((je.f g v21).bind λv25=>some (v25 !=255)) else(some false)).bind λbR=>if bR=true then((qR.f v1.1 v1.2 v21).bind λv26=>if(List.length x7+1<=1099511627776) then((mJ.f (x7++[(aZ.mk v26 4 0)])).bind λPl=>some Pl) else none) else((mJ.f x7).bind λv28=>some v28))
def iQ.f (g:bt) (ai:ie) (bB:Int):Option (List aZ):=(iE.f g).bind λv1=>(G7.f ai).bind λv2=>(oS.f g).bind λv3=>if(v2 !=v3)=true then(some []) else((jW.f g bB).bind λv4=>iQ.l0 fuel g ai bB v1 v4 [] 0)
def iQ.R (r:(List aZ)) (u:Value) (G:List Hp):Prop:= ∃(a0:Option Addr) (n0:Nat) (H0:Hp),aj cI 285 r a0 n0 H0/\u=(ll a0 r n0)/\G=[H0]
theorem iQ.c (H:iQ.f g ai bB=some r) (fC:iq g eX fW) (OT:aj (Fl.int .i32) 21 ai.aQ PL UL PA):
 QR 142 [(pp eX),(pp tG),(ii bB)] [fW,(cl tG 235 [(ii ai.goal),(ii ai.bL),(ll PL ai.aQ UL)]),PA] [fW,(cl tG 235 [(ii ai.goal),(ii ai.bL),(ll PL ai.aQ UL)]),PA] F (iQ.R r):=by
 unfold iQ.f at H;refine aB Tryz.func142 J J (λW=>rc T 8 (k [0] J tP H (iE.c · fC) (λv1 H=>ro T 14 (k [1,1] J ace H (G7.c · OT) (λv2 H=>ro T 1 (k [0] J BQ H (oS.c · fC) (λv3 H=>ro T 4 (cb J H (λH=>?_) (λH=>?_)))))))))
 ·refine rc T 7 ?_
  cases H;refine br (p1 T J [4,0,0,0,0] ⟨none,0,[],aj.nil,J,J⟩ J)
 refine rc T 12 (kr jW.R [0] [0] J Jm H (jW.c · fC) (λv4 H=>?_));rintro _ _ ⟨a5,n5,H5,s5,rfl,rfl⟩;refine fz J (ro T 5 (br (lq [0,1,2,7,8,32,33] [2,3,0,0,0] (λ(⟨k9,x7,x8,a7,n7,H7⟩:Nat×List aZ×Int×Option Addr×Nat×Hp)=>(iQ.l0 k9 g ai bB v1 v4 x7 x8=some r/\aj cI 285 x7 a7 n7 H7,[(9,(ll a7 x7 n7)),(34,(ii x8))],[H7])) J J (fuel,[],0,none,0,[]) [2,3,0,0,0,0] ⟨H,aj.nil⟩ J J ?_)));rintro k9 ⟨x7,x8,a7,n7,H7⟩ ⟨Z6,s7⟩;rw[iQ.l0] at Z6;refine rc T 6 (cd J Z6 (λZ6=>?_) (λZ6=>?_))
 ·refine rc T 2 (mq Z6 [0,1,2,7,8,32,33,34] [0,0,0,0,0] (λiW (⟨aM,a8,n8,H8⟩:List aZ×Option Addr×Nat×Hp)=>(aM=iW/\aj cI 285 aM a8 n8 H8,[(9,(ll a8 aM n8))],[H8])) J J (λiW Z8 _=>?_) ?_)
  ·refine rc T 3 ?_;obtain⟨c9,Z8⟩:=az Z8;obtain⟨q9,o9,e9⟩:=s5.r.addr c9.1 c9.2;refine ix T J e9 c9 (le T 0 (oO s5 4) e9 c9 J J (ro T 7 (kr mY.R [1] [1] J acf Z8 (mY.c · fC) (λv12 Z8=>?_))));rintro _ _ ⟨cw,n10,bV,bS,rfl,rfl⟩;refine fz J (ro T 5 (lq [0,1,2,7,8,11,32,33,34,40,41] [0,5,0,0,0,1] (λ(⟨Gp,cn,dm,a12,n12,dw⟩:Nat×List aZ×Int×Option Addr×Nat×Hp)=>(iQ.l1 Gp ai v1 v4 x8 v12 cn dm=some iW/\aj cI 285 cn a12 n12 dw,[(9,(ll a12 cn n12)),(42,(ii dm))],[dw])) J J (fuel,x7,0,a7,n7,H7) [0,5,0,0,0,1,0] ⟨Z8,s7⟩ J J ?_));rintro Gp ⟨cn,dm,a12,n12,dw⟩ ⟨ba,dD⟩;rw[iQ.l1] at ba;refine rc T 6 (cd J ba (λba=>?_) (λba=>?_))
   ·refine rc T 6 ?_;obtain⟨ja,ba⟩:=az ba;obtain⟨Vn,UW,wK⟩:=bS.r.addr ja.1 ja.2;refine ix T J wK ja (bp J (fm T (cs:=[(ii (rd v12 dm).To),(ii (rd v12 dm).kE)]) J J J J J J (gB (k:=pa) (oO bS 5) wK ja J)) (nc T J (λIK=>sg T 7 J (ro T 6 (lf T 7 J (k [2,2] J acg ba (CE.c · OT) (λfF ba=>ro T 9 (cb J ba (λba=>?_) (λba=>?_)))))))))
    ·refine ks [0,1,2,7,8,9,11,13,14,32,33,34,40,41,42] J (fz J (rg [17] [0,0,0,0,0,0,0,0] mix (bO bN) (λhg pf=>ha T 11 [0,1,2,3,5,6,7,8] sz hg pf J (av 9 sz hg pf J (aw T J J J J (aD (j:=7) J J)) (ha T 9 [11] sz hg pf J (av 12 sz hg pf J (aw T J J J J (aD (j:=7) J J)) (ha T 6 [13,14] sz hg pf J (ao 4 (kh [] J FN ba (qR.c ·) (λnO ba=>an sz (ao 10 (kh [] J ach ba (qe.c ·) (λv20 ba=>an sz (ha T 3 [15] sz hg pf J (ao 16 (cU (k:=cI) T [(aZ.mk nO v20 (aa ((rd v12 dm).kE+fF)))] J J J J J J J J J (λjT dF dK=>an (so [0,0,0,0,0,0,0,0]) (ao 17 ?_))))))))))))))))));obtain⟨lz,ba⟩:=az ba;refine dM (k:=cI) (xs:=cn) T (g:=6) J J J J J J J J J J dD (oO dK 8) lz J (λjU n16 fV fP=>an sl (hb T 18 sl hg pf J (ae (rx T 7 (ar (_,_,_,_,_) [0,0,0,0,0,0,0] ⟨ba,fP⟩ J J)))))
    refine rc T 8 (ar (_,_,_,_,_) [0,0,0,0,0,0,0] ⟨ba,dD⟩ J J)
   refine rc T 6 (am (_,_,_,_) [0,0,0,0,0,1] ⟨oi ba,dD⟩ J J)
  rintro _ ⟨aM,a8,n8,H8⟩ ⟨rfl,s8⟩ Z6;refine rc T 5 (ar (_,_,_,_,_) [0,0,0,0,0,0] ⟨Z6,s8⟩ J J)
 refine rc T 9 (k [2,2] J aci Z6 (G8.c · OT) (λv21 Z6=>ro T 3 (mq Z6 [7,8,9,15] [0,4,0,0,0] (λz23 (bR:Bool)=>(bR=z23,[(85,(bb bR))],[])) J J (λz23 yh _=>?_) ?_)))
 ·refine rc T 4 (k [] J rC yh (gD.c ·) (λv24 yh=>ro T 3 (ab 80 J yh (λyh=>?_) (λyh=>?_))))
  ·refine ro T 2 (k [1] J u9 yh (je.c · fC) (λv25 yh=>ro T 4 (am _ [0,4,0,0,0] (oi yh) J J)))
  refine ro T 7 (am _ [0,4,0,0,0] (oi yh) J J)
 rintro _ bR rfl Z6;refine cb J Z6 (λZ6=>?_) (λZ6=>?_)
 ·refine rc T 5 (k [] J FN Z6 (qR.c ·) (λv26 Z6=>ro T 1 (aW (cU (k:=cI) T [(aZ.mk v26 4 0)] J J J J J J J J J (λa17 dV fh=>?_)))));obtain⟨pH,Z6⟩:=az Z6;refine aW (dM (k:=cI) (xs:=x7) T (g:=1) J J J J J J J J J J s7 (oO fh 5) pH J (λiY n18 fb fq=>ro T 6 (kr mJ.R [] [] J FP Z6 (mJ.c (l:=(x7++[(aZ.mk v26 4 0)])) · (oO fq 1) fq.bW) (λPl Z6=>?_))));rintro _ _ ⟨l9,n19,kF,gQ,rfl,rfl⟩;refine fz J (ro T 4 ?_)
  cases Z6;exact p1 T J [6,2,2,2,0] ⟨l9,n19,kF,gQ,J,J⟩ J
 refine rc T 5 (kr mJ.R [] [] J FP Z6 (mJ.c · (oO s7 1) s7.bW) (λv28 Z6=>?_));rintro _ _ ⟨a20,n20,nS,lT,rfl,rfl⟩;refine fz J (ro T 4 ?_)
 cases Z6;exact p1 T J [5,2,2,2,0] ⟨a20,n20,nS,lT,J,J⟩ J
end
noncomputable section
def yV.f (l:fg):Option fg:=some (fg.mk l.k [] ([]:(List ((Int×Int)×Int))) (-1) (-1))
def yV.R (fM:Nat) (r:fg) (u:Value) (G:List Hp):Prop:= ∃(a0:Option Addr) (n0:Nat) (H0:Hp) (a1:Nat) (H1:Hp),aj jI 278 r.ak a0 n0 H0/\cP (Ky.pair T .i64 J J J lb u3) (λx:Int=>Value.int .i64 x) r.ft a1 H1/\u=(.tuple #[])/\G=[(cl fM 238 [(ii r.k),(ll a0 r.ak n0),(.map (some a1)),(ii r.cy),(ii r.cZ)]),H0,H1]
theorem yV.c (H:yV.f l=some r) (pr:aj jI 278 l.ak kH kS tz):
 QR 145 [(pp fM)] [(cl fM 238 [(ii l.k),(ll kH l.ak kS),(.map none),(ii l.cy),(ii l.cZ)]),tz] [] F (yV.R fM r):=by
 unfold yV.f at H;refine aB Tryz.func145 J J (λW=>rc T 6 (mW J (rc T 5 (aW (uJ T (Ky.pair T .i64 J J J lb u3) (λx:Int=>Value.int .i64 x) J J J trivial (λa3 H3 s3=>ro T 2 (sg T 0 J (ro T 2 (sg T 0 J (ro T 2 (sg T 0 J (ro T 2 (sg T 0 J (ro T 1 (i_ ?_)))))))))))))))
 cases H;refine br (p1 T J [0,3,2,1] ⟨none,0,[],a3,H3,aj.nil,s3,J,J⟩ J)
def xe.f (ag:Int):Option (Option fg):=if ag<1 then(some none) else((yV.f (fg.mk ag ([]:List bm) [] 0 0)).bind λv1=>some (some v1))
def xe.R (r:(Option fg)) (u:Value) (G:List Hp):Prop:= ∃(u0:Value) (G0:List Hp),Xs r u0 G0/\u=u0/\G=G0
theorem xe.c (H:xe.f ag=some r):
 QR 105 [(ii ag)] [] [] F (xe.R r):=by
 unfold xe.f at H;refine aB Tryz.func105 J J (λW=>rc T 12 (cd J H (λH=>?_) (λH=>?_)))
 ·refine rc T 7 ?_
  cases H;exact p1 T J [0] ⟨_,_,⟨J,J⟩,J,J⟩ J
 refine rc T 6 (nc T J (λb1=>ro T 6 (br (kr (yV.R b1) [] [1,1] J Sl H (yV.c (l:=(fg.mk ag ([]:List bm) [] 0 0)) · (aj.nil (k:=jI) (E:=278))) (λv1 H=>?_)))));rintro _ _ ⟨a3,n3,H3,a4,H4,s3,s4,rfl,rfl⟩;refine fz J (ro T 9 ?_)
 cases H;exact p1 T J [1,1,1,0] ⟨_,_,⟨b1,a3,n3,H3,a4,H4,s3,s4,J,J⟩,J,J⟩ J
def yW.f (l:fg):Option fg:=some (fg.mk l.k [] ([]:(List ((Int×Int)×Int))) (-1) (-1))
def yW.R (fM:Nat) (r:fg) (u:Value) (G:List Hp):Prop:= ∃(a0:Option Addr) (n0:Nat) (H0:Hp) (a1:Nat) (H1:Hp),aj jI 278 r.ak a0 n0 H0/\cP (Ky.pair T .i64 J J J lb u3) (λx:Int=>Value.int .i64 x) r.ft a1 H1/\u=(.tuple #[])/\G=[(cl fM 238 [(ii r.k),(ll a0 r.ak n0),(.map (some a1)),(ii r.cy),(ii r.cZ)]),H0,H1]
theorem yW.c (H:yW.f l=some r) (pr:aj jI 278 l.ak kH kS tz) (um:cP (Ky.pair T .i64 J J J lb u3) (λx:Int=>Value.int .i64 x) l.ft mm ra):
 QR 145 [(pp fM)] [(cl fM 238 [(ii l.k),(ll kH l.ak kS),(.map (some mm)),(ii l.cy),(ii l.cZ)]),tz,ra] [] F (yW.R fM r):=by
 unfold yW.f at H;refine aB Tryz.func145 J J (λW=>rc T 6 (mW J (rc T 5 (aW (uJ T (Ky.pair T .i64 J J J lb u3) (λx:Int=>Value.int .i64 x) J J J trivial (λa4 H4 s4=>ro T 2 (sg T 0 J (ro T 2 (sg T 0 J (ro T 2 (sg T 0 J (ro T 2 (sg T 0 J (ro T 1 (i_ ?_)))))))))))))))
 cases H;refine br (p1 T J [0,4,3,2] ⟨none,0,[],a4,H4,aj.nil,s4,J,J⟩ J)
def sI.f (l:fg) (ai:Int):Option fg:=if(0<=ai/\ai<(List.length l.ak:Int)) then((if((rd l.ak ai).cJ==(-1))=true then(some (l.ak,(rd l.ak ai).aY)) else(if(0<=(rd l.ak ai).cJ/\(rd l.ak ai).cJ<(List.length l.ak:Int)) then(some ((List.set l.ak (Int.toNat ((rd l.ak ai).cJ)) (bm.mk ((rd l.ak ((rd l.ak ai).cJ)).key) ((rd l.ak ((rd l.ak ai).cJ)).cJ) ((rd l.ak ai).aY))),l.cy)) else none)).bind λ(x1,x2)=>if((rd l.ak ai).aY==(-1))=true then(some (fg.mk l.k x1 l.ft x2 ((rd l.ak ai).cJ))) else(if(0<=(rd l.ak ai).aY/\(rd l.ak ai).aY<(List.length x1:Int)) then(some (fg.mk l.k (List.set x1 (Int.toNat ((rd l.ak ai).aY)) (bm.mk ((rd x1 ((rd l.ak ai).aY)).key) ((rd l.ak ai).cJ) ((rd x1 ((rd l.ak ai).aY)).aY))) l.ft x2 l.cZ)) else none)) else none
def sI.R (fM:Nat) (r:fg) (u:Value) (G:List Hp):Prop:= ∃(a0:Option Addr) (n0:Nat) (H0:Hp) (a1:Nat) (H1:Hp),aj jI 278 r.ak a0 n0 H0/\cP (Ky.pair T .i64 J J J lb u3) (λx:Int=>Value.int .i64 x) r.ft a1 H1/\u=(.tuple #[])/\G=[(cl fM 238 [(ii r.k),(ll a0 r.ak n0),(.map (some a1)),(ii r.cy),(ii r.cZ)]),H0,H1]
theorem sI.c (H:sI.f l ai=some r) (pr:aj jI 278 l.ak kH kS tz) (um:cP (Ky.pair T .i64 J J J lb u3) (λx:Int=>Value.int .i64 x) l.ft mm ra):
 QR 224 [(pp fM),(ii ai)] [(cl fM 238 [(ii l.k),(ll kH l.ak kS),(.map (some mm)),(ii l.cy),(ii l.cZ)]),tz,ra] [] F (sI.R fM r):=by
 unfold sI.f at H;refine aB Tryz.func224 J J (λW=>rc T 5 (lf T 0 J (ro T 1 ?_)));obtain⟨c1,H⟩:=az H;obtain⟨q4,o4,e4⟩:=pr.r.addr c1.1 c1.2;refine ix T J e4 c1 (bp J (fm T (cs:=[(ii (rd l.ak ai).key.1),(ii (rd l.ak ai).key.2),(ii (rd l.ak ai).cJ),(ii (rd l.ak ai).aY)]) J J J J J J (gB (k:=jI) (oO pr 1) e4 c1 J)) (nc T J (λb5=>sg T 4 J (ro T 2 (mq H [0,4] [3,2,2] (λz3 (⟨x1,x2,a6,n6,H6⟩:List bm×Int×Option Addr×Nat×Hp)=>((x1,x2)=z3/\aj jI 278 x1 a6 n6 H6,[],[(cl fM 238 [(ii l.k),(ll a6 x1 n6),(.map (some mm)),(ii x2),(ii l.cZ)]),H6])) J J (λz3 Z2 _=>?_) ?_)))))
 ·refine rc T 3 (lf T 4 J (ro T 3 (cb J Z2 (λZ2=>?_) (λZ2=>?_))))
  ·refine rc T 3 (lf T 4 J (ro T 2 (sg T 0 J (ro T 2 (am (_,_,_,_,_) [3,2,2,0,0] ⟨oi Z2,pr⟩ J J)))))
  refine ks [0,4] J (fz J (rz [10] mix (bO bN) (λhg pf=>ha T 8 [0,1,2] sz hg pf J (av 3 sz hg pf J (aw T J J J J (aD (j:=0) J J)) (ha T 6 [4] sz hg pf J (av 5 sz hg pf J (aw T J J J J (aD (j:=4) J J)) (ha T 4 [6] sz hg pf J (av 7 sz hg pf J (aw T J J J J (aD (j:=4) J J)) ?_))))))));obtain⟨c4,Z2⟩:=az Z2;refine av 8 sz hg pf J (cB T J J J J J e4 c4.1 c4.2) (ha T 1 [9] sz hg pf J (ao 10 (kI (k:=jI) T 1 3 (bm.mk ((rd l.ak ((rd l.ak ai).cJ)).key) ((rd l.ak ((rd l.ak ai).cJ)).cJ) ((rd l.ak ai).aY)) J J J J J J pr e4 c4 J J J (λH7 s7=>kg [0,4,20,21,22,24,25,26,27,28,29] [1,1,1,1] [1,1,1,1,0] [(23,(ll kH (List.set l.ak (Int.toNat ((rd l.ak ai).cJ)) (bm.mk ((rd l.ak ((rd l.ak ai).cJ)).key) ((rd l.ak ((rd l.ak ai).cJ)).cJ) ((rd l.ak ai).aY))) kS))] [(cl fM 238 [(ii l.k),(ll kH (List.set l.ak (Int.toNat ((rd l.ak ai).cJ)) (bm.mk ((rd l.ak ((rd l.ak ai).cJ)).key) ((rd l.ak ((rd l.ak ai).cJ)).cJ) ((rd l.ak ai).aY))) kS),(.map (some mm)),(ii l.cy),(ii l.cZ)])] J J ⟨(by first |rfl |(simp only[ll,List.length_set];rfl)),trivial⟩ (by first |rfl |(simp only[ll,List.length_set];rfl)) (an sl (ae (rx T 1 ?_)))))))
  exact am (_,_,_,_,_) [2,1,1,1,0] ⟨oi Z2,s7⟩ J J
 rintro _ ⟨x1,x2,a6,n6,H6⟩ ⟨rfl,s6⟩ H;refine rc T 3 (lf T 2 J (ro T 3 (cb J H (λH=>?_) (λH=>?_))))
 ·refine rc T 3 (lf T 2 J (ro T 2 (sg T 3 J (ro T 1 (i_ ?_)))))
  cases H;exact p1 T J [3,3,1,0] ⟨a6,n6,H6,mm,ra,s6,um,J,J⟩ J
 refine fz J (rz [10] mix (bO bN) (λhg pf=>ha T 8 [0,1,2] sz hg pf J (av 3 sz hg pf J (aw T J J J J (aD (j:=3) J J)) (ha T 6 [4] sz hg pf J (av 5 sz hg pf J (aw T J J J J (aD (j:=2) J J)) (ha T 4 [6] sz hg pf J (av 7 sz hg pf J (aw T J J J J (aD (j:=2) J J)) ?_)))))));obtain⟨c6,H⟩:=az H;obtain⟨q8,o8,e8⟩:=s6.r.addr c6.1 c6.2;refine av 8 sz hg pf J (cB T J J J J J e8 c6.1 c6.2) (ha T 1 [9] sz hg pf J (ao 10 (kI (k:=jI) T 4 2 (bm.mk ((rd x1 ((rd l.ak ai).aY)).key) ((rd l.ak ai).cJ) ((rd x1 ((rd l.ak ai).aY)).aY)) J J J J J J s6 e8 c6 J J J (λH9 s9=>kg [0,4,32,38,39,40,42,43,44,45,46,47] [0,0,0,1] [0,0,0,1,0] [(41,(ll a6 (List.set x1 (Int.toNat ((rd l.ak ai).aY)) (bm.mk ((rd x1 ((rd l.ak ai).aY)).key) ((rd l.ak ai).cJ) ((rd x1 ((rd l.ak ai).aY)).aY))) n6))] [(cl fM 238 [(ii l.k),(ll a6 (List.set x1 (Int.toNat ((rd l.ak ai).aY)) (bm.mk ((rd x1 ((rd l.ak ai).aY)).key) ((rd l.ak ai).cJ) ((rd x1 ((rd l.ak ai).aY)).aY))) n6),(.map (some mm)),(ii x2),(ii l.cZ)])] J J ⟨(by first |rfl |(simp only[ll,List.length_set];rfl)),trivial⟩ (by first |rfl |(simp only[ll,List.length_set];rfl)) (an sl (ae (i_ ?_)))))))
 cases H;exact p1 T J [4,3,1,0] ⟨a6,n6,H9,mm,ra,s9,um,J,J⟩ J
def xd.f (l:fg) (ai:Int):Option fg:=if(0<=ai/\ai<(List.length l.ak:Int)) then(if(0<=ai/\ai<(List.length (List.set l.ak (Int.toNat ai) (bm.mk ((rd l.ak ai).key) (-1) ((rd l.ak ai).aY))):Int)) then(if(l.cy==(-1))=true then(some (fg.mk l.k (List.set (List.set l.ak (Int.toNat ai) (bm.mk ((rd l.ak ai).key) (-1) ((rd l.ak ai).aY))) (Int.toNat ai) (bm.mk ((rd (List.set l.ak (Int.toNat ai) (bm.mk ((rd l.ak ai).key) (-1) ((rd l.ak ai).aY))) ai).key) ((rd (List.set l.ak (Int.toNat ai) (bm.mk ((rd l.ak ai).key) (-1) ((rd l.ak ai).aY))) ai).cJ) l.cy)) l.ft ai ai)) else(if(0<=l.cy/\l.cy<(List.length (List.set (List.set l.ak (Int.toNat ai) (bm.mk ((rd l.ak ai).key) (-1) ((rd l.ak ai).aY))) (Int.toNat ai) (bm.mk ((rd (List.set l.ak (Int.toNat ai) (bm.mk ((rd l.ak ai).key) (-1) ((rd l.ak ai).aY))) ai).key) ((rd (List.set l.ak (Int.toNat ai) (bm.mk ((rd l.ak ai).key) (-1) ((rd l.ak ai).aY))) ai).cJ) l.cy)):Int)) then(some (fg.mk l.k (List.set (List.set (List.set l.ak (Int.toNat ai) (bm.mk ((rd l.ak ai).key) (-1) ((rd l.ak ai).aY))) (Int.toNat ai) (bm.mk ((rd (List.set l.ak (Int.toNat ai) (bm.mk ((rd l.ak ai).key) (-1) ((rd l.ak ai).aY))) ai).key) ((rd (List.set l.ak (Int.toNat ai) (bm.mk ((rd l.ak ai).key) (-1) ((rd l.ak ai).aY))) ai).cJ) l.cy)) (Int.toNat l.cy) (bm.mk ((rd (List.set (List.set l.ak (Int.toNat ai) (bm.mk ((rd l.ak ai).key) (-1) ((rd l.ak ai).aY))) (Int.toNat ai) (bm.mk ((rd (List.set l.ak (Int.toNat ai) (bm.mk ((rd l.ak ai).key) (-1) ((rd l.ak ai).aY))) ai).key) ((rd (List.set l.ak (Int.toNat ai) (bm.mk ((rd l.ak ai).key) (-1) ((rd l.ak ai).aY))) ai).cJ) l.cy)) l.cy).key) ai ((rd (List.set (List.set l.ak (Int.toNat ai) (bm.mk ((rd l.ak ai).key) (-1) ((rd l.ak ai).aY))) (Int.toNat ai) (bm.mk ((rd (List.set l.ak (Int.toNat ai) (bm.mk ((rd l.ak ai).key) (-1) ((rd l.ak ai).aY))) ai).key) ((rd (List.set l.ak (Int.toNat ai) (bm.mk ((rd l.ak ai).key) (-1) ((rd l.ak ai).aY))) ai).cJ) l.cy)) l.cy).aY))) l.ft ai l.cZ)) else none)) else none) else none
def xd.R (fM:Nat) (r:fg) (u:Value) (G:List Hp):Prop:= ∃(a0:Option Addr) (n0:Nat) (H0:Hp) (a1:Nat) (H1:Hp),aj jI 278 r.ak a0 n0 H0/\cP (Ky.pair T .i64 J J J lb u3) (λx:Int=>Value.int .i64 x) r.ft a1 H1/\u=(.tuple #[])/\G=[(cl fM 238 [(ii r.k),(ll a0 r.ak n0),(.map (some a1)),(ii r.cy),(ii r.cZ)]),H0,H1]
theorem xd.c (H:xd.f l ai=some r) (pr:aj jI 278 l.ak kH kS tz) (um:cP (Ky.pair T .i64 J J J lb u3) (λx:Int=>Value.int .i64 x) l.ft mm ra):
 QR 225 [(pp fM),(ii ai)] [(cl fM 238 [(ii l.k),(ll kH l.ak kS),(.map (some mm)),(ii l.cy),(ii l.cZ)]),tz,ra] [] F (xd.R fM r):=by
 unfold xd.f at H;refine aB Tryz.func225 J J (λW=>rc T 1 (fz J (rz [16,19] mix (bO bN) (λhg pf=>ha T 17 [0,1,2] sz hg pf J (av 3 sz hg pf J (aw T J J J J (aD (j:=0) J J)) (ha T 12 [4,5,6,7] sz hg pf J (av 8 sz hg pf J (aw T J J J J (aD (j:=0) J J)) (ha T 7 [9,10,11,12] sz hg pf J (av 13 sz hg pf J (aw T J J J J (aD (j:=0) J J)) ?_)))))))));obtain⟨c1,H⟩:=az H;obtain⟨q4,o4,e4⟩:=pr.r.addr c1.1 c1.2;refine av 14 sz hg pf J (cB T J J J J J e4 c1.1 c1.2) (ha T 4 [15] sz hg pf J (ao 16 (kI (k:=jI) T 1 2 (bm.mk ((rd l.ak ai).key) (-1) ((rd l.ak ai).aY)) J J J J J J pr e4 c1 J J J (λH5 s5=>kg [0,1,4,5,6,8,9,10,11,13,14,15,16,17,18,19] [1,1,1] [1,1,1,0] [(7,(ll kH (List.set l.ak (Int.toNat ai) (bm.mk ((rd l.ak ai).key) (-1) ((rd l.ak ai).aY))) kS)),(12,(ll kH (List.set l.ak (Int.toNat ai) (bm.mk ((rd l.ak ai).key) (-1) ((rd l.ak ai).aY))) kS))] [(cl fM 238 [(ii l.k),(ll kH (List.set l.ak (Int.toNat ai) (bm.mk ((rd l.ak ai).key) (-1) ((rd l.ak ai).aY))) kS),(.map (some mm)),(ii l.cy),(ii l.cZ)])] J J ⟨(by first |rfl |(simp only[ll,List.length_set];rfl)),(by first |rfl |(simp only[ll,List.length_set];rfl)),trivial⟩ (by first |rfl |(simp only[ll,List.length_set];rfl)) (an sl (ao 17 ?_))))))
 obtain⟨c2,H⟩:=az H;refine lv J (cB T J J J J J e4 c2.1 c2.2) (an sl (hb T 18 sl hg pf J (ao 19 (kI (k:=jI) T 0 3 (bm.mk ((rd (List.set l.ak (Int.toNat ai) (bm.mk ((rd l.ak ai).key) (-1) ((rd l.ak ai).aY))) ai).key) ((rd (List.set l.ak (Int.toNat ai) (bm.mk ((rd l.ak ai).key) (-1) ((rd l.ak ai).aY))) ai).cJ) l.cy) J J J J J J s5 e4 c2 J J J (λH6 s6=>kg [0,1,4,5,6,8,9,10,11,13,14,15,16,17,18,19,20,21] [0,0,0] [0,0,0,0] [(7,(ll kH (List.set (List.set l.ak (Int.toNat ai) (bm.mk ((rd l.ak ai).key) (-1) ((rd l.ak ai).aY))) (Int.toNat ai) (bm.mk ((rd (List.set l.ak (Int.toNat ai) (bm.mk ((rd l.ak ai).key) (-1) ((rd l.ak ai).aY))) ai).key) ((rd (List.set l.ak (Int.toNat ai) (bm.mk ((rd l.ak ai).key) (-1) ((rd l.ak ai).aY))) ai).cJ) l.cy)) kS)),(12,(ll kH (List.set (List.set l.ak (Int.toNat ai) (bm.mk ((rd l.ak ai).key) (-1) ((rd l.ak ai).aY))) (Int.toNat ai) (bm.mk ((rd (List.set l.ak (Int.toNat ai) (bm.mk ((rd l.ak ai).key) (-1) ((rd l.ak ai).aY))) ai).key) ((rd (List.set l.ak (Int.toNat ai) (bm.mk ((rd l.ak ai).key) (-1) ((rd l.ak ai).aY))) ai).cJ) l.cy)) kS))] [(cl fM 238 [(ii l.k),(ll kH (List.set (List.set l.ak (Int.toNat ai) (bm.mk ((rd l.ak ai).key) (-1) ((rd l.ak ai).aY))) (Int.toNat ai) (bm.mk ((rd (List.set l.ak (Int.toNat ai) (bm.mk ((rd l.ak ai).key) (-1) ((rd l.ak ai).aY))) ai).key) ((rd (List.set l.ak (Int.toNat ai) (bm.mk ((rd l.ak ai).key) (-1) ((rd l.ak ai).aY))) ai).cJ) l.cy)) kS),(.map (some mm)),(ii l.cy),(ii l.cZ)])] J J ⟨(by first |rfl |(simp only[ll,List.length_set];rfl)),(by first |rfl |(simp only[ll,List.length_set];rfl)),trivial⟩ (by first |rfl |(simp only[ll,List.length_set];rfl)) (an sl (ae (rx T 7 (lf T 3 J (ro T 3 ?_))))))))))
 refine cb J H (λH=>?_) (λH=>?_)
 ·refine rc T 5 (sg T 3 J (ro T 7 (sg T 3 J (ro T 1 (ks [] J (i_ ?_))))))
  cases H;exact p1 T J [3,0,0,0] ⟨kH,kS,H6,mm,ra,s6,um,J,J⟩ J
 refine ks [0,1] J (fz J (rz [11] mix (bO bN) (λhg pf=>ha T 9 [0,1,2] sz hg pf J (av 3 sz hg pf J (aw T J J J J (aD (j:=3) J J)) (ha T 5 [4,5,6] sz hg pf J (av 7 sz hg pf J (aw T J J J J (aD (j:=3) J J)) (ha T 3 [8] sz hg pf J ?_)))))));obtain⟨c4,H⟩:=az H;refine av 9 sz hg pf J (cB T J J J J J e4 c4.1 c4.2) (ha T 1 [10] sz hg pf J (ao 11 (kI (k:=jI) T 0 2 (bm.mk ((rd (List.set (List.set l.ak (Int.toNat ai) (bm.mk ((rd l.ak ai).key) (-1) ((rd l.ak ai).aY))) (Int.toNat ai) (bm.mk ((rd (List.set l.ak (Int.toNat ai) (bm.mk ((rd l.ak ai).key) (-1) ((rd l.ak ai).aY))) ai).key) ((rd (List.set l.ak (Int.toNat ai) (bm.mk ((rd l.ak ai).key) (-1) ((rd l.ak ai).aY))) ai).cJ) l.cy)) l.cy).key) ai ((rd (List.set (List.set l.ak (Int.toNat ai) (bm.mk ((rd l.ak ai).key) (-1) ((rd l.ak ai).aY))) (Int.toNat ai) (bm.mk ((rd (List.set l.ak (Int.toNat ai) (bm.mk ((rd l.ak ai).key) (-1) ((rd l.ak ai).aY))) ai).key) ((rd (List.set l.ak (Int.toNat ai) (bm.mk ((rd l.ak ai).key) (-1) ((rd l.ak ai).aY))) ai).cJ) l.cy)) l.cy).aY)) J J J J J J s6 e4 c4 J J J (λH7 s7=>kg [0,1,31,32,33,35,36,37,38,39,40,41] [0,0,0] [0,0,0,0] [(34,(ll kH (List.set (List.set (List.set l.ak (Int.toNat ai) (bm.mk ((rd l.ak ai).key) (-1) ((rd l.ak ai).aY))) (Int.toNat ai) (bm.mk ((rd (List.set l.ak (Int.toNat ai) (bm.mk ((rd l.ak ai).key) (-1) ((rd l.ak ai).aY))) ai).key) ((rd (List.set l.ak (Int.toNat ai) (bm.mk ((rd l.ak ai).key) (-1) ((rd l.ak ai).aY))) ai).cJ) l.cy)) (Int.toNat l.cy) (bm.mk ((rd (List.set (List.set l.ak (Int.toNat ai) (bm.mk ((rd l.ak ai).key) (-1) ((rd l.ak ai).aY))) (Int.toNat ai) (bm.mk ((rd (List.set l.ak (Int.toNat ai) (bm.mk ((rd l.ak ai).key) (-1) ((rd l.ak ai).aY))) ai).key) ((rd (List.set l.ak (Int.toNat ai) (bm.mk ((rd l.ak ai).key) (-1) ((rd l.ak ai).aY))) ai).cJ) l.cy)) l.cy).key) ai ((rd (List.set (List.set l.ak (Int.toNat ai) (bm.mk ((rd l.ak ai).key) (-1) ((rd l.ak ai).aY))) (Int.toNat ai) (bm.mk ((rd (List.set l.ak (Int.toNat ai) (bm.mk ((rd l.ak ai).key) (-1) ((rd l.ak ai).aY))) ai).key) ((rd (List.set l.ak (Int.toNat ai) (bm.mk ((rd l.ak ai).key) (-1) ((rd l.ak ai).aY))) ai).cJ) l.cy)) l.cy).aY))) kS))] [(cl fM 238 [(ii l.k),(ll kH (List.set (List.set (List.set l.ak (Int.toNat ai) (bm.mk ((rd l.ak ai).key) (-1) ((rd l.ak ai).aY))) (Int.toNat ai) (bm.mk ((rd (List.set l.ak (Int.toNat ai) (bm.mk ((rd l.ak ai).key) (-1) ((rd l.ak ai).aY))) ai).key) ((rd (List.set l.ak (Int.toNat ai) (bm.mk ((rd l.ak ai).key) (-1) ((rd l.ak ai).aY))) ai).cJ) l.cy)) (Int.toNat l.cy) (bm.mk ((rd (List.set (List.set l.ak (Int.toNat ai) (bm.mk ((rd l.ak ai).key) (-1) ((rd l.ak ai).aY))) (Int.toNat ai) (bm.mk ((rd (List.set l.ak (Int.toNat ai) (bm.mk ((rd l.ak ai).key) (-1) ((rd l.ak ai).aY))) ai).key) ((rd (List.set l.ak (Int.toNat ai) (bm.mk ((rd l.ak ai).key) (-1) ((rd l.ak ai).aY))) ai).cJ) l.cy)) l.cy).key) ai ((rd (List.set (List.set l.ak (Int.toNat ai) (bm.mk ((rd l.ak ai).key) (-1) ((rd l.ak ai).aY))) (Int.toNat ai) (bm.mk ((rd (List.set l.ak (Int.toNat ai) (bm.mk ((rd l.ak ai).key) (-1) ((rd l.ak ai).aY))) ai).key) ((rd (List.set l.ak (Int.toNat ai) (bm.mk ((rd l.ak ai).key) (-1) ((rd l.ak ai).aY))) ai).cJ) l.cy)) l.cy).aY))) kS),(.map (some mm)),(ii l.cy),(ii l.cZ)])] J J ⟨(by first |rfl |(simp only[ll,List.length_set];rfl)),trivial⟩ (by first |rfl |(simp only[ll,List.length_set];rfl)) (an sl (ae (rx T 6 (sg T 3 J (ro T 1 (i_ ?_))))))))))
 cases H;exact p1 T J [3,0,0,0] ⟨kH,kS,H7,mm,ra,s7,um,J,J⟩ J
def xc.f (l:fg) (a:Int) (b:Int):Option (Int×Bool×Bool×fg):=(if(bQ l.ft (a,b))=true then((sI.f l (aO l.ft (a,b))).bind λv9=>some (v9.k,v9.ak,v9.ft,v9.cy,v9.cZ,(aO l.ft (a,b)),false)) else(if(List.length l.ak:Int)<l.k then(if(List.length l.ak+1<=1099511627776) then(some (l.k,(l.ak++[(bm.mk (a,b) 0 0)]),l.ft,l.cy,l.cZ,(List.length l.ak:Int),false)) else none) else((sI.f l l.cZ).bind λv10=>if(0<=l.cZ/\l.cZ<(List.length v10.ak:Int)) then(some (v10.k,(List.set v10.ak (Int.toNat l.cZ) (bm.mk (a,b) ((rd v10.ak l.cZ).cJ) ((rd v10.ak l.cZ).aY))),(dJ v10.ft ((rd v10.ak l.cZ).key.1,(rd v10.ak l.cZ).key.2)),v10.cy,v10.cZ,l.cZ,true)) else none))).bind λ(x1,x2,x3,x4,x5,x6,x7)=>(xd.f (fg.mk x1 x2 (cC x3 (a,b) x6) x4 x5) x6).bind λv11=>some (x6,(bQ l.ft (a,b)),x7,v11)
def xc.R (fM:Nat) (r:(Int×Bool×Bool×fg)) (u:Value) (G:List Hp):Prop:= ∃(a0:Option Addr) (n0:Nat) (H0:Hp) (a1:Nat) (H1:Hp),aj jI 278 r.2.2.2.ak a0 n0 H0/\cP (Ky.pair T .i64 J J J lb u3) (λx:Int=>Value.int .i64 x) r.2.2.2.ft a1 H1/\u=(.tuple #[(ii r.1),(bb r.2.1),(bb r.2.2.1)])/\G=[(cl fM 238 [(ii r.2.2.2.k),(ll a0 r.2.2.2.ak n0),(.map (some a1)),(ii r.2.2.2.cy),(ii r.2.2.2.cZ)]),H0,H1]
theorem xc.c (H:xc.f l a b=some r) (pr:aj jI 278 l.ak kH kS tz) (um:cP (Ky.pair T .i64 J J J lb u3) (λx:Int=>Value.int .i64 x) l.ft mm ra):
 QR 184 [(pp fM),(ii a),(ii b)] [(cl fM 238 [(ii l.k),(ll kH l.ak kS),(.map (some mm)),(ii l.cy),(ii l.cZ)]),tz,ra] [] F (xc.R fM r):=by
 unfold xc.f at H;refine aB Tryz.func184 J J (λW=>rc T 14 (dW J (rc T 6 (bp J (I6 T J J J J J J) (nc T J (λb4=>sg T 4 J (ro T 3 (dj mix ay (au T J (au T J (au T J (aN J J J (aw T J J J J (aD (j:=0) J J)) (aN J J J (gA T 4 J J J J J J J) (aN J J J (pO (k:=(a,b)) T (Ky.pair T .i64 J J J lb u3) (λx:Int=>Value.int .i64 x) J J J J J (oh um (j:=2) J)) ?_))))))))))))))
 iterate 5 refine au T J ?_
 refine cR (rx T 1 (mq H [0,7,9] [3,3] (λz8 (⟨x1,x2,x3,x4,x5,x6,x7,a5,n5,H5,a6,H6⟩:Int×List bm×(List ((Int×Int)×Int))×Int×Int×Int×Bool×Option Addr×Nat×Hp×Nat×Hp)=>((x1,x2,x3,x4,x5,x6,x7)=z8/\aj jI 278 x2 a5 n5 H5/\cP (Ky.pair T .i64 J J J lb u3) (λx:Int=>Value.int .i64 x) x3 a6 H6,[(6,(ii x6)),(8,(bb x7))],[(cl fM 238 [(ii x1),(ll a5 x2 n5),(.map (some a6)),(ii x4),(ii x5)]),H5,H6])) J J (λz8 Z1 _=>?_) ?_))
 ·refine rc T 7 (cb J Z1 (λZ1=>?_) (λZ1=>?_))
  ·refine rc T 3 (kr (sI.R fM) [] [0,0,0] J SK Z1 (sI.c · pr um) (λv9 Z1=>?_));rintro _ _ ⟨a7,n7,H7,a8,H8,s7,s8,rfl,rfl⟩;refine fz J (ro T 3 (am (_,_,_,_,_,_,_,_,_,_,_,_) [0,0,0,0,0] ⟨oi Z1,s7,s8⟩ J J))
  refine rc T 1 (dj mix ay (au T J (au T J (au T J (aN J J J (aw T J J J J (aD (j:=0) J J)) ?_)))))
  iterate 4 refine au T J ?_
  refine aN J J J (aw T J J J J (aD (j:=0) J J)) (au T J (au T J (cR (rx T 1 (cd J Z1 (λZ1=>?_) (λZ1=>?_))))))
  ·refine rc T 5 (lf T 0 J (ro T 4 (ks [0,6,7,8,9] J (fz J (rg [8,11] [0,0,0,0,0] mix (bO bN) (λhg pf=>ha T 8 [0,1,2,3] sz hg pf J (av 4 sz hg pf J (aw T J J J J (aD (j:=0) J J)) (av 5 sz hg pf J (gA T 4 J J J J J J J) (ha T 5 [6] sz hg pf J (ao 7 (cU (k:=jI) T [(bm.mk (a,b) 0 0)] J J J J J J J J J (λa9 H9 s9=>an (so [0,0,0,0,0]) (ao 8 ?_)))))))))))));obtain⟨c5,Z1⟩:=az Z1;refine dM (k:=jI) (xs:=l.ak) T (g:=1) J J J J J J J J J J pr (oO s9 5) c5 J (λcw n10 bV bS=>an sl (hb T 9 sl hg pf J (hb T 10 sl hg pf J (ao 11 (sf T 0 J (an sl (ae (rx T 1 (rx T 1 (am (_,_,_,_,_,_,_,_,_,_,_,_) [3,3,0,0,0] ⟨oi Z1,bS,um⟩ J J))))))))))
  refine rc T 5 (lf T 0 J (ro T 8 (kr (sI.R fM) [] [0,0,0] J SK Z1 (sI.c · pr um) (λv10 Z1=>?_))));rintro _ _ ⟨dt,n11,cA,a12,dw,cS,dD,rfl,rfl⟩;refine fz J (ro T 3 (ks [0,6,7,8,9] J (fz J (rz [12] mix (bO bN) (λhg pf=>ha T 10 [0,1,2] sz hg pf J (av 3 sz hg pf J (aw T J J J J (aD (j:=2) J J)) (ha T 6 [4,5,6] sz hg pf J (av 7 sz hg pf J (aw T J J J J (aD (j:=2) J J)) (ha T 4 [8] sz hg pf J ?_)))))))));obtain⟨c7,Z1⟩:=az Z1;obtain⟨Vn,UW,wK⟩:=cS.r.addr c7.1 c7.2;refine av 9 sz hg pf J (cB T J J J J J wK c7.1 c7.2) (ha T 2 [10] sz hg pf J (av 11 sz hg pf J (fm T (cs:=[(ii (rd v10.ak l.cZ).key.1),(ii (rd v10.ak l.cZ).key.2)]) J J J J J J (T_ (k:=jI) (oO cS 3) wK c7 0 J)) (ao 12 (Dn (g:=4) (m:=v10.ft) (k:=((rd v10.ak l.cZ).key.1,(rd v10.ak l.cZ).key.2)) T (Ky.pair T .i64 J J J lb u3) (λx:Int=>Value.int .i64 x) J J J J J J J J dD (λfx dO=>an sl (ae (rx T 1 (ks [0,6,7,8,9] J (fz J (rz [8] mix (bO bN) (λhg pf=>ha T 6 [0,1,2] sz hg pf J (av 3 sz hg pf J (aw T J J J J (aD (j:=2) J J)) (ha T 4 [4] sz hg pf J (av 5 sz hg pf J (gA T 1 J J J J J J J) (av 6 sz hg pf J (cB T J J J J J wK c7.1 c7.2) (ha T 1 [7] sz hg pf J (ao 8 (kI (k:=jI) T 3 0 (bm.mk (a,b) ((rd v10.ak l.cZ).cJ) ((rd v10.ak l.cZ).aY)) J J J J J J cS wK c7 J J J (λdF dK=>kg [0,6,7,8,9,43,44,45,47,48,49,50] [0,0,1,1] [0,0,1,1,0] [(46,(ll dt (List.set v10.ak (Int.toNat l.cZ) (bm.mk (a,b) ((rd v10.ak l.cZ).cJ) ((rd v10.ak l.cZ).aY))) n11))] [(cl fM 238 [(ii v10.k),(ll dt (List.set v10.ak (Int.toNat l.cZ) (bm.mk (a,b) ((rd v10.ak l.cZ).cJ) ((rd v10.ak l.cZ).aY))) n11),(.map (some a12)),(ii v10.cy),(ii v10.cZ)])] J J ⟨(by first |rfl |(simp only[ll,List.length_set];rfl)),trivial⟩ (by first |rfl |(simp only[ll,List.length_set];rfl)) (an sl (ae (rx T 2 ?_))))))))))))))))))))))
  exact am (_,_,_,_,_,_,_,_,_,_,_,_) [0,0,2,0,0] ⟨oi Z1,dK,dO⟩ J J
 rintro _ ⟨x1,x2,x3,x4,x5,x6,x7,a5,n5,H5,a6,H6⟩ ⟨rfl,s5,s6⟩ H;refine rc T 1 (fz J (rz [6] mix (bO bN) (λhg pf=>ha T 4 [0,1,2] sz hg pf J (av 3 sz hg pf J (aw T J J J J (aD (j:=2) J J)) (av 4 sz hg pf J (gA T 1 J J J J J J J) (ha T 1 [5] sz hg pf J (ao 6 (pE (g:=4) (m:=x3) (k:=(a,b)) (v:=x6) T (Ky.pair T .i64 J J J lb u3) (λx:Int=>Value.int .i64 x) J J J J J J J s6 (λfV fP=>an sl (ae (rx T 5 (kr (xd.R fM) [] [2,2,2] J acK H (xd.c (l:=(fg.mk x1 x2 (cC x3 (a,b) x6) x4 x5)) · s5 fP) (λv11 H=>?_)))))))))))));rintro _ _ ⟨a17,n17,dV,iY,fb,fh,fq,rfl,rfl⟩;refine fz J (ro T 13 ?_)
 cases H;exact p1 T J [2,2,2,0] ⟨a17,n17,dV,iY,fb,fh,fq,J,J⟩ J
def og.l0:Nat->fg->List (Int×Int)->Int->Option (List (Int×Int))
 |0,_,_,_=>none
 |k5+1,l,x3,x4=>if(x4 !=(-1))=true then(if(0<=x4/\x4<(List.length l.ak:Int)) then(if(List.length x3+1<=1099511627776) then(og.l0 k5 l (x3++[(rd l.ak x4).key]) ((rd l.ak x4).aY)) else none) else none) else(some x3)
def og.f (l:fg):Option (List (Int×Int)):=og.l0 fuel l [] l.cy
def og.R (r:(List (Int×Int))) (u:Value) (G:List Hp):Prop:= ∃(a0:Option Addr) (n0:Nat) (H0:Hp),aj (Fl.pair .i64) 76 r a0 n0 H0/\u=(ll a0 r n0)/\G=[H0]
theorem og.c (H:og.f l=some r) (pr:aj jI 278 l.ak kH kS tz) (um:cP (Ky.pair T .i64 J J J lb u3) (λx:Int=>Value.int .i64 x) l.ft mm ra):
 QR 139 [(pp fM)] [(cl fM 238 [(ii l.k),(ll kH l.ak kS),(.map (some mm)),(ii l.cy),(ii l.cZ)]),tz,ra] [(cl fM 238 [(ii l.k),(ll kH l.ak kS),(.map (some mm)),(ii l.cy),(ii l.cZ)]),tz,ra] F (og.R r):=by
 unfold og.f at H;refine aB Tryz.func139 J J (λW=>rc T 12 (dW J (rc T 13 (lf T 0 J (ro T 4 (br (lq [0] [3,0,0,0] (λ(⟨k5,x3,x4,a5,n5,H5⟩:Nat×List (Int×Int)×Int×Option Addr×Nat×Hp)=>(og.l0 k5 l x3 x4=some r/\aj (Fl.pair .i64) 76 x3 a5 n5 H5,[(3,(ll a5 x3 n5)),(4,(ii x4))],[H5])) J J (fuel,[],l.cy,none,0,[]) [3,0,0,0,0] ⟨H,aj.nil⟩ J J ?_)))))));rintro k5 ⟨x3,x4,a5,n5,H5⟩ ⟨Z1,s5⟩;rw[og.l0] at Z1;refine rc T 7 (cb J Z1 (λZ1=>?_) (λZ1=>?_))
 ·refine rc T 9 (lf T 1 J (ro T 1 ?_));obtain⟨c3,Z1⟩:=az Z1;obtain⟨q6,o6,e6⟩:=pr.r.addr c3.1 c3.2;refine ix T J e6 c3 (ro T 1 (bp J (fm T (cs:=[(ii (rd l.ak x4).key.1),(ii (rd l.ak x4).key.2)]) J J J J J J (T_ (k:=jI) (oO pr 2) e6 c3 0 J)) (aW (cU (k:=(Fl.pair .i64)) T [(rd l.ak x4).key] J J J J J J J J J (λa7 H7 s7=>?_)))));obtain⟨c4,Z1⟩:=az Z1;refine aW (dM (k:=(Fl.pair .i64)) (xs:=x3) T (g:=4) J J J J J J J J J J s5 (oO s7 5) c4 J (λa8 n8 H8 s8=>ro T 8 (lf T 1 J (ro T 1 (ix T J e6 c3 (ro T 1 (le T 3 (oO pr 2) e6 c3 J J (ro T 3 (ar (_,_,_,_,_) [0,0,0,0,0] ⟨Z1,s8⟩ J J)))))))))
 refine rc T 12 ?_
 cases Z1;exact p1 T J [4,1,1,1,0] ⟨a5,n5,H5,s5,J,J⟩ J
end
noncomputable section
def CY.f (h:CW) (ai:Int) (side:Int):Option Int:=if(¬h.t.W=0) then(if(¬h.t.W=0) then(if((side==0)&&(decide ((aa (Int.tdiv ai h.t.W))>0)))=true then(some (aa (ai-h.t.W))) else((if(side==1)=true then(some (decide ((Int.tmod ai h.t.W)<(aa (h.t.W-1))))) else(some false)).bind λx1=>if x1=true then(some (aa (ai+1))) else((if(side==2)=true then(some (decide ((aa (Int.tdiv ai h.t.W))<(aa (h.t.H-1))))) else(some false)).bind λx3=>if x3=true then(some (aa (ai+h.t.W))) else(if((side==3)&&(decide ((Int.tmod ai h.t.W)>0)))=true then(some (aa (ai-1))) else(some (-1)))))) else none) else none
theorem CY.c (H:CY.f h ai side=some r) (ji:(fj,Obj.cells #[(ii h.t.W),(ii h.t.H),(ll Br h.t.C Ck),(ll ka h.l ku),(ll Bq h.aQ Cj)] 337 (0,0))∈F) (oc:aS (Fl.int .u8) h.t.C Br F) (qo:List.length h.t.C<=Ck) (oV:aS cI h.l ka F) (oP:List.length h.l<=ku) (lQ:aS (Fl.int .i64) h.aQ Bq F) (qn:List.length h.aQ<=Cj):
 QU 295 [(pp fj),(ii ai),(ii side)] [] F (ii r):=by
 unfold CY.f at H;refine aB Tryz.func295 J J (λW=>rc T 6 (dj mix ay ?_))
 iterate 5 refine au T J ?_
 refine aN J J J (aw T J J J J (np (j:=0) ji J J)) ?_;obtain⟨c1,H⟩:=az H;refine aN J J J (uZ J J J c1) ?_
 iterate 5 refine au T J ?_
 refine aN J J J (aw T J J J J (np (j:=0) ji J J)) ?_;obtain⟨c2,H⟩:=az H;refine aN J J J (uY J J J c2) (au T J (au T J (cR (rx T 8 (ga T [3,4,5] 26 [0,1,2,7,8] 29 J J J J J J J (ro T 3 (cb J H (λH=>?_) (λH=>?_))))))))
 ·refine rc T 7 (lg T J (np (j:=0) ji J J) (ro T 7 ?_))
  cases H;exact p0 T J [0] J
 refine mq H [0,1,2,7,8] [0] (λz2 (x1:Bool)=>(x1=z2,[(37,(bb x1))],[])) J J (λz2 Z4 _=>?_) ?_
 ·refine rc T 4 (ab 40 J Z4 (λZ4=>?_) (λZ4=>?_))
  ·refine ro T 5 (lg T J (np (j:=0) ji J J) (ro T 6 (am _ [0] (oi Z4) J J)))
  refine ro T 12 (am _ [0] (oi Z4) J J)
 rintro _ x1 rfl H;refine cb J H (λH=>?_) (λH=>?_)
 ·refine rc T 10 ?_
  cases H;exact p0 T J [0] J
 refine mq H [0,1,2,7] [0] (λz4 (x3:Bool)=>(x3=z4,[(52,(bb x3))],[])) J J (λz4 Z7 _=>?_) ?_
 ·refine rc T 4 (ab 55 J Z7 (λZ7=>?_) (λZ7=>?_))
  ·refine ro T 5 (lg T J (np (j:=0) ji J J) (ro T 6 (am _ [0] (oi Z7) J J)))
  refine ro T 12 (am _ [0] (oi Z7) J J)
 rintro _ x3 rfl H;refine cb J H (λH=>?_) (λH=>?_)
 ·refine rc T 7 (lg T J (np (j:=0) ji J J) (ro T 7 ?_))
  cases H;exact p0 T J [0] J
 refine rc T 5 (ga T [3,4,5] 75 [1] 78 J J J J J J J (ro T 3 (cb J H (λH=>?_) (λH=>?_))))
 ·refine rc T 10 ?_
  cases H;exact p0 T J [0] J
 refine rc T 9 ?_
 cases H;exact p0 T J [0] J
def kB.f (h:CW) (ai:Int) (side:Int):Option Bool:=(CY.f h ai side).bind λv1=>if v1<0 then((kA.f h.l ai side).bind λv2=>if(0<=ai/\ai<(List.length h.aQ:Int)) then(some (v2==(rd h.aQ ai))) else none) else((if(0<=v1/\v1<(List.length h.t.C:Int)) then(if((rd h.t.C v1)!=255)=true then(if(0<=v1/\v1<(List.length h.aQ:Int)) then(if(0<=ai/\ai<(List.length h.aQ:Int)) then(some ((aa ((aa (rd h.t.C v1))+(rd h.aQ v1)))==(rd h.aQ ai))) else none) else none) else(some false)) else none).bind λx3=>some x3)
theorem kB.c (H:kB.f h ai side=some r) (ji:(fj,Obj.cells #[(ii h.t.W),(ii h.t.H),(ll Br h.t.C Ck),(ll ka h.l ku),(ll Bq h.aQ Cj)] 337 (0,0))∈F) (oc:aS (Fl.int .u8) h.t.C Br F) (qo:List.length h.t.C<=Ck) (oV:aS cI h.l ka F) (oP:List.length h.l<=ku) (lQ:aS (Fl.int .i64) h.aQ Bq F) (qn:List.length h.aQ<=Cj):
 QU 277 [(pp fj),(ii ai),(ii side)] [] F (bb r):=by
 unfold kB.f at H;refine aB Tryz.func277 J J (λW=>rc T 10 (k [] J adm H (CY.c · (pT ji (j:=0) J) (rO oc 0) qo (rO oV 0) oP (rO lQ 0) qn) (λv1 H=>ro T 10 (cd J H (λH=>?_) (λH=>?_)))))
 ·refine rc T 1 (dj mix ay (au T J (au T J (au T J (aN J J J (aw T J J J J (np (j:=0) ji J J)) (au T J (au T J ?_)))))));obtain⟨v2,V3,H⟩:=fY H;refine tF J J J J J J SQ J (kA.c V3 (rO oV 0) oP) (au T J (au T J (au T J (aN J J J (aw T J J J J (np (j:=0) ji J J)) (au T J ?_)))));obtain⟨c4,H⟩:=az H;obtain⟨q1,o1,e1⟩:=lQ.addr c4.1 c4.2;refine aN J J J (cB T J J J J J e1 c4.1 c4.2) (aN J J J (aw T J J J J (gM (k:=(Fl.int .i64)) (rO lQ 0) e1 c4 0 J)) (au T J (au T J (cR (rx T 3 ?_)))))
  cases H;exact p0 T J [0] J
 refine rc T 2 (mq H [] [0] (λz4 (x3:Bool)=>(x3=z4,[(6,(bb x3))],[])) J J (λz4 Z5 _=>?_) ?_)
 ·refine dj mix ay ?_
  iterate 4 refine au T J ?_
  refine aN J J J (aw T J J J J (np (j:=0) ji J J)) (au T J ?_);obtain⟨c6,Z5⟩:=az Z5;obtain⟨q2,o2,e2⟩:=oc.addr c6.1 c6.2;refine aN J J J (cB T J J J J J e2 c6.1 c6.2) (aN J J J (aw T J J J J (gM (k:=(Fl.int .u8)) (rO oc 0) e2 c6 0 J)) (au T J (au T J (qb 38 J Z5 (λZ5=>?_) (λZ5=>?_)))))
  ·iterate 4 refine au T J ?_
   refine aN J J J (aw T J J J J (np (j:=0) ji J J)) (au T J (aN J J J (cB T J J J J J e2 c6.1 c6.2) (aN J J J (aw T J J J J (gM (k:=(Fl.int .u8)) (rO oc 0) e2 c6 0 J)) ?_)))
   iterate 4 refine au T J ?_
   refine aN J J J (aw T J J J J (np (j:=0) ji J J)) (au T J ?_);obtain⟨c8,Z5⟩:=az Z5;obtain⟨q3,o3,e3⟩:=lQ.addr c8.1 c8.2;refine aN J J J (cB T J J J J J e3 c8.1 c8.2) (aN J J J (aw T J J J J (gM (k:=(Fl.int .i64)) (rO lQ 0) e3 c8 0 J)) ?_)
   iterate 4 refine au T J ?_
   refine aN J J J (aw T J J J J (np (j:=0) ji J J)) (au T J ?_);obtain⟨c9,Z5⟩:=az Z5;refine aN J J J (cB T J J J J J e3 c9.1 c9.2) (aN J J J (aw T J J J J (gM (k:=(Fl.int .i64)) (rO lQ 0) e3 c9 0 J)) (au T J (au T J (au T J (cR (rx T 1 (am _ [0] (oi Z5) J J)))))))
  iterate 27 refine au T J ?_
  refine cR (rx T 1 (am _ [0] (oi Z5) J J))
 rintro _ x3 rfl H;refine rc T 1 ?_
 cases H;exact p0 T J [0] J
def Ez.f (h:CW) (ai:Int) (side:Int):Option Int:=if(side==0)=true then((kB.f h ai 0).bind λv1=>if v1=true then(some 0) else((kB.f h ai 1).bind λv2=>if v2=true then(some 1) else((kB.f h ai 2).bind λv3=>if v3=true then(some 2) else((kB.f h ai 3).bind λv4=>if v4=true then(some 3) else(some 5))))) else(if(side==1)=true then((kB.f h ai 1).bind λv5=>if v5=true then(some 1) else((kB.f h ai 2).bind λv6=>if v6=true then(some 2) else((kB.f h ai 3).bind λv7=>if v7=true then(some 3) else(some 5)))) else(if(side==2)=true then((kB.f h ai 2).bind λv8=>if v8=true then(some 2) else((kB.f h ai 3).bind λv9=>if v9=true then(some 3) else(some 5))) else(if(side==3)=true then((kB.f h ai 3).bind λv10=>if v10=true then(some 3) else(some 5)) else(some 5))))
theorem Ez.c (H:Ez.f h ai side=some r) (ji:(fj,Obj.cells #[(ii h.t.W),(ii h.t.H),(ll Br h.t.C Ck),(ll ka h.l ku),(ll Bq h.aQ Cj)] 337 (0,0))∈F) (oc:aS (Fl.int .u8) h.t.C Br F) (qo:List.length h.t.C<=Ck) (oV:aS cI h.l ka F) (oP:List.length h.l<=ku) (lQ:aS (Fl.int .i64) h.aQ Bq F) (qn:List.length h.aQ<=Cj):
 QU 251 [(pp fj),(ii ai),(ii side)] [] F (ii r):=by
 unfold Ez.f at H;refine aB Tryz.func251 J J (λW=>rc T 28 (cb J H (λH=>?_) (λH=>?_)))
 ·refine rc T 9 (k [] J wS H (kB.c · (pT ji (j:=0) J) (rO oc 0) qo (rO oV 0) oP (rO lQ 0) qn) (λv1 H=>ro T 2 (cb J H (λH=>?_) (λH=>?_))))
  ·refine rc T 14 ?_
   cases H;exact p0 T J [0] J
  refine rc T 7 (k [] J wS H (kB.c · (pT ji (j:=0) J) (rO oc 0) qo (rO oV 0) oP (rO lQ 0) qn) (λv2 H=>ro T 2 (cb J H (λH=>?_) (λH=>?_))))
  ·refine rc T 12 ?_
   cases H;exact p0 T J [0] J
  refine rc T 7 (k [] J wS H (kB.c · (pT ji (j:=0) J) (rO oc 0) qo (rO oV 0) oP (rO lQ 0) qn) (λv3 H=>ro T 2 (cb J H (λH=>?_) (λH=>?_))))
  ·refine rc T 10 ?_
   cases H;exact p0 T J [0] J
  refine rc T 8 (k [] J wS H (kB.c · (pT ji (j:=0) J) (rO oc 0) qo (rO oV 0) oP (rO lQ 0) qn) (λv4 H=>ro T 2 (cb J H (λH=>?_) (λH=>?_))))
  ·refine rc T 9 ?_
   cases H;exact p0 T J [0] J
  refine rc T 11 ?_
  cases H;exact p0 T J [0] J
 refine rc T 9 (cb J H (λH=>?_) (λH=>?_))
 ·refine rc T 11 (k [] J wS H (kB.c · (pT ji (j:=0) J) (rO oc 0) qo (rO oV 0) oP (rO lQ 0) qn) (λv5 H=>ro T 2 (cb J H (λH=>?_) (λH=>?_))))
  ·refine rc T 12 ?_
   cases H;exact p0 T J [0] J
  refine rc T 7 (k [] J wS H (kB.c · (pT ji (j:=0) J) (rO oc 0) qo (rO oV 0) oP (rO lQ 0) qn) (λv6 H=>ro T 2 (cb J H (λH=>?_) (λH=>?_))))
  ·refine rc T 10 ?_
   cases H;exact p0 T J [0] J
  refine rc T 8 (k [] J wS H (kB.c · (pT ji (j:=0) J) (rO oc 0) qo (rO oV 0) oP (rO lQ 0) qn) (λv7 H=>ro T 2 (cb J H (λH=>?_) (λH=>?_))))
  ·refine rc T 9 ?_
   cases H;exact p0 T J [0] J
  refine rc T 11 ?_
  cases H;exact p0 T J [0] J
 refine rc T 9 (cb J H (λH=>?_) (λH=>?_))
 ·refine rc T 13 (k [] J wS H (kB.c · (pT ji (j:=0) J) (rO oc 0) qo (rO oV 0) oP (rO lQ 0) qn) (λv8 H=>ro T 2 (cb J H (λH=>?_) (λH=>?_))))
  ·refine rc T 10 ?_
   cases H;exact p0 T J [0] J
  refine rc T 8 (k [] J wS H (kB.c · (pT ji (j:=0) J) (rO oc 0) qo (rO oV 0) oP (rO lQ 0) qn) (λv9 H=>ro T 2 (cb J H (λH=>?_) (λH=>?_))))
  ·refine rc T 9 ?_
   cases H;exact p0 T J [0] J
  refine rc T 11 ?_
  cases H;exact p0 T J [0] J
 refine rc T 8 (cb J H (λH=>?_) (λH=>?_))
 ·refine rc T 15 (k [] J wS H (kB.c · (pT ji (j:=0) J) (rO oc 0) qo (rO oV 0) oP (rO lQ 0) qn) (λv10 H=>ro T 2 (cb J H (λH=>?_) (λH=>?_))))
  ·refine rc T 9 ?_
   cases H;exact p0 T J [0] J
  refine rc T 11 ?_
  cases H;exact p0 T J [0] J
 refine rc T 19 ?_
 cases H;exact p0 T J [0] J
def CX.f (h:CW) (ai:Int):Option Int:=if(0<=ai/\ai<(List.length h.aQ:Int)) then(if((rd h.aQ ai)==1099511627776)=true then(some 5) else((kA.f h.l ai 4).bind λv1=>if((rd h.aQ ai)==v1)=true then(some 4) else((Ez.f h ai 0).bind λv2=>some v2))) else none
theorem CX.c (H:CX.f h ai=some r) (ji:(fj,Obj.cells #[(ii h.t.W),(ii h.t.H),(ll Br h.t.C Ck),(ll ka h.l ku),(ll Bq h.aQ Cj)] 337 (0,0))∈F) (oc:aS (Fl.int .u8) h.t.C Br F) (qo:List.length h.t.C<=Ck) (oV:aS cI h.l ka F) (oP:List.length h.l<=ku) (lQ:aS (Fl.int .i64) h.aQ Bq F) (qn:List.length h.aQ<=Cj):
 QU 229 [(pp fj),(ii ai)] [] F (ii r):=by
 unfold CX.f at H;refine aB Tryz.func229 J J (λW=>rc T 11 (lg T J (np (j:=0) ji J J) (ro T 1 ?_)));obtain⟨c1,H⟩:=az H;obtain⟨q1,o1,e1⟩:=lQ.addr c1.1 c1.2;refine ix T J e1 c1 (le T 0 (rO lQ 0) e1 c1 J J (ro T 9 (cb J H (λH=>?_) (λH=>?_))))
 ·refine rc T 8 ?_
  cases H;exact p0 T J [0] J
 refine rc T 5 (lg T J (np (j:=0) ji J J) (ro T 1 (k [] J SQ H (kA.c · (rO oV 0) oP) (λv1 H=>ro T 4 (cb J H (λH=>?_) (λH=>?_))))))
 ·refine rc T 8 ?_
  cases H;exact p0 T J [0] J
 refine rc T 7 (k [] J ac2 H (Ez.c · (pT ji (j:=0) J) (rO oc 0) qo (rO oV 0) oP (rO lQ 0) qn) (λv2 H=>ro T 4 ?_))
 cases H;exact p0 T J [0] J
def nK.l0:Nat->aJ->(List aZ)->((List Int)×Int)->List Int->Int->Option (fX×Int)
 |0,_,_,_,_,_=>none
 |k6+1,t,l,v1,x4,x5=>if x5<(List.length v1.1:Int) then((CX.f (CW.mk t l v1.1) x5).bind λv7=>if(List.length x4+1<=1099511627776) then(nK.l0 k6 t l v1 (x4++[v7]) (aa (x5+1))) else none) else(some ((fX.mk v1.1 x4),0))
def nK.f (t:aJ) (l:(List aZ)):Option (fX×Int):=(tn.f t l).bind λv1=>if(v1.2 !=0)=true then(some ((fX.mk [] []),v1.2)) else(nK.l0 fuel t l v1 [] 0)
def nK.R (r:(fX×Int)) (u:Value) (G:List Hp):Prop:= ∃(a0:Option Addr) (n0:Nat) (H0:Hp) (a1:Option Addr) (n1:Nat) (H1:Hp),aj (Fl.int .i64) 3 r.1.fa a0 n0 H0/\aj (Fl.int .i64) 3 r.1.cz a1 n1 H1/\u=(.tuple #[(.agg #[(ll a0 r.1.fa n0),(ll a1 r.1.cz n1)]),(ii r.2)])/\G=[H0,H1]
theorem nK.c (H:nK.f t l=some r) (dH:aS (Fl.int .u8) t.C iv F) (ff:List.length t.C<=iy) (dg:aS cI l iu F) (gn:List.length l<=ic):
 QR 188 [(.agg #[(ii t.W),(ii t.H),(ll iv t.C iy)]),(ll iu l ic)] [] [] F (nK.R r):=by
 unfold nK.f at H;refine aB Tryz.func188 J J (λW=>rc T 2 (nc T J (λb1=>nc T J (λb2=>ro T 5 (lm T 1 J (ro T 1 (kr tn.R [] [] J SL H (tn.c · (rO dH 0) ff (rO dg 0) gn) (λv1 H=>?_))))))));rintro _ _ ⟨a3,n3,H3,s3,rfl,rfl⟩;refine fz J (ro T 14 (cb J H (λH=>?_) (λH=>?_)))
 ·refine rc T 4 (sg T 2 J (ro T 5 ?_))
  cases H;refine br (br (pb T J (.cQ (j:=2) [nl,nl] J J J J J J J (.tmp J .nil)) [4,4,0] ⟨(_,_),none,0,[],none,0,[],aj.nil,aj.nil,J,J⟩ J J))
 refine rc T 4 (lm T 1 J (ro T 3 (nc T J (λb6=>ro T 2 (ke [4,6,8] [0,1,1,1] J J (rx T 5 (nc T J (λb7=>sg T 4 J (ro T 11 (br (lq [4,8,9,29] [0,0,1,0] (λ(⟨k6,x4,x5,a9,n9,H9⟩:Nat×List Int×Int×Option Addr×Nat×Hp)=>(nK.l0 k6 t l v1 x4 x5=some r/\aj (Fl.int .i64) 3 x4 a9 n9 H9,[(30,(ii x5))],[(cl b7 79 [(ll a3 v1.1 n3),(ll a9 x4 n9)]),H9])) J J (fuel,[],0,none,0,[]) [0,0,1,0,0,0] ⟨H,aj.nil⟩ J J ?_)))))))))));rintro k6 ⟨x4,x5,a9,n9,H9⟩ ⟨Z3,s9⟩;rw[nK.l0] at Z3;refine rc T 6 (cd J Z3 (λZ3=>?_) (λZ3=>?_))
 ·refine rc T 10 (fz J (rg [6,8] [0,0,0,0,0,0] mix (bO bN) (λhg pf=>ha T 8 [0] sz hg pf J (av 1 sz hg pf J (aw T J J J J (aD (j:=4) J J)) (ha T 5 [2,3] sz hg pf J (ao 4 (kh [] J acM Z3 (CX.c (h:=(CW.mk t l v1.1)) · (yX (j:=2) J) (rO dH 0) ff (rO dg 0) gn (oO s3 3) s3.bW) (λv7 Z3=>an sz (ao 5 (cU (k:=(Fl.int .i64)) T [v7] J J J J J J J J J (λcw bV bS=>an (so [0,0,0,0,0,0]) (ao 6 ?_))))))))))));obtain⟨c6,Z3⟩:=az Z3;refine dM (k:=(Fl.int .i64)) (xs:=x4) T (g:=5) J J J J J J J J J J s9 (oO bS 6) c6 J (λdt n11 cA cS=>an sl (hb T 7 sl hg pf J (ao 8 (sf T 4 J (an sl (ae (rx T 7 (ar (_,_,_,_,_) [0,0,0,0,0,0] ⟨Z3,cS⟩ J J))))))))
 refine rc T 7 (lm T 4 J (sg T 1 J (ro T 4 ?_)))
 cases Z3;exact pb T J (.cQ (j:=1) [(ll a3 v1.1 n3),(ll a9 x4 n9)] J J J J J J J (.tmp J .nil)) [3,4,0] ⟨(_,_),a3,n3,H3,a9,n9,H9,s3,s9,J,J⟩ J J
end
noncomputable section
def xE.f (ag:Int):Option (Option iU):=if ag<1 then(some none) else((xe.f ag).bind λv1=>c_ v1 (none) (λeW=>some (some (iU.mk eW [] (gv.mk 0 0 0 0 0 0)))))
def xE.R (r:(Option iU)) (u:Value) (G:List Hp):Prop:= ∃(u0:Value) (G0:List Hp),Xy r u0 G0/\u=u0/\G=G0
theorem xE.c (H:xE.f ag=some r):
 QR 77 [(ii ag)] [] [] F (xE.R r):=by
 unfold xE.f at H;refine aB Tryz.func77 J J (λW=>rc T 12 (cd J H (λH=>?_) (λH=>?_)))
 ·refine rc T 7 ?_
  cases H;exact p1 T J [0] ⟨_,_,⟨J,J⟩,J,J⟩ J
 refine rc T 5 (kr xe.R [] [] J abO H (xe.c ·) (λv1 H=>?_));rintro _ _ ⟨_,_,O3,rfl,rfl⟩;rcases v1 with _ |eW
 ·replace H:=eJ J H
  cases H
 replace H:=eK J H;obtain⟨b1,a2,n2,H2,a3,H3,s2,s3,rfl,rfl⟩:=O3;refine ro T 1 (nc T J (λb4=>ro T 4 ?_))
 cases H;refine br (gj [4,1,1,1,1] J (p1 T J [1,0] ⟨_,_,⟨b4,(List.flatten [(cl b4 173 [(pp b1),nl,(uu 0),(uu 0),(uu 0),(uu 0),(uu 0),(uu 0)]),(cl b1 238 [(ii eW.k),(ll a2 eW.ak n2),(.map (some a3)),(ii eW.cy),(ii eW.cZ)]),H2,H3,[]]),(show ri (iU.mk eW [] (gv.mk 0 0 0 0 0 0)) b4 (List.flatten [(cl b4 173 [(pp b1),nl,(uu 0),(uu 0),(uu 0),(uu 0),(uu 0),(uu 0)]),(cl b1 238 [(ii eW.k),(ll a2 eW.ak n2),(.map (some a3)),(ii eW.cy),(ii eW.cZ)]),H2,H3,[]]) from⟨b1,a2,n2,H2,a3,H3,none,0,[],s2,s3,(gu.nil (kd:=Eg) (E:=291)),J⟩),J,J⟩,J,J⟩ J))
def pw.f (s:iU):Option iU:=(yW.f s.keys).bind λv1=>some (iU.mk v1 [] s.count)
def pw.R (nf:Nat) (r:iU) (u:Value) (G:List Hp):Prop:= ∃(H0:Hp),ri r nf H0/\u=(.tuple #[])/\G=[H0]
theorem pw.c (H:pw.f s=some r) (cF:ri s bd dr):
 QR 117 [(pp bd)] [dr] [] F (pw.R bd r):=by
 unfold pw.f at H;refine aB Tryz.func117 J J (λW=>rc T 6 (mW J (rc T 1 ?_)));obtain⟨b3,a4,n4,H4,a5,H5,a6,n6,H6,s4,s5,s6,bT⟩:=(λx=>x) cF;refine bz 0 (congrArg some bT) (fz J (rc T 4 (lf T 1 J (kr (yW.R b3) [] [2,2,2] J Sl H (yW.c · s4 s5) (λv1 H=>?_)))));rintro _ _ ⟨a7,n7,H7,a8,H8,s7,s8,rfl,rfl⟩;refine fz J (ro T 6 (sg T 1 J (ro T 1 (i_ ?_))))
 cases H;refine br (gj [1,2,2,2,2] J (p1 T J [2,0] ⟨(List.flatten [(cl bd 173 [(pp b3),nl,(uu s.count.bC),(uu s.count.bD),(uu s.count.bA),(uu s.count.bx),(uu s.count.bM),(uu s.count.bE)]),(cl b3 238 [(ii v1.k),(ll a7 v1.ak n7),(.map (some a8)),(ii v1.cy),(ii v1.cZ)]),H7,H8,[]]),(show ri (iU.mk v1 [] s.count) bd (List.flatten [(cl bd 173 [(pp b3),nl,(uu s.count.bC),(uu s.count.bD),(uu s.count.bA),(uu s.count.bx),(uu s.count.bM),(uu s.count.bE)]),(cl b3 238 [(ii v1.k),(ll a7 v1.ak n7),(.map (some a8)),(ii v1.cy),(ii v1.cZ)]),H7,H8,[]]) from⟨b3,a7,n7,H7,a8,H8,none,0,[],s7,s8,(gu.nil (kd:=Eg) (E:=291)),J⟩),J,J⟩ J))
def mg.f (count:Int):Option Int:=(rR.f count 1).bind λv1=>some v1
def mg.R (Z0:Nat) (ZO:TypeId) (aaw aax:List Value) (r:Int) (u:Value) (G:List Hp):Prop:=u=(.tuple #[])/\G=[[(Z0,Obj.cells (aaw++(Value.int .u64 r)::aax).toArray ZO (0,0))]]
theorem mg.c (H:mg.f count=some r):
 QR 186 [(.pointer (some ⟨Qr,List.length pre_count,none⟩))] [[(Qr,Obj.cells (pre_count++(uu count)::post_count).toArray XF (0,0))]] [] F (mg.R Qr XF pre_count post_count r):=by
 unfold mg.f at H;refine aB Tryz.func186 J J (λW=>rc T 4 (lg T J (aet (j:=0) J) (k [] J Jj H (rR.c ·) (λv1 H=>ro T 1 (aW (Y1 T 0 J J J J J J ?_))))));refine ro T 1 (i_ ?_)
 cases H;exact p1 T J [0,0] ⟨J,J⟩ J
def tl.f (ag:fX):Option fX:=(p8.f ag.fa).bind λv1=>(p8.f ag.cz).bind λv2=>some (fX.mk v1 v2)
def tl.R (r:fX) (u:Value) (G:List Hp):Prop:= ∃(a0:Option Addr) (n0:Nat) (H0:Hp) (a1:Option Addr) (n1:Nat) (H1:Hp),aj (Fl.int .i64) 3 r.fa a0 n0 H0/\aj (Fl.int .i64) 3 r.cz a1 n1 H1/\u=(.agg #[(ll a0 r.fa n0),(ll a1 r.cz n1)])/\G=[H0,H1]
theorem tl.c (H:tl.f ag=some r) (abK:aS (Fl.int .i64) ag.fa XO F) (ZS:List.length ag.fa<=afU) (abJ:aS (Fl.int .i64) ag.cz XN F) (ZR:List.length ag.cz<=afT):
 QR 187 [(.agg #[(ll XO ag.fa afU),(ll XN ag.cz afT)])] [] [] F (tl.R r):=by
 unfold tl.f at H;refine aB Tryz.func187 J J (λW=>rc T 2 (nc T J (λb1=>nc T J (λb2=>ro T 3 (ks [1,2] J (fz J (rg [7] [0,0,0] mix (bO bN) (λhg pf=>ha T 7 [0] sz hg pf J (av 1 sz hg pf J (aw T J J J J (aD (j:=1) J J)) (ha T 5 [3] sz hg pf J (av 4 sz hg pf J (aw T J J J J (aD (j:=1) J J)) (ao 2 (kR p8.R [] [] J MY H (p8.c · (rO abK 0) ZS) (λv1 H=>?_))))))))))))));rintro _ _ ⟨a3,n3,H3,s3,rfl,rfl⟩;refine fz J (an (so [0,0,0]) (ao 5 (kR p8.R [] [] J MY H (p8.c · (rO abJ 0) ZR) (λv2 H=>?_))));rintro _ _ ⟨a4,n4,H4,s4,rfl,rfl⟩;refine fz J (an (so [0,0,0]) (ha T 1 [6] (so [0,0,0]) hg pf J (ao 7 (sf T 2 J (an sl (ae (rx T 1 (rc T 1 ?_))))))))
 cases H;exact pb T J (.cQ (j:=2) [(ll a3 v1 n3),(ll a4 v2 n4)] J J J J J J J .nil) [3,3,0] ⟨(_,_),a3,n3,H3,a4,n4,H4,s3,s4,J,J⟩ J J
def mf.f (s:iU) (goal:Int) (bB:Int) (version:Int) (t:aJ) (l:(List aZ)):Option (fX×Int×iU):=(zo.f t l).bind λv1=>if(!v1)=true then(some ((fX.mk [] []),1,s)) else((xc.f s.keys goal bB).bind λv2=>(if(v2.1==(List.length s.fields:Int))=true then(if(List.length s.fields+1<=1099511627776) then(some (s.fields++[(pZ.mk 0 [] (fX.mk [] []))])) else none) else(some s.fields)).bind λx3=>if(0<=v2.1/\v2.1<(List.length x3:Int)) then((if v2.2.1=true then(if((rd x3 v2.1).version==version)=true then((AU.f ((rd x3 v2.1).tk) l).bind λv7=>some v7) else(some false)) else(some false)).bind λx5=>if x5=true then((mg.f s.count.bx).bind λv8=>(tl.f ((rd x3 v2.1).field)).bind λv9=>some (v9,0,(iU.mk v2.2.2.2 x3 (gv.mk s.count.bC s.count.bD s.count.bA v8 s.count.bM s.count.bE)))) else((if v2.2.1=true then((mg.f s.count.bM).bind λv12=>some v12) else(some s.count.bM)).bind λaM=>(if v2.2.2.1=true then((mg.f s.count.bE).bind λdi=>some di) else(some s.count.bE)).bind λaT=>(mg.f s.count.bA).bind λdU=>(nK.f t l).bind λv17=>(rP.f l).bind λfF=>(tl.f v17.1).bind λnO=>some (nO,0,(iU.mk v2.2.2.2 (List.set x3 (Int.toNat v2.1) (pZ.mk version fF v17.1)) (gv.mk s.count.bC s.count.bD dU s.count.bx aM aT))))) else none)
def mf.R (nf:Nat) (r:(fX×Int×iU)) (u:Value) (G:List Hp):Prop:= ∃(a0:Option Addr) (n0:Nat) (H0:Hp) (a1:Option Addr) (n1:Nat) (H1:Hp) (H2:Hp),aj (Fl.int .i64) 3 r.1.fa a0 n0 H0/\aj (Fl.int .i64) 3 r.1.cz a1 n1 H1/\ri r.2.2 nf H2/\u=(.tuple #[(.agg #[(ll a0 r.1.fa n0),(ll a1 r.1.cz n1)]),(ii r.2.1)])/\G=[H0,H1,H2]
theorem mf.c (H:mf.f s goal bB version t l=some r) (cF:ri s bd dr) (dH:aS (Fl.int .u8) t.C iv F) (ff:List.length t.C<=iy) (dg:aS cI l iu F) (gn:List.length l<=ic):
 QR 144 [(pp bd),(ii goal),(ii bB),(ii version),(.agg #[(ii t.W),(ii t.H),(ll iv t.C iy)]),(ll iu l ic)] [dr] [] F (mf.R bd r):=by
 unfold mf.f at H;refine aB Tryz.func144 J J (λW=>rc T 2 (nc T J (λb2=>nc T J (λb3=>ro T 9 (lm T 2 J (ro T 1 (k [] J Sw H (zo.c · (rO dH 1) ff (rO dg 1) gn) (λv1 H=>ro T 4 (cb J H (λH=>?_) (λH=>?_))))))))))
 ·refine rc T 3 (sg T 3 J (ro T 5 ?_))
  cases H;refine br (br (pb T J (.cQ (j:=3) [nl,nl] J J J J J J J (.tmp J .nil)) [4,4,0,0] ⟨(_,_),none,0,[],none,0,[],dr,aj.nil,aj.nil,cF,J,J⟩ J J))
 refine rc T 3 ?_;obtain⟨b7,a8,n8,H8,a9,H9,cw,n10,bV,s8,s9,bS,hH6⟩:=(λx=>x) cF;refine bz 0 (congrArg some hH6) (fz J (rc T 4 (lf T 3 J (ro T 2 (kr (xc.R b7) [] [4,4,4] J acn H (xc.c · s8 s9) (λv2 H=>?_))))));rintro _ _ ⟨dt,n11,cA,a12,dw,cS,dD,rfl,rfl⟩;refine fz J (ro T 9 (mq H [0,3,5,10,12,14,15,16] [0,4,4,4,0,0] (λz4 (⟨x3,dy,n13,eo⟩:List pZ×Option Addr×Nat×Hp)=>(x3=z4/\gu Eg 291 x3 dy n13 eo,[],[(cl bd 173 [(pp b7),(ll dy x3 n13),(uu s.count.bC),(uu s.count.bD),(uu s.count.bA),(uu s.count.bx),(uu s.count.bM),(uu s.count.bE)]),eo])) J J (λz4 Z4 _=>?_) ?_))
 ·refine rc T 6 (lf T 3 J (ro T 4 (cb J Z4 (λZ4=>?_) (λZ4=>?_))))
  ·refine rc T 5 (lf T 3 J (ro T 1 (br (br (br (gj [8,8,8] J (aW (Ff (kd:=Eg) (E:=291) (q:=8) (c:=[(ii 0),nl,nl,nl]) T (pZ.mk 0 [] (fX.mk [] [])) J J J J J J J J J J ⟨none,0,[],none,0,[],none,0,[],(aj.nil (k:=cI) (E:=285)),(aj.nil (k:=(Fl.int .i64)) (E:=3)),(aj.nil (k:=(Fl.int .i64)) (E:=3)),J,J⟩ (λiY fb fq=>?_)))))))));obtain⟨c6,Z4⟩:=az Z4;refine aW (Fe (kd:=Eg) (xs:=s.fields) (ys:=[(pZ.mk 0 [] (fX.mk [] []))]) T (g:=4) (q:=9) J J J J J J J J J J bS J J fq c6 J (λl9 n19 kF gQ=>ro T 2 (sg T 3 J (ro T 1 (ke [0,3,5,10,12,14,15,16] [0,0,0,0,0,0,0,0] J J (rx T 1 (am (_,_,_,_) [0,4,4,4,0,0,0,0] ⟨oi Z4,gQ⟩ J J)))))))
  refine rc T 2 (am (_,_,_,_) [0,4,4,4,0,0,0,0] ⟨oi Z4,bS⟩ J J)
 rintro _ ⟨x3,dy,n13,eo⟩ ⟨rfl,dh⟩ H;refine rc T 5 (lf T 6 J (ro T 1 ?_));obtain⟨c7,H⟩:=az H;obtain⟨VD,UZ,sw⟩:=dh.r.addr c7.1 c7.2;refine ix T J sw c7 (ro T 4 (mq H [0,3,5,10,12,15,16,17] [0,5,0,0,0,2,0,0] (λz6 (x5:Bool)=>(x5=z6,[(79,(bb x5))],[])) J J (λz6 Z8 _=>?_) ?_))
 ·refine rc T 3 (ab 64 J Z8 (λZ8=>?_) (λZ8=>?_))
  ·refine ro T 3 ?_;obtain⟨_,W2,⟨a21,n21,a22,n22,a23,n23,⟨r21,m21⟩,⟨r22,m22⟩,⟨r23,m23⟩,rfl⟩⟩:=ml.view dh.r c7;refine lg T J (yR (j:=7) J W2 sw 0 J) (ro T 4 (ab 72 J Z8 (λZ8=>?_) (λZ8=>?_)))
   ·refine ro T 3 (lg T J (yR (j:=7) J W2 sw 1 J) (ro T 1 (k [] J aco Z8 (AU.c · (rO r21 7) m21 (rO dg 0) gn) (λv7 Z8=>ro T 3 (am _ [0,5,0,0,0,2,0,0] (oi Z8) J J)))))
   refine ro T 9 (am _ [0,5,0,0,0,2,0,0] (oi Z8) J J)
  refine ro T 17 (am _ [0,5,0,0,0,2,0,0] (oi Z8) J J)
 rintro _ x5 rfl H;refine cb J H (λH=>?_) (λH=>?_)
 ·refine rc T 6 (kr (mg.R bd 173 [(pp b7),(ll dy x3 n13),(uu s.count.bC),(uu s.count.bD),(uu s.count.bA)] [(uu s.count.bM),(uu s.count.bE)]) [] [1] J Jn H (mg.c (pre_count:=[(pp b7),(ll dy x3 n13),(uu s.count.bC),(uu s.count.bD),(uu s.count.bA)]) (post_count:=[(uu s.count.bM),(uu s.count.bE)]) ·) (λv8 H=>?_));rintro _ _ ⟨rfl,rfl⟩;refine fz J (ro T 7 ?_);obtain⟨_,w28,⟨a25,n25,a26,n26,Iv,n27,⟨r25,m25⟩,⟨r26,m26⟩,⟨r27,m27⟩,rfl⟩⟩:=ml.view dh.r c7;refine bp J (fm T (cs:=[(ll a26 (rd x3 v2.1).field.fa n26),(ll Iv (rd x3 v2.1).field.cz n27)]) J J J J J J (NV (j:=4) J w28 sw 2 J)) (kr tl.R [] [] J Sy H (tl.c · (rO r26 4) m26 (rO r27 4) m27) (λv9 H=>?_));rintro _ _ ⟨yi,n29,qY,Bp,n30,qZ,qI,pn,rfl,rfl⟩;refine fz J (sg T 6 J (ro T 5 ?_))
  cases H;refine gj [7,1,1,1,1] J (pb T J (.cQ (j:=2) [(ll yi v9.fa n29),(ll Bp v9.cz n30)] J J J J J J J (.tmp J .nil)) [3,3,3,0] ⟨(_,_),yi,n29,qY,Bp,n30,qZ,(List.flatten [(cl bd 173 [(pp b7),(ll dy x3 n13),(uu s.count.bC),(uu s.count.bD),(uu s.count.bA),(uu v8),(uu s.count.bM),(uu s.count.bE)]),(cl b7 238 [(ii v2.2.2.2.k),(ll dt v2.2.2.2.ak n11),(.map (some a12)),(ii v2.2.2.2.cy),(ii v2.2.2.2.cZ)]),cA,dw,eo]),qI,pn,(show ri (iU.mk v2.2.2.2 x3 (gv.mk s.count.bC s.count.bD s.count.bA v8 s.count.bM s.count.bE)) bd (List.flatten [(cl bd 173 [(pp b7),(ll dy x3 n13),(uu s.count.bC),(uu s.count.bD),(uu s.count.bA),(uu v8),(uu s.count.bM),(uu s.count.bE)]),(cl b7 238 [(ii v2.2.2.2.k),(ll dt v2.2.2.2.ak n11),(.map (some a12)),(ii v2.2.2.2.cy),(ii v2.2.2.2.cZ)]),cA,dw,eo]) from⟨b7,dt,n11,cA,a12,dw,dy,n13,eo,cS,dD,dh,J⟩),J,J⟩ J J)
 refine rc T 2 (mq H [0,3,5,10,12,16,17] [0,1,1,1,1,1,1] (λiW (aM:Int)=>(aM=iW,[],[(cl bd 173 [(pp b7),(ll dy x3 n13),(uu s.count.bC),(uu s.count.bD),(uu s.count.bA),(uu s.count.bx),(uu aM),(uu s.count.bE)])])) J J (λiW cm _=>?_) ?_)
 ·refine rc T 5 (cb J cm (λcm=>?_) (λcm=>?_))
  ·refine rc T 5 (kr (mg.R bd 173 [(pp b7),(ll dy x3 n13),(uu s.count.bC),(uu s.count.bD),(uu s.count.bA),(uu s.count.bx)] [(uu s.count.bE)]) [] [1] J Jn cm (mg.c (pre_count:=[(pp b7),(ll dy x3 n13),(uu s.count.bC),(uu s.count.bD),(uu s.count.bA),(uu s.count.bx)]) (post_count:=[(uu s.count.bE)]) ·) (λv12 cm=>?_));rintro _ _ ⟨rfl,rfl⟩;refine fz J (ro T 2 (am _ [0,0,0,0,0,0,0,0] (oi cm) J J))
  refine rc T 2 (am _ [0,1,1,1,1,1,1,0] (oi cm) J J)
 rintro _ aM rfl H;refine mq H [0,3,5,10,12,17] [0,0,0,0,0,0,0] (λHZ (aT:Int)=>(aT=HZ,[],[(cl bd 173 [(pp b7),(ll dy x3 n13),(uu s.count.bC),(uu s.count.bD),(uu s.count.bA),(uu s.count.bx),(uu aM),(uu aT)])])) J J (λHZ kG _=>?_) ?_
 ·refine rc T 5 (cb J kG (λkG=>?_) (λkG=>?_))
  ·refine rc T 5 (kr (mg.R bd 173 [(pp b7),(ll dy x3 n13),(uu s.count.bC),(uu s.count.bD),(uu s.count.bA),(uu s.count.bx),(uu aM)] []) [] [7] J Jn kG (mg.c (pre_count:=[(pp b7),(ll dy x3 n13),(uu s.count.bC),(uu s.count.bD),(uu s.count.bA),(uu s.count.bx),(uu aM)]) (post_count:=[]) ·) (λdi kG=>?_));rintro _ _ ⟨rfl,rfl⟩;refine fz J (ro T 2 (am _ [0,0,0,0,0,0,0,0] (oi kG) J J))
  refine rc T 2 (am _ [0,0,0,0,0,0,0,0] (oi kG) J J)
 rintro _ aT rfl H;refine rc T 6 (kr (mg.R bd 173 [(pp b7),(ll dy x3 n13),(uu s.count.bC),(uu s.count.bD)] [(uu s.count.bx),(uu aM),(uu aT)]) [] [7] J Jn H (mg.c (pre_count:=[(pp b7),(ll dy x3 n13),(uu s.count.bC),(uu s.count.bD)]) (post_count:=[(uu s.count.bx),(uu aM),(uu aT)]) ·) (λdU H=>?_));rintro _ _ ⟨rfl,rfl⟩;refine fz J (ro T 4 (lm T 5 J (ro T 1 (kr nK.R [] [] J acp H (nK.c · (rO dH 0) ff (rO dg 0) gn) (λv17 H=>?_)))));rintro _ _ ⟨a31,n31,Bh,a32,n32,Ig,zi,zj,rfl,rfl⟩;refine fz J (ro T 3 (nc T J (λb33=>sg T 10 J (ro T 4 (ke [3,5,12,17,18] [0,0,0,0,0,1,1,1,1,1] J J (fz J (rg [7] [0,0,0,0,0,0,0,0,0,0] mix (bO bN) (λhg pf=>ha T 5 [0,1,2] sz hg pf J (av 4 sz hg pf J (gA T 9 J J J J J J J) (ao 3 (kR rP.R [] [] J Sz H (rP.c · (rO dg 0) gn) (λfF H=>?_))))))))))));rintro _ _ ⟨EY,n34,uy,xB,rfl,rfl⟩;refine fz J (an (so [0,0,0,0,0,0,0,0,0,0]) (ha T 1 [5,6] (so [0,0,0,0,0,0,0,0,0,0]) hg pf J (ao 7 (LB (j:=4) J dh c7 (λ_ _ zJ U0 AO=>?_)))));obtain⟨a35,n35,Ii,zO,n36,zI,a37,n37,EN,Kx,CH,CI,rfl,rfl⟩:=U0;refine LF (LC T 4 0 [(ii version),(ll EY fF n34),(ll a31 v17.1.fa n31),(ll a32 v17.1.cz n32)] J J J J J J AO sw J J J J (λK_ AP=>an sl (ae (rx T 3 (lm T 9 J (kr tl.R [] [] J Sy H (tl.c · (oO zi 7) zi.bW (oO zj 8) zj.bW) (λnO H=>?_)))))));rintro _ _ ⟨a40,n40,La,a41,n41,EO,El,zk,rfl,rfl⟩;refine fz J (sg T 5 J (ro T 2 (gj [10,7,7] J (LA (j:=4) (q:=13) (pZ.mk version fF v17.1) J AP J J ⟨EY,n34,uy,a31,n31,Bh,a32,n32,Ig,xB,zi,zj,J,J⟩ (λgr sY=>kg [12,13] [0,0,0,0,0,0,5,5] [0,0,0,0,0,0,5,5,0] [] [(cl bd 173 [(pp b7),(ll dy (List.set x3 (Int.toNat v2.1) (pZ.mk version fF v17.1)) n13),(uu s.count.bC),(uu s.count.bD),(uu dU),(uu s.count.bx),(uu aM),(uu aT)])] J J trivial (by first |rfl |(simp only[ll,List.length_set];rfl)) (rx T 2 ?_))))))
 cases H;refine gj [8,1,1,1,1] J (pb T J (.cQ (j:=1) [(ll a40 nO.fa n40),(ll a41 nO.cz n41)] J J J J J J J (.tmp J .nil)) [2,2,2,0] ⟨(_,_),a40,n40,La,a41,n41,EO,(List.flatten [(cl bd 173 [(pp b7),(ll dy (List.set x3 (Int.toNat v2.1) (pZ.mk version fF v17.1)) n13),(uu s.count.bC),(uu s.count.bD),(uu dU),(uu s.count.bx),(uu aM),(uu aT)]),(cl b7 238 [(ii v2.2.2.2.k),(ll dt v2.2.2.2.ak n11),(.map (some a12)),(ii v2.2.2.2.cy),(ii v2.2.2.2.cZ)]),cA,dw,gr]),El,zk,(show ri (iU.mk v2.2.2.2 (List.set x3 (Int.toNat v2.1) (pZ.mk version fF v17.1)) (gv.mk s.count.bC s.count.bD dU s.count.bx aM aT)) bd (List.flatten [(cl bd 173 [(pp b7),(ll dy (List.set x3 (Int.toNat v2.1) (pZ.mk version fF v17.1)) n13),(uu s.count.bC),(uu s.count.bD),(uu dU),(uu s.count.bx),(uu aM),(uu aT)]),(cl b7 238 [(ii v2.2.2.2.k),(ll dt v2.2.2.2.ak n11),(.map (some a12)),(ii v2.2.2.2.cy),(ii v2.2.2.2.cZ)]),cA,dw,gr]) from⟨b7,dt,n11,cA,a12,dw,dy,n13,gr,cS,dD,sY,J⟩),J,J⟩ J J)
def Ew.f (s:iU):Option gv:=some s.count
theorem Ew.c (H:Ew.f s=some r) (cF:ri s bd dr):
 QU 80 [(pp bd)] [dr] F (.agg #[(uu r.bC),(uu r.bD),(uu r.bA),(uu r.bx),(uu r.bM),(uu r.bE)]):=by
 unfold Ew.f at H;refine aB Tryz.func80 J J (λW=>rc T 2 (nc T J (λb2=>ro T 9 (dW J (rc T 3 ?_)))));obtain⟨b4,a5,n5,H5,a6,H6,a7,n7,H7,s5,s6,s7,dp⟩:=(λx=>x) cF;refine bz 0 (congrArg some dp) (fz J (rc T 4 (lm T 2 J (sg T 1 J (ro T 3 ?_)))))
 cases H;refine cV [2,2,2,2,2] J dp (pb T J (.cQ (j:=1) [(uu s.count.bC),(uu s.count.bD),(uu s.count.bA),(uu s.count.bx),(uu s.count.bM),(uu s.count.bE)] J J J J J J J .nil) [2,0] () J J)
def zp.f (s:iU):Option (List (Int×Int)):=(og.f s.keys).bind λv1=>some v1
def zp.R (r:(List (Int×Int))) (u:Value) (G:List Hp):Prop:= ∃(a0:Option Addr) (n0:Nat) (H0:Hp),aj (Fl.pair .i64) 76 r a0 n0 H0/\u=(ll a0 r n0)/\G=[H0]
theorem zp.c (H:zp.f s=some r) (cF:ri s bd dr):
 QR 99 [(pp bd)] [dr] [dr] F (zp.R r):=by
 unfold zp.f at H;refine aB Tryz.func99 J J (λW=>rc T 12 (dW J (rc T 3 ?_)));obtain⟨b3,a4,n4,H4,a5,H5,a6,n6,H6,s4,s5,s6,bT⟩:=(λx=>x) cF;refine bz 0 (congrArg some bT) (fz J (rc T 4 (lf T 1 J (kr og.R [2,2,2] [2,2,2] J ab1 H (og.c · s4 s5) (λv1 H=>?_)))));rintro _ _ ⟨a7,n7,H7,s7,rfl,rfl⟩;refine fz J (ro T 4 ?_)
 cases H;refine cV [1,3,3,3,1] J bT (p1 T J [1,1,0] ⟨a7,n7,H7,s7,J,J⟩ J)
end
end Go.Proofs.YthodkonhneebbaaGreatDoor
