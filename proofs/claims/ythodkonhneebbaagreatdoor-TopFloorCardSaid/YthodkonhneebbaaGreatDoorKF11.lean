/- What the functions of some packages compute, each as a function of plain Lean, with its contract. No condition. -/
import Derived.Test.YthodkonhneebbaaGreatDoorKFT
import Derived.Test.YthodkonhneebbaaGreatDoorKF7
import Derived.Test.YthodkonhneebbaaGreatDoorKF8
import Derived.Test.YthodkonhneebbaaGreatDoorKF10
import Derived.Test.YthodkonhneebbaaGreatDoorKF5
import Derived.Test.YthodkonhneebbaaGreatDoorKF6
namespace Go.Proofs.YthodkonhneebbaaGreatDoor
open Go.Hx
set_option maxRecDepth 100000
set_option linter.unusedSimpArgs false
set_option linter.unusedVariables false
set_option maxHeartbeats 4000000
set_option autoImplicit true
set_option relaxedAutoImplicit true
noncomputable section
def GZ.f:Option Int:=some 0
theorem GZ.c (H:GZ.f=some r):
 QU 108 [(.pointer none)] [] F (uu r):=by
 unfold GZ.f at H;refine aB Tryz.func108 J J (λW=>rc T 12 (mY J (rc T 7 ?_)))
 cases H;exact p0 T J [0] J
def G1.f (ag:j6) (jM:dH) (eV:bw):Option Int:=some ag.count
theorem G1.c (H:G1.f ag jM eV=some r) (cF:tr ag aW lM jH cW) (ze:mw jM lM jH oA) (px:iE eV jH l_):
 QU 108 [(pp aW)] [cW,oA,l_] F (uu r):=by
 unfold G1.f at H;refine aB Tryz.func108 J J (λW=>rc T 12 (eD J (rc T 3 ?_)));obtain⟨A',H7,s7,kS⟩:=(λx=>x) cF;refine bP 0 (congrArg some kS) (fz J (rc T 4 (lf T 3 J (ro T 4 ?_))))
 cases H;refine dj [3,3] J kS (p0 T J [3,0,0,0] J)
def sN.f (m:dH) (g:bw):Option (Option j6):=some (some (j6.mk none 0))
def sN.R (w0:Nat) (w1:Nat) (r:(Option j6)) (u:Value) (G:List Hp):Prop:= ∃(u0:Value) (G0:List Hp),Xo w0 w1 r u0 G0/\u=u0/\G=G0
theorem sN.c (H:sN.f m g=some r) (rJ:mw m iI eY mT) (fB:iE g eY fY):
 QR 151 [(pp iI),(pp eY)] [mT,fY] [mT,fY] F (sN.R iI eY r):=by
 unfold sN.f at H;refine aB Tryz.func151 J J (λW=>rc T 16 (eD J (rc T 7 (nc T J (λb3=>ro T 4 ?_)))))
 cases H;refine bq (gi [3,3] J (p1 T J [3,0,0,0] ⟨_,_,⟨b3,(List.flatten [(cl b3 233 [(pp iI),(pp eY),(.pointer none),(uu 0)]),[]]),(show tr (j6.mk none 0) b3 iI eY (List.flatten [(cl b3 233 [(pp iI),(pp eY),(.pointer none),(uu 0)]),[]]) from⟨(.pointer none),[],(show K9 none iI eY (.pointer none) [] from⟨J,J⟩),J⟩),J,J⟩,J,J⟩ J))
def G2.f:Option Unit:=some ()
theorem G2.c (H:G2.f=some r):
 QU 118 [(.pointer none)] [] F (.tuple #[]):=by
 unfold G2.f at H;refine aB Tryz.func118 J J (λW=>rc T 6 (eD J (rc T 1 (jd ?_))))
 cases H;exact p0 T J [0] J
def AK.f (ag:j6) (jM:dH) (eV:bw):Option j6:=some (j6.mk none ag.count)
def AK.R (ng:Nat) (NV:Nat) (NW:Nat) (r:j6) (u:Value) (G:List Hp):Prop:= ∃(H0:Hp),tr r ng NV NW H0/\u=(.tuple #[])/\G=[H0]
theorem AK.c (H:AK.f ag jM eV=some r) (cF:tr ag aW lM jH cW) (ze:mw jM lM jH oA) (px:iE eV jH l_):
 QR 118 [(pp aW)] [cW,oA,l_] [oA,l_] F (AK.R aW lM jH r):=by
 unfold AK.f at H;refine aB Tryz.func118 J J (λW=>rc T 6 (mY J ?_));obtain⟨A',H7,s7,kS⟩:=(λx=>x) cF;refine bP 0 (congrArg some kS) (fz J (rc T 4 (sg T 3 J (ro T 1 (jd ?_)))))
 cases H;refine bq (gi [3,4] J (p1 T J [4,0,0,0] ⟨(List.flatten [(cl aW 233 [(pp lM),(pp jH),(.pointer none),(uu ag.count)]),[]]),(show tr (j6.mk none ag.count) aW lM jH (List.flatten [(cl aW 233 [(pp lM),(pp jH),(.pointer none),(uu ag.count)]),[]]) from⟨(.pointer none),[],(show K9 none lM jH (.pointer none) [] from⟨J,J⟩),J⟩),J,J⟩ J))
def jn.l1:Nat->Int->bw->(Int×Int)->(List (Int×Int))->Int->Int->List dG->Int->Option ((List (Int×Int))×(List dG))
 |0,_,_,_,_,_,_,_,_=>none
 |pd+1,goal,eV,v1,bg,bd,aU,bU,dz=>if dz<=3 then((l8.f v1.1 v1.2 bd dz).bind λv25=>(if v25<0 then(some true) else((gG.f v1.1 v1.2 v25).bind λv28=>(gG.f v1.1 v1.2 goal).bind λrN=>if(v28 !=rN)=true then(some true) else((jf.f eV v25).bind λv30=>some (v30==255)))).bind λdC=>if dC=true then(jn.l1 pd goal eV v1 bg bd aU bU (aa (dz+1))) else((jf.f eV bd).bind λv31=>(np.f (eK.mk bU) (aa (aU+v31)) v25).bind λv32=>jn.l1 pd goal eV v1 bg bd aU v32.l (aa (dz+1)))) else(some ((cE bg bd aU),bU))
def jn.l0:Nat->Int->bw->(Int×Int)->(List (Int×Int))->List dG->Int->Int->Bool->Option (List (Int×Int))
 |0,_,_,_,_,_,_,_,_=>none
 |yL+1,goal,eV,v1,bg,bt,aU,bd,cm=>if cm=true then((if(bM bg bd)=true then(some (bg,bt)) else(jn.l1 fuel goal eV v1 bg bd aU bt 0)).bind λ(c_,dQ)=>(nn.f (eK.mk dQ)).bind λv33=>jn.l0 yL goal eV v1 c_ v33.2.2.2.l v33.1 v33.2.1 v33.2.2.1) else(some bg)
def jn.f (ag:j6) (goal:Int) (jM:dH) (eV:bw):Option (List (Int×Int)):=(iJ.f eV).bind λv1=>(jf.f eV goal).bind λv2=>if(v2==255)=true then(some ([]:(List (Int×Int)))) else((u_.f).bind λv3=>dq v3 (none) (λzx=>(np.f zx 0 goal).bind λv4=>(nn.f v4).bind λv5=>jn.l0 fuel goal eV v1 ([]:(List (Int×Int))) v5.2.2.2.l v5.1 v5.2.1 v5.2.2.1))
def jn.R (r:(List (Int×Int))) (u:Value) (G:List Hp):Prop:= ∃(a0:Nat) (H0:Hp),cP (Ky.int .i64 u3) (λx:Int=>Value.int .i64 x) r a0 H0/\u=(.map (some a0))/\G=[H0]
theorem jn.c (H:jn.f ag goal jM eV=some r) (cF:tr ag aW lM jH cW) (ze:mw jM lM jH oA) (px:iE eV jH l_):
 QR 214 [(pp aW),(ii goal)] [cW,oA,l_] [cW,oA,l_] F (jn.R r):=by
 unfold jn.f at H;refine aB Tryz.func214 J J (λW=>rc T 6 ?_);obtain⟨A',H7,s7,kS⟩:=(λx=>x) cF;refine bP 0 (congrArg some kS) (fz J (rc T 4 (lf T 3 J (k [1] J tI H (iJ.c · px) (λv1 H=>ro T 9 (aX (uD T (Ky.int .i64 u3) (λx:Int=>Value.int .i64 x) J J J trivial (λa8 H8 s8=>ro T 9 (lf T 3 J (ro T 1 (k [1] J uZ H (jf.c · px) (λv2 H=>ro T 3 (cb J H (λH=>?_) (λH=>?_))))))))))))))
 ·refine rc T 8 ?_
  cases H;refine dj [3,3] J kS (p1 T J [3,3,0,0,0] ⟨a8,H8,s8,J,J⟩ J)
 refine rc T 4 (kr u_.R [] [] J SE H (u_.c ·) (λv3 H=>?_));rintro _ _ ⟨_,_,O5,rfl,rfl⟩;rcases v3 with _ |zx
 ·replace H:=eT J H
  cases H
 replace H:=eU J H;obtain⟨b9,cy,n10,bX,bS,rfl,rfl⟩:=O5;refine ro T 7 (kr (np.R b9) [] [6,6] J Jh H (np.c · bS) (λv4 H=>?_));rintro _ _ ⟨du,n11,cB,cS,rfl,rfl⟩;refine fz J (ro T 1 (ks [0,1,5,6,7,8] J (rx T 5 (kr (nn.R b9) [] [6,6] J Ji H (nn.c · cS) (λv5 H=>?_)))));rintro _ _ ⟨a12,n12,dt,dw,rfl,rfl⟩;refine fz J (ro T 10 (lq [0,1,5,6,8] [2,2,2,0,0] (λ(⟨yL,bg,bt,aU,bd,cm,jV,dJ,jW,n16,fX⟩:Nat×(List (Int×Int))×List dG×Int×Int×Bool×Nat×Hp×Option Addr×Nat×Hp)=>(jn.l0 yL goal eV v1 bg bt aU bd cm=some r/\cP (Ky.int .i64 u3) (λx:Int=>Value.int .i64 x) bg jV dJ/\ak fA 359 bt jW n16 fX,[(7,(.map (some jV))),(9,(ii aU)),(10,(ii bd)),(11,(bb cm))],[dJ,(cl b9 357 [(ll jW bt n16)]),fX])) J J (fuel,([]:(List (Int×Int))),v5.2.2.2.l,v5.1,v5.2.1,v5.2.2.1,a8,H8,a12,n12,dt) [2,2,2,0,0,0,0,0] ⟨H,s8,dw⟩ J J ?_));rintro yL ⟨bg,bt,aU,bd,cm,jV,dJ,jW,n16,fX⟩ ⟨Z8,dP,fR⟩;rw[jn.l0] at Z8;refine rc T 6 (cb J Z8 (λZ8=>?_) (λZ8=>?_))
 ·refine rc T 2 (mq Z8 [0,1,5,6,8] [0,0,0,0,0] (λPr (⟨c_,dQ,a17,ek,jc,n18,fc⟩:(List (Int×Int))×List dG×Nat×Hp×Option Addr×Nat×Hp)=>((c_,dQ)=Pr/\cP (Ky.int .i64 u3) (λx:Int=>Value.int .i64 x) c_ a17 ek/\ak fA 359 dQ jc n18 fc,[(7,(.map (some a17)))],[ek,(cl b9 357 [(ll jc dQ n18)]),fc])) J J (λPr lK _=>?_) ?_)
  ·refine rc T 6 (br J (pN (k:=bd) T (Ky.int .i64 u3) (λx:Int=>Value.int .i64 x) J J J J J (oh dP (j:=5) J)) (ro T 12 (cb J lK (λlK=>?_) (λlK=>?_))))
   ·refine rc T 4 (am (_,_,_,_,_,_,_) [0,0,0,0,0,0,0,0] ⟨oi lK,dP,fR⟩ J J)
   refine rc T 7 (aX (pG (g:=5) (m:=bg) (k:=bd) (v:=aU) T (Ky.int .i64 u3) (λx:Int=>Value.int .i64 x) J J J J J J J dP (λkJ gT=>ro T 8 (lq [0,1,5,6,7,8,9,10] [0,0,0,0,0,0] (λ(⟨pd,bU,dz,a21,n21,lj⟩:Nat×List dG×Int×Option Addr×Nat×Hp)=>(jn.l1 pd goal eV v1 bg bd aU bU dz=some Pr/\ak fA 359 bU a21 n21 lj,[(14,(ii dz))],[(cl b9 357 [(ll a21 bU n21)]),lj])) J J (fuel,bt,0,jW,n16,fX) [0,0,0,0,0,0,0,0] ⟨lK,fR⟩ J J ?_))));rintro pd ⟨bU,dz,a21,n21,lj⟩ ⟨bp,jQ⟩;rw[jn.l1] at bp;refine rc T 7 (cd J bp (λbp=>?_) (λbp=>?_))
   ·refine rc T 10 (k [] J Ab bp (l8.c ·) (λv25 bp=>ro T 4 (mq bp [0,1,5,6,7,8,9,10,14,15] [0,0,0,0,0,0,0,0] (λWZ (dC:Bool)=>(dC=WZ,[(90,(bb dC))],[])) J J (λWZ cQ _=>?_) ?_)))
    ·refine rc T 4 (ad 71 J cQ (λcQ=>?_) (λcQ=>?_))
     ·refine ro T 21 (am _ [0,0,0,0,0,0,0,0] (oi cQ) J J)
     refine ro T 3 (k [] J ru cQ (gG.c ·) (λv28 cQ=>ro T 3 (k [] J ru cQ (gG.c ·) (λrN cQ=>ro T 3 (ab 82 J cQ (λcQ=>?_) (λcQ=>?_))))))
     ·refine ro T 10 (am _ [0,0,0,0,0,0,0,0] (oi cQ) J J)
     refine ro T 3 (lf T 1 J (ro T 1 (k [4] J uZ cQ (jf.c · px) (λv30 cQ=>ro T 4 (am _ [0,0,0,0,0,0,0,0] (oi cQ) J J)))))
    rintro _ dC rfl bp;refine cb J bp (λbp=>?_) (λbp=>?_)
    ·refine rc T 10 (ar (_,_,_,_,_) [0,0,0,0,0,0,0,0] ⟨bp,jQ⟩ J J)
    refine rc T 8 (lf T 1 J (ro T 1 (k [4] J uZ bp (jf.c · px) (λv31 bp=>ro T 2 (kr (np.R b9) [] [6,6] J Jh bp (np.c (h:=(eK.mk bU)) · jQ) (λv32 bp=>?_))))));rintro _ _ ⟨a22,n22,mv,iO,rfl,rfl⟩;refine fz J (ro T 9 (ar (_,_,_,_,_) [0,0,0,0,0,0,0,0] ⟨bp,iO⟩ J J))
   refine rc T 6 (am (_,_,_,_,_,_,_) [0,0,0,0,0,0,0,0] ⟨oi bp,gT,jQ⟩ J J)
  rintro _ ⟨c_,dQ,a17,ek,jc,n18,fc⟩ ⟨rfl,fq,ft⟩ Z8;refine rc T 2 (kr (nn.R b9) [] [6,6] J Ji Z8 (nn.c (h:=(eK.mk dQ)) · ft) (λv33 Z8=>?_));rintro _ _ ⟨a23,n23,jF,gU,rfl,rfl⟩;refine fz J (ro T 9 (ar (_,_,_,_,_,_,_,_,_,_) [0,0,0,0,0,0,0,0] ⟨Z8,fq,gU⟩ J J))
 refine rc T 12 ?_
 cases Z8;refine dj [1,1] J kS (p1 T J [3,5,1,1,0] ⟨jV,dJ,dP,J,J⟩ J)
def sO.f (ag:ic) (node:Int) (key:Int):Option (Bool×ic):=if(0<=node/\node<(List.length ag.aR:Int)) then(if key≥(aa (rd ag.aR node)) then(some (false,ag)) else(some (true,(ic.mk ag.goal ag.bK (List.set ag.aR (Int.toNat node) (IntKind.i32.wrap key)))))) else none
def sO.R (aW:Nat) (r:(Bool×ic)) (u:Value) (G:List Hp):Prop:= ∃(a0:Option Addr) (n0:Nat) (H0:Hp),ak (Fl.int .i32) 21 r.2.aR a0 n0 H0/\u=(bb r.1)/\G=[(cl aW 235 [(ii r.2.goal),(ii r.2.bK),(ll a0 r.2.aR n0)]),H0]
theorem sO.c (H:sO.f ag node key=some r) (vL:ak (Fl.int .i32) 21 ag.aR wo w6 zB):
 QR 216 [(pp aW),(ii node),(ii key)] [(cl aW 235 [(ii ag.goal),(ii ag.bK),(ll wo ag.aR w6)]),zB] [] F (sO.R aW r):=by
 unfold sO.f at H;refine aB Tryz.func216 J J (λW=>rc T 12 (lf T 0 J (ro T 1 ?_)));obtain⟨c1,H⟩:=az H;obtain⟨q3,o3,e3⟩:=vL.r.addr c1.1 c1.2;refine ix T J e3 c1 (le T 0 (oO vL 1) e3 c1 J J (ro T 4 (cd J H (λH=>?_) (λH=>?_))))
 ·refine rc T 7 ?_
  cases H;exact p1 T J [0,0,0] ⟨wo,w6,zB,vL,J,J⟩ J
 refine rc T 7 (lf T 0 J (ro T 3 (ix T J e3 c1 (aX (kK (k:=(Fl.int .i32)) T 1 0 (IntKind.i32.wrap key) J J J J J J vL e3 c1 J J J (λH4 s4=>kg [] [1,1] [1,1,0] [] [(cl aW 235 [(ii ag.goal),(ii ag.bK),(ll wo (List.set ag.aR (Int.toNat node) (IntKind.i32.wrap key)) w6)])] J J trivial (by first |rfl |(simp only[ll,List.length_set];rfl)) (ro T 8 ?_)))))))
 cases H;exact p1 T J [2,0,0] ⟨wo,w6,H4,s4,J,J⟩ J
def fQ.l2:Nat->Int->Int->(List dU)->Int->Int->List Int->List dG->Int->Option (Int×Int×(List Int)×(List dG))
 |0,_,_,_,_,_,_,_,_=>none
 |Gq+1,goal,fw,rP,C6,C7,Be,zs,qT=>if qT<(List.length rP:Int) then(if(0<=qT/\qT<(List.length rP:Int)) then((sO.f (ic.mk C6 C7 Be) ((rd rP qT).To) (aa (fw+(rd rP qT).kI))).bind λv64=>if v64.1=true then((np.f (eK.mk zs) (aa (fw+(rd rP qT).kI)) ((rd rP qT).To)).bind λWQ=>fQ.l2 Gq goal fw rP v64.2.goal v64.2.bK v64.2.aR WQ.l (aa (qT+1))) else(fQ.l2 Gq goal fw rP v64.2.goal v64.2.bK v64.2.aR zs (aa (qT+1)))) else none) else(some (C6,C7,Be,zs))
def fQ.l1:Nat->Int->dH->bw->Int->Int->List Int->List dG->Int->Int->Bool->Option (Option ic)
 |0,_,_,_,_,_,_,_,_,_,_=>none
 |wV+1,goal,jM,eV,iQ,gh,gV,iR,fw,iS,ie=>if ie=true then((if(0<=iS/\iS<(List.length gV:Int)) then(if fw>(aa (rd gV iS)) then(some (iQ,gh,gV,iR)) else((gR.f jM iS eV).bind λrP=>fQ.l2 fuel goal fw rP iQ gh gV iR 0)) else none).bind λ(HE,HF,EG,C5)=>(nn.f (eK.mk C5)).bind λv66=>fQ.l1 wV goal jM eV HE HF EG v66.2.2.2.l v66.1 v66.2.1 v66.2.2.1) else(some (some (ic.mk iQ gh gV)))
def fQ.l0:Nat->Int->dH->bw->(List (Int×Int))->(List Int)->Int->Int->List Int->List dG->Int->Option (Option ic)
 |0,_,_,_,_,_,_,_,_,_,_=>none
 |JP+1,goal,jM,eV,v5,v7,aU,bd,cm,dm,c_=>if c_<(List.length v7:Int) then((if(0<=c_/\c_<(List.length v7:Int)) then((if(bM v5 (rd v7 c_))=true then((sO.f (ic.mk aU bd cm) (rd v7 c_) (aP v5 (rd v7 c_))).bind λrN=>some (rN.2.goal,rN.2.bK,rN.2.aR,rN.1)) else(some (aU,bd,cm,false))).bind λ(qa,lI,dC,l9)=>if l9=true then((np.f (eK.mk dm) (aP v5 (rd v7 c_)) (rd v7 c_)).bind λv30=>some (qa,lI,dC,v30.l)) else(some (qa,lI,dC,dm))) else none).bind λ(dy,fV,dh,bU)=>fQ.l0 JP goal jM eV v5 v7 dy fV dh bU (aa (c_+1))) else((nn.f (eK.mk dm)).bind λv31=>fQ.l1 fuel goal jM eV aU bd cm v31.2.2.2.l v31.1 v31.2.1 v31.2.2.1)
def fQ.f (ag:j6) (goal:Int) (jM:dH) (eV:bw):Option (Option ic):=(iJ.f eV).bind λv1=>(oW.f eV).bind λv2=>(pA.f [2147483647] (aa (v1.1*v1.2))).bind λv3=>(u_.f).bind λv4=>dq v4 (none) (λqU=>(jn.f ag goal jM eV).bind λv5=>(gG.f v1.1 v1.2 goal).bind λv6=>(wZ.f jM v6 eV).bind λv7=>fQ.l0 fuel goal jM eV v5 v7 goal v2 v3 qU.l 0)
def fQ.R (r:(Option ic)) (u:Value) (G:List Hp):Prop:= ∃(u0:Value) (G0:List Hp),Xp r u0 G0/\u=u0/\G=G0
theorem fQ.c (H:fQ.f ag goal jM eV=some r) (cF:tr ag aW lM jH cW) (ze:mw jM lM jH oA) (px:iE eV jH l_):
 QR 182 [(pp aW),(ii goal)] [cW,oA,l_] [cW,oA,l_] F (fQ.R r):=by
 unfold fQ.f at H;refine aB Tryz.func182 J J (λW=>rc T 6 ?_);obtain⟨A',H7,s7,kS⟩:=(λx=>x) cF;refine bP 0 (congrArg some kS) (fz J (rc T 4 (lf T 3 J (k [1] J tI H (iJ.c · px) (λv1 H=>ro T 13 (lf T 3 J (k [1] J BO H (oW.c · px) (λv2 H=>aX (cV (k:=(Fl.int .i32)) T [2147483647] J J J J J J J J J (λa8 H8 s8=>ro T 3 (kr pA.R [] [] J acz H (pA.c · (oO s8 5) s8.bV) (λv3 H=>?_))))))))))));rintro _ _ ⟨a9,n9,H9,s9,rfl,rfl⟩;refine fz J (ro T 1 (nc T J (λfN=>ro T 5 (kr u_.R [] [] J SE H (u_.c ·) (λv4 H=>?_)))));rintro _ _ ⟨_,_,O5,rfl,rfl⟩;rcases v4 with _ |qU
 ·replace H:=eT J H
  cases H
 replace H:=eU J H;obtain⟨jG,a12,n12,dt,dw,rfl,rfl⟩:=O5;refine ro T 7 ?_;obtain⟨v5,V6,H⟩:=gj H;refine aX (Fa (As:=[(cl aW 233 [(pp lM),(pp jH),A',(uu ag.count)]),H7,oA,l_]) (jn.R v5) [(cl aW 233 [(pp lM),(pp jH),A',(uu ag.count)]),H7,oA,l_] [3,3,0,0] J J J J acA J J (IK (A:=[cW,oA,l_]) (A2:=[cW,oA,l_]) (by simp only[kS,List.flatten_cons,List.flatten_append,List.flatten_nil,List.append_nil,List.append_assoc]) (by simp only[kS,List.flatten_cons,List.flatten_append,List.flatten_nil,List.append_nil,List.append_assoc]) (jn.c V6 cF ze px)) ?_)
 rintro _ _ ⟨dD,ei,cz,rfl,rfl⟩;refine fz J (ro T 2 (ke [0,1,5,6,7,8,9] [0,1,1,1,1,1,1,1,1,1] J J (rx T 3 (fz J (rg [] [0,0,0,0,0,0,0,0,0,0] mix (bO bN) (λhg pf=>ha T 8 [0,1,2] sz hg pf J (av 3 sz hg pf J (aw T J J J J (aF (j:=6) J J)) (ha T 3 [4,5,6,10] sz hg pf J (ao 7 (kh [] J ru H (gG.c ·) (λv6 H=>an sz (ao 8 (kR wZ.R [8,8] [8,8] J acB H (wZ.c · ze px) (λv7 H=>?_))))))))))))));rintro _ _ ⟨iG,n14,fG,fp,rfl,rfl⟩;refine fz J (an (so [0,0,0,0,0,0,0,0,1,1]) (ha T 0 [9] (so [0,0,0,0,0,0,0,0,1,1]) hg pf J (ae (rx T 2 (lq [0,7,8,9,52,53] [0,5,5,6,6,4,4] (λ(⟨JP,aU,bd,cm,dm,c_,a17,n17,ek,jc,n18,fc⟩:Nat×Int×Int×List Int×List dG×Int×Option Addr×Nat×Hp×Option Addr×Nat×Hp)=>(fQ.l0 JP goal jM eV v5 v7 aU bd cm dm c_=some r/\ak (Fl.int .i32) 21 cm a17 n17 ek/\ak fA 359 dm jc n18 fc,[(54,(ii c_))],[(cl fN 235 [(ii aU),(ii bd),(ll a17 cm n17)]),ek,(cl jG 357 [(ll jc dm n18)]),fc])) J J (fuel,goal,v2,v3,qU.l,0,a9,n9,H9,a12,n12,dt) [0,5,5,6,6,4,4,1,0,0,0] ⟨H,s9,dw⟩ J J ?_)))));rintro JP ⟨aU,bd,cm,dm,c_,a17,n17,ek,jc,n18,fc⟩ ⟨Z9,fq,ft⟩;rw[fQ.l0] at Z9;refine rc T 6 (cd J Z9 (λZ9=>?_) (λZ9=>?_))
 ·refine rc T 2 (mq Z9 [0,7,8,9,52,53,54] [0,0,0,0,0,0,0] (λz23 (⟨dy,fV,dh,bU,mc,n19,kJ,a20,n20,nU⟩:Int×Int×List Int×List dG×Option Addr×Nat×Hp×Option Addr×Nat×Hp)=>((dy,fV,dh,bU)=z23/\ak (Fl.int .i32) 21 dh mc n19 kJ/\ak fA 359 bU a20 n20 nU,[],[(cl fN 235 [(ii dy),(ii fV),(ll mc dh n19)]),kJ,(cl jG 357 [(ll a20 bU n20)]),nU])) J J (λz23 bc _=>?_) ?_)
  ·refine rc T 3 ?_;obtain⟨gY,bc⟩:=az bc;obtain⟨Ed,o21,Fw⟩:=fp.r.addr gY.1 gY.2;refine ix T J Fw gY (le T 0 (oO fp 6) Fw gY J J (ro T 7 (br J (pN (k:=(rd v7 c_)) T (Ky.int .i64 u3) (λx:Int=>Value.int .i64 x) J J J J J (oh cz (j:=5) J)) (ro T 7 (mq bc [0,7,8,9,11,12,52,53,54] [0,0,0,0,0,4,4,0,0] (λz28 (⟨qa,lI,dC,l9,a22,n22,mv⟩:Int×Int×List Int×Bool×Option Addr×Nat×Hp)=>((qa,lI,dC,l9)=z28/\ak (Fl.int .i32) 21 dC a22 n22 mv,[(70,(bb l9))],[(cl fN 235 [(ii qa),(ii lI),(ll a22 dC n22)]),mv])) J J (λz28 mX _=>?_) ?_)))))
   ·refine rc T 3 (ab 65 J mX (λmX=>?_) (λmX=>?_))
    ·refine ro T 3 (kr (sO.R fN) [] [7,7] J SF mX (sO.c (ag:=(ic.mk aU bd cm)) · fq) (λrN mX=>?_));rintro _ _ ⟨a23,n23,jF,gU,rfl,rfl⟩;refine fz J (ro T 3 (am (_,_,_,_,_,_,_) [0,0,0,0,0,2,2,0,0,0,0] ⟨oi mX,gU⟩ J J))
    refine ro T 7 (am (_,_,_,_,_,_,_) [0,0,0,0,0,4,4,0,0,0,0] ⟨oi mX,fq⟩ J J)
   rintro _ ⟨qa,lI,dC,l9,a22,n22,mv⟩ ⟨rfl,iO⟩ bc;refine cb J bc (λbc=>?_) (λbc=>?_)
   ·refine rc T 4 (kr (np.R jG) [] [5,5] J Jh bc (np.c (h:=(eK.mk dm)) · ft) (λv30 bc=>?_));rintro _ _ ⟨a24,n24,qX,lX,rfl,rfl⟩;refine fz J (ro T 3 (am (_,_,_,_,_,_,_,_,_,_) [0,0,0,0,0,0,0,0,0,0,0] ⟨oi bc,iO,lX⟩ J J))
   refine rc T 3 (am (_,_,_,_,_,_,_,_,_,_) [0,0,0,0,0,2,2,2,2,0,0] ⟨oi bc,iO,ft⟩ J J)
  rintro _ ⟨dy,fV,dh,bU,mc,n19,kJ,a20,n20,nU⟩ ⟨rfl,gT,lW⟩ Z9;refine rc T 5 (ar (_,_,_,_,_,_,_,_,_,_,_) [0,0,0,0,0,0,0,0,0,0,0] ⟨Z9,gT,lW⟩ J J)
 refine rc T 9 (kr (nn.R jG) [] [9,9] J Ji Z9 (nn.c (h:=(eK.mk dm)) · ft) (λv31 Z9=>?_));rintro _ _ ⟨a25,n25,gW,jA,rfl,rfl⟩;refine fz J (ro T 10 (lq [0,7,8] [0,0,0,0,0] (λ(⟨wV,iQ,gh,gV,iR,fw,iS,ie,a28,n28,um,xZ,n29,qY⟩:Nat×Int×Int×List Int×List dG×Int×Int×Bool×Option Addr×Nat×Hp×Option Addr×Nat×Hp)=>(fQ.l1 wV goal jM eV iQ gh gV iR fw iS ie=some r/\ak (Fl.int .i32) 21 gV a28 n28 um/\ak fA 359 iR xZ n29 qY,[(14,(ii fw)),(15,(ii iS)),(16,(bb ie))],[(cl fN 235 [(ii iQ),(ii gh),(ll a28 gV n28)]),um,(cl jG 357 [(ll xZ iR n29)]),qY])) J J (fuel,aU,bd,cm,v31.2.2.2.l,v31.1,v31.2.1,v31.2.2.1,a17,n17,ek,a25,n25,gW) [0,0,0,0,0,2,2,2,2] ⟨Z9,fq,jA⟩ J J ?_));rintro wV ⟨iQ,gh,gV,iR,fw,iS,ie,a28,n28,um,xZ,n29,qY⟩ ⟨eQ,j7,qH⟩;rw[fQ.l1] at eQ;refine rc T 6 (cb J eQ (λeQ=>?_) (λeQ=>?_))
 ·refine rc T 2 (mq eQ [0,7,8] [0,0,0,0,0] (λz51 (⟨HE,HF,EG,C5,Bo,n30,qZ,a31,n31,Bh⟩:Int×Int×List Int×List dG×Option Addr×Nat×Hp×Option Addr×Nat×Hp)=>((HE,HF,EG,C5)=z51/\ak (Fl.int .i32) 21 EG Bo n30 qZ/\ak fA 359 C5 a31 n31 Bh,[],[(cl fN 235 [(ii HE),(ii HF),(ll Bo EG n30)]),qZ,(cl jG 357 [(ll a31 C5 n31)]),Bh])) J J (λz51 rW _=>?_) ?_)
  ·refine rc T 8 (lf T 5 J (ro T 1 ?_));obtain⟨zN,rW⟩:=az rW;obtain⟨q32,o32,QY⟩:=j7.r.addr zN.1 zN.2;refine ix T J QY zN (le T 0 (oO j7 6) QY zN J J (ro T 4 (cd J rW (λrW=>?_) (λrW=>?_))))
   ·refine rc T 4 (am (_,_,_,_,_,_,_,_,_,_) [0,0,0,0,0,0,0,0,0] ⟨oi rW,j7,qH⟩ J J)
   refine rc T 7 (lf T 1 J (ro T 1 (kr gR.R [3,3] [3,3] J acC rW (gR.c · ze px) (λrP rW=>?_))));rintro _ _ ⟨a33,n33,H_,vG,rfl,rfl⟩;refine fz J (ro T 5 (lq [0,7,8,14,104,105] [0,0,0,5,5,4] (λ(⟨Gq,C6,C7,Be,zs,qT,zG,n36,zy,a37,n37,EK⟩:Nat×Int×Int×List Int×List dG×Int×Option Addr×Nat×Hp×Option Addr×Nat×Hp)=>(fQ.l2 Gq goal fw rP C6 C7 Be zs qT=some z51/\ak (Fl.int .i32) 21 Be zG n36 zy/\ak fA 359 zs a37 n37 EK,[(106,(ii qT))],[(cl fN 235 [(ii C6),(ii C7),(ll zG Be n36)]),zy,(cl jG 357 [(ll a37 zs n37)]),EK])) J J (fuel,iQ,gh,gV,iR,0,a28,n28,um,xZ,n29,qY) [0,0,0,5,5,4,0,0,0,0] ⟨rW,j7,qH⟩ J J ?_));rintro Gq ⟨C6,C7,Be,zs,qT,zG,n36,zy,a37,n37,EK⟩ ⟨di,CF,CG⟩;rw[fQ.l2] at di;refine rc T 6 (cd J di (λdi=>?_) (λdi=>?_))
   ·refine rc T 6 ?_;obtain⟨IH,di⟩:=az di;obtain⟨q38,UT,QZ⟩:=vG.r.addr IH.1 IH.2;refine ix T J QZ IH (br J (fO T (cs:=[(ii (rd rP qT).To),(ii (rd rP qT).kI)]) J J J J J J (hJ (k:=pe) (oO vG 5) QZ IH J)) (nc T J (λb39=>sg T 10 J (ro T 6 (lf T 10 J (ro T 2 (lf T 10 J (ro T 1 (kr (sO.R fN) [] [6,6] J SF di (sO.c (ag:=(ic.mk C6 C7 Be)) · CF) (λv64 di=>?_))))))))));rintro _ _ ⟨a40,n40,K6,Ej,rfl,rfl⟩;refine fz J (ro T 2 (cb J di (λdi=>?_) (λdi=>?_)))
    ·refine rc T 4 (lf T 8 J (ro T 2 (lf T 8 J (kr (np.R jG) [] [6,6] J Jh di (np.c (h:=(eK.mk zs)) · CG) (λWQ di=>?_)))));rintro _ _ ⟨a41,n41,EL,zb,rfl,rfl⟩;refine fz J (ro T 1 (ke [0,7,8,14,104,105,106] [0,0,0,0,0,0,1,1,1,1] J J (rx T 7 (ar (_,_,_,_,_,_,_,_,_,_,_) [0,0,0,0,0,0,0,0,0,0] ⟨di,Ej,zb⟩ J J))))
    refine rc T 8 (ar (_,_,_,_,_,_,_,_,_,_,_) [0,0,0,0,0,0,3,3,0,0] ⟨di,Ej,CG⟩ J J)
   refine rc T 6 (am (_,_,_,_,_,_,_,_,_,_) [0,0,0,0,0,1,1,1,1] ⟨oi di,CF,CG⟩ J J)
  rintro _ ⟨HE,HF,EG,C5,Bo,n30,qZ,a31,n31,Bh⟩ ⟨rfl,pr,y_⟩ eQ;refine rc T 2 (kr (nn.R jG) [] [7,7] J Ji eQ (nn.c (h:=(eK.mk C5)) · y_) (λv66 eQ=>?_));rintro _ _ ⟨a42,n42,ln,OL,rfl,rfl⟩;refine fz J (ro T 9 (ar (_,_,_,_,_,_,_,_,_,_,_,_,_) [0,0,0,0,0,0,0,0,0] ⟨eQ,pr,OL⟩ J J))
 refine rc T 12 ?_
 cases eQ;refine dj [1,1] J kS (p1 T J [3,3,5,1,1,0] ⟨_,_,⟨fN,a28,n28,um,j7,J,J⟩,J,J⟩ J)
def xo.f (ag:j6) (goal:Int) (jM:dH) (eV:bw):Option ((Option ic)×j6×dH):=(jf.f eV goal).bind λv1=>if(v1==0)=true then(some (none,ag,jM)) else((ny.f jM eV).bind λv2=>(dq ag.kept (some true) (λx5=>if(x5.goal !=goal)=true then(some true) else((oW.f eV).bind λv6=>some (x5.bK !=v6)))).bind λx3=>if x3=true then((fQ.f ag goal v2.2 eV).bind λv7=>dq v7 (none) (λqV=>(rM.f ag.count 1).bind λv8=>some ((some qV),(j6.mk (some qV) v8),v2.2))) else(dq ag.kept (some (none,ag,v2.2)) (λx9=>some ((some x9),ag,v2.2))))
def xo.R (ng:Nat) (NV:Nat) (NW:Nat) (ZT:Nat) (ae5:Nat) (r:((Option ic)×j6×dH)) (u:Value) (G:List Hp):Prop:= ∃(u0:Value) (H1:Hp) (H2:Hp),Xt r.1 r.2.1 ng NV NW u0 H1/\mw r.2.2 ZT ae5 H2/\u=u0/\G=[H1,H2]
theorem xo.c (H:xo.f ag goal jM eV=some r) (cF:tr ag aW lM jH cW) (ze:mw jM lM jH oA) (px:iE eV jH l_):
 QR 143 [(pp aW),(ii goal)] [cW,oA,l_] [l_] F (xo.R aW lM jH lM jH r):=by
 unfold xo.f at H;refine aB Tryz.func143 J J (λW=>rc T 7 ?_);obtain⟨A',H7,s7,kS⟩:=(λx=>x) cF;refine bP 0 (congrArg some kS) (fz J (rc T 7 (lf T 3 J (ro T 1 (k [1] J uZ H (jf.c · px) (λv1 H=>ro T 4 (cb J H (λH=>?_) (λH=>?_))))))))
 ·refine rc T 7 ?_
  cases H;refine dj [3,3] J kS (p1 T J [3,0,0,0] ⟨_,cW,oA,⟨J,cF⟩,ze,J,J⟩ J)
 refine rc T 7 (lf T 3 J (kr (ny.R lM jH) [1] [0,0] J acg H (ny.c · ze px) (λv2 H=>?_)));rintro _ _ ⟨H8,s8,rfl,rfl⟩;refine fz J (ro T 3 (mq H [0,1] [0,0,0,0,0] (λz4 (x3:Bool)=>(x3=z4,[(51,(bb x3))],[])) J J (λz4 Z4 _=>?_) ?_))
 ·rcases q5:ag.kept with _ |x5
  ·replace Z4:=eT q5 Z4;rw[q5] at s7;obtain⟨rfl,rfl⟩:=s7;refine dA mix ay (aj T J (aj T J (aj T J (aO J J J (aw T J J J J (aF (j:=1) J J)) ?_))))
   iterate 27 refine aj T J ?_
   refine cH (rx T 1 (am _ [0,0,0,0,0] (oi Z4) J J))
  replace Z4:=eU q5 Z4;rw[q5] at s7;obtain⟨fN,du,n11,cB,cS,rfl,MD⟩:=s7;refine bP 2 (congrArg some MD) (fz J (dA mix ay (aj T J (aj T J (aj T J (aO J J J (aw T J J J J (aF (j:=1) J J)) ?_))))))
  iterate 5 refine aj T J ?_
  refine aO J J J (aw T J J J J (aF (j:=1) J J)) (aj T J (aj T J (aO J J J (aw T J J J J (aF (j:=4) J J)) ?_)))
  iterate 4 refine aj T J ?_
  refine qb 37 J Z4 (λZ4=>?_) (λZ4=>?_)
  ·iterate 14 refine aj T J ?_
   refine cH (rx T 1 (dj [4,4] J MD (am _ [0,0,2,0,0] (oi Z4) J J)))
  refine aj T J (aj T J (aj T J (aO J J J (aw T J J J J (aF (j:=1) J J)) (aj T J (aj T J (aO J J J (aw T J J J J (aF (j:=4) J J)) (aj T J (aj T J (aj T J (aO J J J (aw T J J J J (aF (j:=1) J J)) ?_))))))))));obtain⟨v6,V7,Z4⟩:=gj Z4;refine wv [3] J J J J J J BO J (oW.c V7 px) (aj T J (aj T J (cH (rx T 1 (dj [4,4] J MD (am _ [0,0,2,0,0] (oi Z4) J J))))))
 rintro _ x3 rfl H;refine cb J H (λH=>?_) (λH=>?_)
 ·refine rc T 5 ?_;obtain⟨v7,V9,H⟩:=gj H;refine aX (Fa (As:=[(cl aW 233 [(pp lM),(pp jH),A',(uu ag.count)]),H7,H8,l_]) (fQ.R v7) [(cl aW 233 [(pp lM),(pp jH),A',(uu ag.count)]),H7,H8,l_] [1,1,1,1] J J J J ach J J (IK (A:=[cW,H8,l_]) (A2:=[cW,H8,l_]) (by simp only[kS,List.flatten_cons,List.flatten_append,List.flatten_nil,List.append_nil,List.append_assoc]) (by simp only[kS,List.flatten_cons,List.flatten_append,List.flatten_nil,List.append_nil,List.append_assoc]) (fQ.c V9 cF s8 px)) ?_)
  rintro _ _ ⟨_,_,K8,rfl,rfl⟩;rcases v7 with _ |qV
  ·replace H:=eT J H
   cases H
  replace H:=eU J H;obtain⟨kL,dD,n13,ei,cz,rfl,rfl⟩:=K8;refine ro T 2 (sg T 3 J (ro T 7 (lf T 3 J (k [] J Jc H (rM.c ·) (λv8 H=>ro T 2 (sg T 3 J (ro T 7 (lf T 3 J (ro T 4 ?_)))))))))
  cases H;refine gi [1,1] J (gi [1,4] J (p1 T J [4,2,2,0] ⟨_,(List.flatten [(cl aW 233 [(pp lM),(pp jH),(pp kL),(uu v8)]),(List.flatten [(cl kL 235 [(ii qV.goal),(ii qV.bK),(ll dD qV.aR n13)]),ei])]),H8,⟨J,kL,dD,n13,ei,cz,J,J⟩,s8,J,J⟩ J))
 refine rc T 3 ?_;rcases vx:ag.kept with _ |x9
 ·replace H:=eT vx H;rw[vx] at s7;obtain⟨rfl,rfl⟩:=s7;refine rc T 4 (lf T 1 J (ro T 4 ?_))
  cases H;refine dj [1,1] J kS (p1 T J [3,1,1,0] ⟨_,cW,H8,⟨J,cF⟩,s8,J,J⟩ J)
 replace H:=eU vx H;rw[vx] at s7;obtain⟨qh,a17,n17,ek,fq,rfl,MB⟩:=s7;refine bP 2 (congrArg some MB) (fz J (rc T 4 (lf T 1 J (ro T 4 ?_))))
 cases H;refine dj [4,4] J MB (dj [1,3] J kS (p1 T J [3,1,1,0] ⟨_,cW,H8,⟨vx,qh,a17,n17,ek,fq,J,(by rw[kS,MB])⟩,s8,J,J⟩ J))
def G3.f (ag:ic):Option Int:=some ag.bK
theorem G3.c (H:G3.f ag=some r) (vL:ak (Fl.int .i32) 21 ag.aR wo w6 zB):
 QU 174 [(pp aW)] [(cl aW 235 [(ii ag.goal),(ii ag.bK),(ll wo ag.aR w6)]),zB] F (ii r):=by
 unfold G3.f at H;refine aB Tryz.func174 J J (λW=>rc T 12 (eD J (rc T 7 (lf T 0 J (ro T 4 ?_)))))
 cases H;exact p0 T J [0,0,0] J
def CC.f (ag:ic) (cell:Int):Option Int:=(if cell<0 then(some true) else(if cell≥(List.length ag.aR:Int) then(some true) else(if(0<=cell/\cell<(List.length ag.aR:Int)) then(some ((rd ag.aR cell)==2147483647)) else none))).bind λx1=>if x1=true then(some 1099511627776) else(if(0<=cell/\cell<(List.length ag.aR:Int)) then(some (aa (rd ag.aR cell))) else none)
theorem CC.c (H:CC.f ag cell=some r) (vL:ak (Fl.int .i32) 21 ag.aR wo w6 zB):
 QU 177 [(pp aW),(ii cell)] [(cl aW 235 [(ii ag.goal),(ii ag.bK),(ll wo ag.aR w6)]),zB] F (ii r):=by
 unfold CC.f at H;refine aB Tryz.func177 J J (λW=>rc T 6 (mq H [0,1] [2,0,0] (λz2 (x1:Bool)=>(x1=z2,[(29,(bb x1))],[])) J J (λz2 Z1 _=>?_) ?_))
 ·refine rc T 8 (ad 11 J Z1 (λZ1=>?_) (λZ1=>?_))
  ·refine ro T 20 (am _ [2,0,0] (oi Z1) J J)
  refine ro T 4 (lf T 0 J (ro T 4 (ad 20 J Z1 (λZ1=>?_) (λZ1=>?_))))
  ·refine ro T 11 (am _ [2,0,0] (oi Z1) J J)
  refine ro T 3 (lf T 0 J (ro T 1 ?_));obtain⟨c4,Z1⟩:=az Z1;obtain⟨q3,o3,e3⟩:=vL.r.addr c4.1 c4.2;refine ix T J e3 c4 (le T 0 (oO vL 1) e3 c4 J J (ro T 4 (am _ [2,0,0] (oi Z1) J J)))
 rintro _ x1 rfl H;refine cb J H (λH=>?_) (λH=>?_)
 ·refine rc T 7 ?_
  cases H;exact p0 T J [1,1,0] J
 refine rc T 7 (lf T 1 J (ro T 1 ?_));obtain⟨c6,H⟩:=az H;obtain⟨q4,o4,e4⟩:=vL.r.addr c6.1 c6.2;refine ix T J e4 c6 (le T 0 (oO vL 2) e4 c6 J J (ro T 5 ?_))
 cases H;exact p0 T J [1,1,0] J
def G4.f (ag:ic):Option Int:=some ag.goal
theorem G4.c (H:G4.f ag=some r) (vL:ak (Fl.int .i32) 21 ag.aR wo w6 zB):
 QU 179 [(pp aW)] [(cl aW 235 [(ii ag.goal),(ii ag.bK),(ll wo ag.aR w6)]),zB] F (ii r):=by
 unfold G4.f at H;refine aB Tryz.func179 J J (λW=>rc T 12 (eD J (rc T 7 (lf T 0 J (ro T 4 ?_)))))
 cases H;exact p0 T J [0,0,0] J
end
noncomputable section
def Av.f (g:bw) (bB:Int):Option (List a_):=(iJ.f g).bind λv1=>some []
def Av.R (r:(List a_)) (u:Value) (G:List Hp):Prop:= ∃(a0:Option Addr) (n0:Nat) (H0:Hp),ak cI 285 r a0 n0 H0/\u=(ll a0 r n0)/\G=[H0]
theorem Av.c (H:Av.f g bB=some r) (fB:iE g eY fY):
 QR 142 [(pp eY),(.pointer none),(ii bB)] [fY] [fY] F (Av.R r):=by
 unfold Av.f at H;refine aB Tryz.func142 J J (λW=>rc T 8 (k [0] J tI H (iJ.c · fB) (λv1 H=>ro T 21 (mY J (rc T 7 ?_)))))
 cases H;refine bq (p1 T J [2,0,0] ⟨none,0,[],ak.nil,J,J⟩ J)
def iy.l1:Nat->ic->(Int×Int)->(List Int)->Int->(List dU)->List a_->Int->Option (List a_)
 |0,_,_,_,_,_,_,_=>none
 |Gm+1,ai,v1,v4,x8,v12,cm,dm=>if dm<(List.length v12:Int) then(if(0<=dm/\dm<(List.length v12:Int)) then((CC.f ai ((rd v12 dm).To)).bind λfF=>if(fF !=1099511627776)=true then((qQ.f v1.1 v1.2 (rd v4 x8)).bind λnQ=>(p_.f v1.1 v1.2 (rd v4 x8) ((rd v12 dm).To)).bind λv20=>if(List.length cm+1<=1099511627776) then(iy.l1 Gm ai v1 v4 x8 v12 (cm++[(a_.mk nQ v20 (aa ((rd v12 dm).kI+fF)))]) (aa (dm+1))) else none) else(iy.l1 Gm ai v1 v4 x8 v12 cm (aa (dm+1)))) else none) else(some cm)
def iy.l0:Nat->bw->ic->Int->(Int×Int)->(List Int)->List a_->Int->Option (List a_)
 |0,_,_,_,_,_,_,_=>none
 |k9+1,g,ai,bB,v1,v4,x7,x8=>if x8<(List.length v4:Int) then((if(0<=x8/\x8<(List.length v4:Int)) then((na.f g (rd v4 x8)).bind λv12=>iy.l1 fuel ai v1 v4 x8 v12 x7 0) else none).bind λaN=>iy.l0 k9 g ai bB v1 v4 aN (aa (x8+1))) else((G4.f ai).bind λv21=>((gG.f v1.1 v1.2 v21).bind λv24=>if(v24==bB)=true then((jf.f g v21).bind λv25=>some (v25 !=255)) else(some false)).bind λbU=>if bU=true then((qQ.f v1.1 v1.2 v21).bind λv26=>if(List.length x7+1<=1099511627776) then((mP.f (x7++[(a_.mk v26 4 0)])).bind λPg=>some Pg) else none) else((mP.f x7).bind λv28=>some v28))
def iy.f (g:bw) (ai:ic) (bB:Int):Option (List a_):=(iJ.f g).bind λv1=>(G3.f ai).bind λv2=>(oW.f g).bind λv3=>if(v2 !=v3)=true then(some []) else((jY.f g bB).bind λv4=>iy.l0 fuel g ai bB v1 v4 [] 0)
def iy.R (r:(List a_)) (u:Value) (G:List Hp):Prop:= ∃(a0:Option Addr) (n0:Nat) (H0:Hp),ak cI 285 r a0 n0 H0/\u=(ll a0 r n0)/\G=[H0]
theorem iy.c (H:iy.f g ai bB=some r) (fB:iE g eY fY) (OP:ak (Fl.int .i32) 21 ai.aR PH UG Py):
 QR 142 [(pp eY),(pp tv),(ii bB)] [fY,(cl tv 235 [(ii ai.goal),(ii ai.bK),(ll PH ai.aR UG)]),Py] [fY,(cl tv 235 [(ii ai.goal),(ii ai.bK),(ll PH ai.aR UG)]),Py] F (iy.R r):=by
 unfold iy.f at H;refine aB Tryz.func142 J J (λW=>rc T 8 (k [0] J tI H (iJ.c · fB) (λv1 H=>ro T 14 (k [1,1] J ab' H (G3.c · OP) (λv2 H=>ro T 1 (k [0] J BO H (oW.c · fB) (λv3 H=>ro T 4 (cb J H (λH=>?_) (λH=>?_)))))))))
 ·refine rc T 7 ?_
  cases H;refine bq (p1 T J [4,0,0,0,0] ⟨none,0,[],ak.nil,J,J⟩ J)
 refine rc T 12 (kr jY.R [0] [0] J Jf H (jY.c · fB) (λv4 H=>?_));rintro _ _ ⟨a5,n5,H5,s5,rfl,rfl⟩;refine fz J (ro T 5 (bq (lq [0,1,2,7,8,32,33] [2,3,0,0,0] (λ(⟨k9,x7,x8,a7,n7,H7⟩:Nat×List a_×Int×Option Addr×Nat×Hp)=>(iy.l0 k9 g ai bB v1 v4 x7 x8=some r/\ak cI 285 x7 a7 n7 H7,[(9,(ll a7 x7 n7)),(34,(ii x8))],[H7])) J J (fuel,[],0,none,0,[]) [2,3,0,0,0,0] ⟨H,ak.nil⟩ J J ?_)));rintro k9 ⟨x7,x8,a7,n7,H7⟩ ⟨Z6,s7⟩;rw[iy.l0] at Z6;refine rc T 6 (cd J Z6 (λZ6=>?_) (λZ6=>?_))
 ·refine rc T 2 (mq Z6 [0,1,2,7,8,32,33,34] [0,0,0,0,0] (λiZ (⟨aN,a8,n8,H8⟩:List a_×Option Addr×Nat×Hp)=>(aN=iZ/\ak cI 285 aN a8 n8 H8,[(9,(ll a8 aN n8))],[H8])) J J (λiZ Z8 _=>?_) ?_)
  ·refine rc T 3 ?_;obtain⟨c9,Z8⟩:=az Z8;obtain⟨q9,o9,e9⟩:=s5.r.addr c9.1 c9.2;refine ix T J e9 c9 (le T 0 (oO s5 4) e9 c9 J J (ro T 7 (kr na.R [1] [1] J aca Z8 (na.c · fB) (λv12 Z8=>?_))));rintro _ _ ⟨cy,n10,bX,bS,rfl,rfl⟩;refine fz J (ro T 5 (lq [0,1,2,7,8,11,32,33,34,40,41] [0,5,0,0,0,1] (λ(⟨Gm,cm,dm,a12,n12,dt⟩:Nat×List a_×Int×Option Addr×Nat×Hp)=>(iy.l1 Gm ai v1 v4 x8 v12 cm dm=some iZ/\ak cI 285 cm a12 n12 dt,[(9,(ll a12 cm n12)),(42,(ii dm))],[dt])) J J (fuel,x7,0,a7,n7,H7) [0,5,0,0,0,1,0] ⟨Z8,s7⟩ J J ?_));rintro Gm ⟨cm,dm,a12,n12,dt⟩ ⟨bc,dw⟩;rw[iy.l1] at bc;refine rc T 6 (cd J bc (λbc=>?_) (λbc=>?_))
   ·refine rc T 6 ?_;obtain⟨je,bc⟩:=az bc;obtain⟨Vg,UP,wE⟩:=bS.r.addr je.1 je.2;refine ix T J wE je (br J (fO T (cs:=[(ii (rd v12 dm).To),(ii (rd v12 dm).kI)]) J J J J J J (hJ (k:=pe) (oO bS 5) wE je J)) (nc T J (λIE=>sg T 7 J (ro T 6 (lf T 7 J (k [2,2] J acb bc (CC.c · OP) (λfF bc=>ro T 9 (cb J bc (λbc=>?_) (λbc=>?_)))))))))
    ·refine ks [0,1,2,7,8,9,11,13,14,32,33,34,40,41,42] J (fz J (rg [17] [0,0,0,0,0,0,0,0] mix (bO bN) (λhg pf=>ha T 11 [0,1,2,3,5,6,7,8] sz hg pf J (av 9 sz hg pf J (aw T J J J J (aF (j:=7) J J)) (ha T 9 [11] sz hg pf J (av 12 sz hg pf J (aw T J J J J (aF (j:=7) J J)) (ha T 6 [13,14] sz hg pf J (ao 4 (kh [] J FM bc (qQ.c ·) (λnQ bc=>an sz (ao 10 (kh [] J acd bc (p_.c ·) (λv20 bc=>an sz (ha T 3 [15] sz hg pf J (ao 16 (cV (k:=cI) T [(a_.mk nQ v20 (aa ((rd v12 dm).kI+fF)))] J J J J J J J J J (λjV dJ dP=>an (so [0,0,0,0,0,0,0,0]) (ao 17 ?_))))))))))))))))));obtain⟨lA,bc⟩:=az bc;refine dR (k:=cI) (xs:=cm) T (g:=6) J J J J J J J J J J dw (oO dP 8) lA J (λjW n16 fX fR=>an sl (hb T 18 sl hg pf J (ae (rx T 7 (ar (_,_,_,_,_) [0,0,0,0,0,0,0] ⟨bc,fR⟩ J J)))))
    refine rc T 8 (ar (_,_,_,_,_) [0,0,0,0,0,0,0] ⟨bc,dw⟩ J J)
   refine rc T 6 (am (_,_,_,_) [0,0,0,0,0,1] ⟨oi bc,dw⟩ J J)
  rintro _ ⟨aN,a8,n8,H8⟩ ⟨rfl,s8⟩ Z6;refine rc T 5 (ar (_,_,_,_,_) [0,0,0,0,0,0] ⟨Z6,s8⟩ J J)
 refine rc T 9 (k [2,2] J ace Z6 (G4.c · OP) (λv21 Z6=>ro T 3 (mq Z6 [7,8,9,15] [0,4,0,0,0] (λz23 (bU:Bool)=>(bU=z23,[(85,(bb bU))],[])) J J (λz23 oC _=>?_) ?_)))
 ·refine rc T 4 (k [] J ru oC (gG.c ·) (λv24 oC=>ro T 3 (ab 80 J oC (λoC=>?_) (λoC=>?_))))
  ·refine ro T 2 (k [1] J uZ oC (jf.c · fB) (λv25 oC=>ro T 4 (am _ [0,4,0,0,0] (oi oC) J J)))
  refine ro T 7 (am _ [0,4,0,0,0] (oi oC) J J)
 rintro _ bU rfl Z6;refine cb J Z6 (λZ6=>?_) (λZ6=>?_)
 ·refine rc T 5 (k [] J FM Z6 (qQ.c ·) (λv26 Z6=>ro T 1 (aX (cV (k:=cI) T [(a_.mk v26 4 0)] J J J J J J J J J (λa17 ek fq=>?_)))));obtain⟨gM,Z6⟩:=az Z6;refine aX (dR (k:=cI) (xs:=x7) T (g:=1) J J J J J J J J J J s7 (oO fq 5) gM J (λjc n18 fc ft=>ro T 6 (kr mP.R [] [] J FO Z6 (mP.c (l:=(x7++[(a_.mk v26 4 0)])) · (oO ft 1) ft.bV) (λPg Z6=>?_))));rintro _ _ ⟨mc,n19,kJ,gT,rfl,rfl⟩;refine fz J (ro T 4 ?_)
  cases Z6;exact p1 T J [6,2,2,2,0] ⟨mc,n19,kJ,gT,J,J⟩ J
 refine rc T 5 (kr mP.R [] [] J FO Z6 (mP.c · (oO s7 1) s7.bV) (λv28 Z6=>?_));rintro _ _ ⟨a20,n20,nU,lW,rfl,rfl⟩;refine fz J (ro T 4 ?_)
 cases Z6;exact p1 T J [5,2,2,2,0] ⟨a20,n20,nU,lW,J,J⟩ J
end
noncomputable section
def yN.f (l:fP):Option fP:=some (fP.mk l.k [] ([]:(List ((Int×Int)×Int))) (-1) (-1))
def yN.R (gz:Nat) (r:fP) (u:Value) (G:List Hp):Prop:= ∃(a0:Option Addr) (n0:Nat) (H0:Hp) (a1:Nat) (H1:Hp),ak ky 278 r.au a0 n0 H0/\cP (Ky.pair T .i64 J J J lG u3) (λx:Int=>Value.int .i64 x) r.fD a1 H1/\u=(.tuple #[])/\G=[(cl gz 238 [(ii r.k),(ll a0 r.au n0),(.map (some a1)),(ii r.cC),(ii r.dg)]),H0,H1]
theorem yN.c (H:yN.f l=some r) (sS:ak ky 278 l.au me mj xW):
 QR 145 [(pp gz)] [(cl gz 238 [(ii l.k),(ll me l.au mj),(.map none),(ii l.cC),(ii l.dg)]),xW] [] F (yN.R gz r):=by
 unfold yN.f at H;refine aB Tryz.func145 J J (λW=>rc T 6 (mY J (rc T 5 (aX (uD T (Ky.pair T .i64 J J J lG u3) (λx:Int=>Value.int .i64 x) J J J trivial (λa3 H3 s3=>ro T 2 (sg T 0 J (ro T 2 (sg T 0 J (ro T 2 (sg T 0 J (ro T 2 (sg T 0 J (ro T 1 (jd ?_)))))))))))))))
 cases H;refine bq (p1 T J [0,3,2,1] ⟨none,0,[],a3,H3,ak.nil,s3,J,J⟩ J)
def wY.f (ag:Int):Option (Option fP):=if ag<1 then(some none) else((yN.f (fP.mk ag ([]:List bn) [] 0 0)).bind λv1=>some (some v1))
def wY.R (r:(Option fP)) (u:Value) (G:List Hp):Prop:= ∃(u0:Value) (G0:List Hp),Xk r u0 G0/\u=u0/\G=G0
theorem wY.c (H:wY.f ag=some r):
 QR 105 [(ii ag)] [] [] F (wY.R r):=by
 unfold wY.f at H;refine aB Tryz.func105 J J (λW=>rc T 12 (cd J H (λH=>?_) (λH=>?_)))
 ·refine rc T 7 ?_
  cases H;exact p1 T J [0] ⟨_,_,⟨J,J⟩,J,J⟩ J
 refine rc T 6 (nc T J (λb1=>ro T 6 (bq (kr (yN.R b1) [] [1,1] J Si H (yN.c (l:=(fP.mk ag ([]:List bn) [] 0 0)) · (ak.nil (k:=ky) (E:=278))) (λv1 H=>?_)))));rintro _ _ ⟨a3,n3,H3,a4,H4,s3,s4,rfl,rfl⟩;refine fz J (ro T 9 ?_)
 cases H;exact p1 T J [1,1,1,0] ⟨_,_,⟨b1,a3,n3,H3,a4,H4,s3,s4,J,J⟩,J,J⟩ J
def yO.f (l:fP):Option fP:=some (fP.mk l.k [] ([]:(List ((Int×Int)×Int))) (-1) (-1))
def yO.R (gz:Nat) (r:fP) (u:Value) (G:List Hp):Prop:= ∃(a0:Option Addr) (n0:Nat) (H0:Hp) (a1:Nat) (H1:Hp),ak ky 278 r.au a0 n0 H0/\cP (Ky.pair T .i64 J J J lG u3) (λx:Int=>Value.int .i64 x) r.fD a1 H1/\u=(.tuple #[])/\G=[(cl gz 238 [(ii r.k),(ll a0 r.au n0),(.map (some a1)),(ii r.cC),(ii r.dg)]),H0,H1]
theorem yO.c (H:yO.f l=some r) (sS:ak ky 278 l.au me mj xW) (vK:cP (Ky.pair T .i64 J J J lG u3) (λx:Int=>Value.int .i64 x) l.fD oD uv):
 QR 145 [(pp gz)] [(cl gz 238 [(ii l.k),(ll me l.au mj),(.map (some oD)),(ii l.cC),(ii l.dg)]),xW,uv] [] F (yO.R gz r):=by
 unfold yO.f at H;refine aB Tryz.func145 J J (λW=>rc T 6 (mY J (rc T 5 (aX (uD T (Ky.pair T .i64 J J J lG u3) (λx:Int=>Value.int .i64 x) J J J trivial (λa4 H4 s4=>ro T 2 (sg T 0 J (ro T 2 (sg T 0 J (ro T 2 (sg T 0 J (ro T 2 (sg T 0 J (ro T 1 (jd ?_)))))))))))))))
 cases H;refine bq (p1 T J [0,4,3,2] ⟨none,0,[],a4,H4,ak.nil,s4,J,J⟩ J)
def sC.f (l:fP) (ai:Int):Option fP:=if(0<=ai/\ai<(List.length l.au:Int)) then((if((rd l.au ai).cJ==(-1))=true then(some (l.au,(rd l.au ai).aZ)) else(if(0<=(rd l.au ai).cJ/\(rd l.au ai).cJ<(List.length l.au:Int)) then(some ((List.set l.au (Int.toNat ((rd l.au ai).cJ)) (bn.mk ((rd l.au ((rd l.au ai).cJ)).key) ((rd l.au ((rd l.au ai).cJ)).cJ) ((rd l.au ai).aZ))),l.cC)) else none)).bind λ(x1,x2)=>if((rd l.au ai).aZ==(-1))=true then(some (fP.mk l.k x1 l.fD x2 ((rd l.au ai).cJ))) else(if(0<=(rd l.au ai).aZ/\(rd l.au ai).aZ<(List.length x1:Int)) then(some (fP.mk l.k (List.set x1 (Int.toNat ((rd l.au ai).aZ)) (bn.mk ((rd x1 ((rd l.au ai).aZ)).key) ((rd l.au ai).cJ) ((rd x1 ((rd l.au ai).aZ)).aZ))) l.fD x2 l.dg)) else none)) else none
def sC.R (gz:Nat) (r:fP) (u:Value) (G:List Hp):Prop:= ∃(a0:Option Addr) (n0:Nat) (H0:Hp) (a1:Nat) (H1:Hp),ak ky 278 r.au a0 n0 H0/\cP (Ky.pair T .i64 J J J lG u3) (λx:Int=>Value.int .i64 x) r.fD a1 H1/\u=(.tuple #[])/\G=[(cl gz 238 [(ii r.k),(ll a0 r.au n0),(.map (some a1)),(ii r.cC),(ii r.dg)]),H0,H1]
theorem sC.c (H:sC.f l ai=some r) (sS:ak ky 278 l.au me mj xW) (vK:cP (Ky.pair T .i64 J J J lG u3) (λx:Int=>Value.int .i64 x) l.fD oD uv):
 QR 224 [(pp gz),(ii ai)] [(cl gz 238 [(ii l.k),(ll me l.au mj),(.map (some oD)),(ii l.cC),(ii l.dg)]),xW,uv] [] F (sC.R gz r):=by
 unfold sC.f at H;refine aB Tryz.func224 J J (λW=>rc T 5 (lf T 0 J (ro T 1 ?_)));obtain⟨c1,H⟩:=az H;obtain⟨q4,o4,e4⟩:=sS.r.addr c1.1 c1.2;refine ix T J e4 c1 (br J (fO T (cs:=[(ii (rd l.au ai).key.1),(ii (rd l.au ai).key.2),(ii (rd l.au ai).cJ),(ii (rd l.au ai).aZ)]) J J J J J J (hJ (k:=ky) (oO sS 1) e4 c1 J)) (nc T J (λb5=>sg T 4 J (ro T 2 (mq H [0,4] [3,2,2] (λz3 (⟨x1,x2,a6,n6,H6⟩:List bn×Int×Option Addr×Nat×Hp)=>((x1,x2)=z3/\ak ky 278 x1 a6 n6 H6,[],[(cl gz 238 [(ii l.k),(ll a6 x1 n6),(.map (some oD)),(ii x2),(ii l.dg)]),H6])) J J (λz3 Z2 _=>?_) ?_)))))
 ·refine rc T 3 (lf T 4 J (ro T 3 (cb J Z2 (λZ2=>?_) (λZ2=>?_))))
  ·refine rc T 3 (lf T 4 J (ro T 2 (sg T 0 J (ro T 2 (am (_,_,_,_,_) [3,2,2,0,0] ⟨oi Z2,sS⟩ J J)))))
  refine ks [0,4] J (fz J (rz [10] mix (bO bN) (λhg pf=>ha T 8 [0,1,2] sz hg pf J (av 3 sz hg pf J (aw T J J J J (aF (j:=0) J J)) (ha T 6 [4] sz hg pf J (av 5 sz hg pf J (aw T J J J J (aF (j:=4) J J)) (ha T 4 [6] sz hg pf J (av 7 sz hg pf J (aw T J J J J (aF (j:=4) J J)) ?_))))))));obtain⟨c4,Z2⟩:=az Z2;refine av 8 sz hg pf J (cn T J J J J J e4 c4.1 c4.2) (ha T 1 [9] sz hg pf J (ao 10 (kK (k:=ky) T 1 3 (bn.mk ((rd l.au ((rd l.au ai).cJ)).key) ((rd l.au ((rd l.au ai).cJ)).cJ) ((rd l.au ai).aZ)) J J J J J J sS e4 c4 J J J (λH7 s7=>kg [0,4,20,21,22,24,25,26,27,28,29] [1,1,1,1] [1,1,1,1,0] [(23,(ll me (List.set l.au (Int.toNat ((rd l.au ai).cJ)) (bn.mk ((rd l.au ((rd l.au ai).cJ)).key) ((rd l.au ((rd l.au ai).cJ)).cJ) ((rd l.au ai).aZ))) mj))] [(cl gz 238 [(ii l.k),(ll me (List.set l.au (Int.toNat ((rd l.au ai).cJ)) (bn.mk ((rd l.au ((rd l.au ai).cJ)).key) ((rd l.au ((rd l.au ai).cJ)).cJ) ((rd l.au ai).aZ))) mj),(.map (some oD)),(ii l.cC),(ii l.dg)])] J J ⟨(by first |rfl |(simp only[ll,List.length_set];rfl)),trivial⟩ (by first |rfl |(simp only[ll,List.length_set];rfl)) (an sl (ae (rx T 1 ?_)))))))
  exact am (_,_,_,_,_) [2,1,1,1,0] ⟨oi Z2,s7⟩ J J
 rintro _ ⟨x1,x2,a6,n6,H6⟩ ⟨rfl,s6⟩ H;refine rc T 3 (lf T 2 J (ro T 3 (cb J H (λH=>?_) (λH=>?_))))
 ·refine rc T 3 (lf T 2 J (ro T 2 (sg T 3 J (ro T 1 (jd ?_)))))
  cases H;exact p1 T J [3,3,1,0] ⟨a6,n6,H6,oD,uv,s6,vK,J,J⟩ J
 refine fz J (rz [10] mix (bO bN) (λhg pf=>ha T 8 [0,1,2] sz hg pf J (av 3 sz hg pf J (aw T J J J J (aF (j:=3) J J)) (ha T 6 [4] sz hg pf J (av 5 sz hg pf J (aw T J J J J (aF (j:=2) J J)) (ha T 4 [6] sz hg pf J (av 7 sz hg pf J (aw T J J J J (aF (j:=2) J J)) ?_)))))));obtain⟨c6,H⟩:=az H;obtain⟨q8,o8,e8⟩:=s6.r.addr c6.1 c6.2;refine av 8 sz hg pf J (cn T J J J J J e8 c6.1 c6.2) (ha T 1 [9] sz hg pf J (ao 10 (kK (k:=ky) T 4 2 (bn.mk ((rd x1 ((rd l.au ai).aZ)).key) ((rd l.au ai).cJ) ((rd x1 ((rd l.au ai).aZ)).aZ)) J J J J J J s6 e8 c6 J J J (λH9 s9=>kg [0,4,32,38,39,40,42,43,44,45,46,47] [0,0,0,1] [0,0,0,1,0] [(41,(ll a6 (List.set x1 (Int.toNat ((rd l.au ai).aZ)) (bn.mk ((rd x1 ((rd l.au ai).aZ)).key) ((rd l.au ai).cJ) ((rd x1 ((rd l.au ai).aZ)).aZ))) n6))] [(cl gz 238 [(ii l.k),(ll a6 (List.set x1 (Int.toNat ((rd l.au ai).aZ)) (bn.mk ((rd x1 ((rd l.au ai).aZ)).key) ((rd l.au ai).cJ) ((rd x1 ((rd l.au ai).aZ)).aZ))) n6),(.map (some oD)),(ii x2),(ii l.dg)])] J J ⟨(by first |rfl |(simp only[ll,List.length_set];rfl)),trivial⟩ (by first |rfl |(simp only[ll,List.length_set];rfl)) (an sl (ae (jd ?_)))))))
 cases H;exact p1 T J [4,3,1,0] ⟨a6,n6,H9,oD,uv,s9,vK,J,J⟩ J
def wX.f (l:fP) (ai:Int):Option fP:=if(0<=ai/\ai<(List.length l.au:Int)) then(if(0<=ai/\ai<(List.length (List.set l.au (Int.toNat ai) (bn.mk ((rd l.au ai).key) (-1) ((rd l.au ai).aZ))):Int)) then(if(l.cC==(-1))=true then(some (fP.mk l.k (List.set (List.set l.au (Int.toNat ai) (bn.mk ((rd l.au ai).key) (-1) ((rd l.au ai).aZ))) (Int.toNat ai) (bn.mk ((rd (List.set l.au (Int.toNat ai) (bn.mk ((rd l.au ai).key) (-1) ((rd l.au ai).aZ))) ai).key) ((rd (List.set l.au (Int.toNat ai) (bn.mk ((rd l.au ai).key) (-1) ((rd l.au ai).aZ))) ai).cJ) l.cC)) l.fD ai ai)) else(if(0<=l.cC/\l.cC<(List.length (List.set (List.set l.au (Int.toNat ai) (bn.mk ((rd l.au ai).key) (-1) ((rd l.au ai).aZ))) (Int.toNat ai) (bn.mk ((rd (List.set l.au (Int.toNat ai) (bn.mk ((rd l.au ai).key) (-1) ((rd l.au ai).aZ))) ai).key) ((rd (List.set l.au (Int.toNat ai) (bn.mk ((rd l.au ai).key) (-1) ((rd l.au ai).aZ))) ai).cJ) l.cC)):Int)) then(some (fP.mk l.k (List.set (List.set (List.set l.au (Int.toNat ai) (bn.mk ((rd l.au ai).key) (-1) ((rd l.au ai).aZ))) (Int.toNat ai) (bn.mk ((rd (List.set l.au (Int.toNat ai) (bn.mk ((rd l.au ai).key) (-1) ((rd l.au ai).aZ))) ai).key) ((rd (List.set l.au (Int.toNat ai) (bn.mk ((rd l.au ai).key) (-1) ((rd l.au ai).aZ))) ai).cJ) l.cC)) (Int.toNat l.cC) (bn.mk ((rd (List.set (List.set l.au (Int.toNat ai) (bn.mk ((rd l.au ai).key) (-1) ((rd l.au ai).aZ))) (Int.toNat ai) (bn.mk ((rd (List.set l.au (Int.toNat ai) (bn.mk ((rd l.au ai).key) (-1) ((rd l.au ai).aZ))) ai).key) ((rd (List.set l.au (Int.toNat ai) (bn.mk ((rd l.au ai).key) (-1) ((rd l.au ai).aZ))) ai).cJ) l.cC)) l.cC).key) ai ((rd (List.set (List.set l.au (Int.toNat ai) (bn.mk ((rd l.au ai).key) (-1) ((rd l.au ai).aZ))) (Int.toNat ai) (bn.mk ((rd (List.set l.au (Int.toNat ai) (bn.mk ((rd l.au ai).key) (-1) ((rd l.au ai).aZ))) ai).key) ((rd (List.set l.au (Int.toNat ai) (bn.mk ((rd l.au ai).key) (-1) ((rd l.au ai).aZ))) ai).cJ) l.cC)) l.cC).aZ))) l.fD ai l.dg)) else none)) else none) else none
def wX.R (gz:Nat) (r:fP) (u:Value) (G:List Hp):Prop:= ∃(a0:Option Addr) (n0:Nat) (H0:Hp) (a1:Nat) (H1:Hp),ak ky 278 r.au a0 n0 H0/\cP (Ky.pair T .i64 J J J lG u3) (λx:Int=>Value.int .i64 x) r.fD a1 H1/\u=(.tuple #[])/\G=[(cl gz 238 [(ii r.k),(ll a0 r.au n0),(.map (some a1)),(ii r.cC),(ii r.dg)]),H0,H1]
theorem wX.c (H:wX.f l ai=some r) (sS:ak ky 278 l.au me mj xW) (vK:cP (Ky.pair T .i64 J J J lG u3) (λx:Int=>Value.int .i64 x) l.fD oD uv):
 QR 225 [(pp gz),(ii ai)] [(cl gz 238 [(ii l.k),(ll me l.au mj),(.map (some oD)),(ii l.cC),(ii l.dg)]),xW,uv] [] F (wX.R gz r):=by
 unfold wX.f at H;refine aB Tryz.func225 J J (λW=>rc T 1 (fz J (rz [16,19] mix (bO bN) (λhg pf=>ha T 17 [0,1,2] sz hg pf J (av 3 sz hg pf J (aw T J J J J (aF (j:=0) J J)) (ha T 12 [4,5,6,7] sz hg pf J (av 8 sz hg pf J (aw T J J J J (aF (j:=0) J J)) (ha T 7 [9,10,11,12] sz hg pf J (av 13 sz hg pf J (aw T J J J J (aF (j:=0) J J)) ?_)))))))));obtain⟨c1,H⟩:=az H;obtain⟨q4,o4,e4⟩:=sS.r.addr c1.1 c1.2;refine av 14 sz hg pf J (cn T J J J J J e4 c1.1 c1.2) (ha T 4 [15] sz hg pf J (ao 16 (kK (k:=ky) T 1 2 (bn.mk ((rd l.au ai).key) (-1) ((rd l.au ai).aZ)) J J J J J J sS e4 c1 J J J (λH5 s5=>kg [0,1,4,5,6,8,9,10,11,13,14,15,16,17,18,19] [1,1,1] [1,1,1,0] [(7,(ll me (List.set l.au (Int.toNat ai) (bn.mk ((rd l.au ai).key) (-1) ((rd l.au ai).aZ))) mj)),(12,(ll me (List.set l.au (Int.toNat ai) (bn.mk ((rd l.au ai).key) (-1) ((rd l.au ai).aZ))) mj))] [(cl gz 238 [(ii l.k),(ll me (List.set l.au (Int.toNat ai) (bn.mk ((rd l.au ai).key) (-1) ((rd l.au ai).aZ))) mj),(.map (some oD)),(ii l.cC),(ii l.dg)])] J J ⟨(by first |rfl |(simp only[ll,List.length_set];rfl)),(by first |rfl |(simp only[ll,List.length_set];rfl)),trivial⟩ (by first |rfl |(simp only[ll,List.length_set];rfl)) (an sl (ao 17 ?_))))))
 obtain⟨c2,H⟩:=az H;refine lv J (cn T J J J J J e4 c2.1 c2.2) (an sl (hb T 18 sl hg pf J (ao 19 (kK (k:=ky) T 0 3 (bn.mk ((rd (List.set l.au (Int.toNat ai) (bn.mk ((rd l.au ai).key) (-1) ((rd l.au ai).aZ))) ai).key) ((rd (List.set l.au (Int.toNat ai) (bn.mk ((rd l.au ai).key) (-1) ((rd l.au ai).aZ))) ai).cJ) l.cC) J J J J J J s5 e4 c2 J J J (λH6 s6=>kg [0,1,4,5,6,8,9,10,11,13,14,15,16,17,18,19,20,21] [0,0,0] [0,0,0,0] [(7,(ll me (List.set (List.set l.au (Int.toNat ai) (bn.mk ((rd l.au ai).key) (-1) ((rd l.au ai).aZ))) (Int.toNat ai) (bn.mk ((rd (List.set l.au (Int.toNat ai) (bn.mk ((rd l.au ai).key) (-1) ((rd l.au ai).aZ))) ai).key) ((rd (List.set l.au (Int.toNat ai) (bn.mk ((rd l.au ai).key) (-1) ((rd l.au ai).aZ))) ai).cJ) l.cC)) mj)),(12,(ll me (List.set (List.set l.au (Int.toNat ai) (bn.mk ((rd l.au ai).key) (-1) ((rd l.au ai).aZ))) (Int.toNat ai) (bn.mk ((rd (List.set l.au (Int.toNat ai) (bn.mk ((rd l.au ai).key) (-1) ((rd l.au ai).aZ))) ai).key) ((rd (List.set l.au (Int.toNat ai) (bn.mk ((rd l.au ai).key) (-1) ((rd l.au ai).aZ))) ai).cJ) l.cC)) mj))] [(cl gz 238 [(ii l.k),(ll me (List.set (List.set l.au (Int.toNat ai) (bn.mk ((rd l.au ai).key) (-1) ((rd l.au ai).aZ))) (Int.toNat ai) (bn.mk ((rd (List.set l.au (Int.toNat ai) (bn.mk ((rd l.au ai).key) (-1) ((rd l.au ai).aZ))) ai).key) ((rd (List.set l.au (Int.toNat ai) (bn.mk ((rd l.au ai).key) (-1) ((rd l.au ai).aZ))) ai).cJ) l.cC)) mj),(.map (some oD)),(ii l.cC),(ii l.dg)])] J J ⟨(by first |rfl |(simp only[ll,List.length_set];rfl)),(by first |rfl |(simp only[ll,List.length_set];rfl)),trivial⟩ (by first |rfl |(simp only[ll,List.length_set];rfl)) (an sl (ae (rx T 7 (lf T 3 J (ro T 3 ?_))))))))))
 refine cb J H (λH=>?_) (λH=>?_)
 ·refine rc T 5 (sg T 3 J (ro T 7 (sg T 3 J (ro T 1 (ks [] J (jd ?_))))))
  cases H;exact p1 T J [3,0,0,0] ⟨me,mj,H6,oD,uv,s6,vK,J,J⟩ J
 refine ks [0,1] J (fz J (rz [11] mix (bO bN) (λhg pf=>ha T 9 [0,1,2] sz hg pf J (av 3 sz hg pf J (aw T J J J J (aF (j:=3) J J)) (ha T 5 [4,5,6] sz hg pf J (av 7 sz hg pf J (aw T J J J J (aF (j:=3) J J)) (ha T 3 [8] sz hg pf J ?_)))))));obtain⟨c4,H⟩:=az H;refine av 9 sz hg pf J (cn T J J J J J e4 c4.1 c4.2) (ha T 1 [10] sz hg pf J (ao 11 (kK (k:=ky) T 0 2 (bn.mk ((rd (List.set (List.set l.au (Int.toNat ai) (bn.mk ((rd l.au ai).key) (-1) ((rd l.au ai).aZ))) (Int.toNat ai) (bn.mk ((rd (List.set l.au (Int.toNat ai) (bn.mk ((rd l.au ai).key) (-1) ((rd l.au ai).aZ))) ai).key) ((rd (List.set l.au (Int.toNat ai) (bn.mk ((rd l.au ai).key) (-1) ((rd l.au ai).aZ))) ai).cJ) l.cC)) l.cC).key) ai ((rd (List.set (List.set l.au (Int.toNat ai) (bn.mk ((rd l.au ai).key) (-1) ((rd l.au ai).aZ))) (Int.toNat ai) (bn.mk ((rd (List.set l.au (Int.toNat ai) (bn.mk ((rd l.au ai).key) (-1) ((rd l.au ai).aZ))) ai).key) ((rd (List.set l.au (Int.toNat ai) (bn.mk ((rd l.au ai).key) (-1) ((rd l.au ai).aZ))) ai).cJ) l.cC)) l.cC).aZ)) J J J J J J s6 e4 c4 J J J (λH7 s7=>kg [0,1,31,32,33,35,36,37,38,39,40,41] [0,0,0] [0,0,0,0] [(34,(ll me (List.set (List.set (List.set l.au (Int.toNat ai) (bn.mk ((rd l.au ai).key) (-1) ((rd l.au ai).aZ))) (Int.toNat ai) (bn.mk ((rd (List.set l.au (Int.toNat ai) (bn.mk ((rd l.au ai).key) (-1) ((rd l.au ai).aZ))) ai).key) ((rd (List.set l.au (Int.toNat ai) (bn.mk ((rd l.au ai).key) (-1) ((rd l.au ai).aZ))) ai).cJ) l.cC)) (Int.toNat l.cC) (bn.mk ((rd (List.set (List.set l.au (Int.toNat ai) (bn.mk ((rd l.au ai).key) (-1) ((rd l.au ai).aZ))) (Int.toNat ai) (bn.mk ((rd (List.set l.au (Int.toNat ai) (bn.mk ((rd l.au ai).key) (-1) ((rd l.au ai).aZ))) ai).key) ((rd (List.set l.au (Int.toNat ai) (bn.mk ((rd l.au ai).key) (-1) ((rd l.au ai).aZ))) ai).cJ) l.cC)) l.cC).key) ai ((rd (List.set (List.set l.au (Int.toNat ai) (bn.mk ((rd l.au ai).key) (-1) ((rd l.au ai).aZ))) (Int.toNat ai) (bn.mk ((rd (List.set l.au (Int.toNat ai) (bn.mk ((rd l.au ai).key) (-1) ((rd l.au ai).aZ))) ai).key) ((rd (List.set l.au (Int.toNat ai) (bn.mk ((rd l.au ai).key) (-1) ((rd l.au ai).aZ))) ai).cJ) l.cC)) l.cC).aZ))) mj))] [(cl gz 238 [(ii l.k),(ll me (List.set (List.set (List.set l.au (Int.toNat ai) (bn.mk ((rd l.au ai).key) (-1) ((rd l.au ai).aZ))) (Int.toNat ai) (bn.mk ((rd (List.set l.au (Int.toNat ai) (bn.mk ((rd l.au ai).key) (-1) ((rd l.au ai).aZ))) ai).key) ((rd (List.set l.au (Int.toNat ai) (bn.mk ((rd l.au ai).key) (-1) ((rd l.au ai).aZ))) ai).cJ) l.cC)) (Int.toNat l.cC) (bn.mk ((rd (List.set (List.set l.au (Int.toNat ai) (bn.mk ((rd l.au ai).key) (-1) ((rd l.au ai).aZ))) (Int.toNat ai) (bn.mk ((rd (List.set l.au (Int.toNat ai) (bn.mk ((rd l.au ai).key) (-1) ((rd l.au ai).aZ))) ai).key) ((rd (List.set l.au (Int.toNat ai) (bn.mk ((rd l.au ai).key) (-1) ((rd l.au ai).aZ))) ai).cJ) l.cC)) l.cC).key) ai ((rd (List.set (List.set l.au (Int.toNat ai) (bn.mk ((rd l.au ai).key) (-1) ((rd l.au ai).aZ))) (Int.toNat ai) (bn.mk ((rd (List.set l.au (Int.toNat ai) (bn.mk ((rd l.au ai).key) (-1) ((rd l.au ai).aZ))) ai).key) ((rd (List.set l.au (Int.toNat ai) (bn.mk ((rd l.au ai).key) (-1) ((rd l.au ai).aZ))) ai).cJ) l.cC)) l.cC).aZ))) mj),(.map (some oD)),(ii l.cC),(ii l.dg)])] J J ⟨(by first |rfl |(simp only[ll,List.length_set];rfl)),trivial⟩ (by first |rfl |(simp only[ll,List.length_set];rfl)) (an sl (ae (rx T 6 (sg T 3 J (ro T 1 (jd ?_))))))))))
 cases H;exact p1 T J [3,0,0,0] ⟨me,mj,H7,oD,uv,s7,vK,J,J⟩ J
def wW.f (l:fP) (a:Int) (b:Int):Option (Int×Bool×Bool×fP):=(if(bM l.fD (a,b))=true then((sC.f l (aP l.fD (a,b))).bind λv9=>some (v9.k,v9.au,v9.fD,v9.cC,v9.dg,(aP l.fD (a,b)),false)) else(if(List.length l.au:Int)<l.k then(if(List.length l.au+1<=1099511627776) then(some (l.k,(l.au++[(bn.mk (a,b) 0 0)]),l.fD,l.cC,l.dg,(List.length l.au:Int),false)) else none) else((sC.f l l.dg).bind λv10=>if(0<=l.dg/\l.dg<(List.length v10.au:Int)) then(some (v10.k,(List.set v10.au (Int.toNat l.dg) (bn.mk (a,b) ((rd v10.au l.dg).cJ) ((rd v10.au l.dg).aZ))),(dO v10.fD ((rd v10.au l.dg).key.1,(rd v10.au l.dg).key.2)),v10.cC,v10.dg,l.dg,true)) else none))).bind λ(x1,x2,x3,x4,x5,x6,x7)=>(wX.f (fP.mk x1 x2 (cE x3 (a,b) x6) x4 x5) x6).bind λv11=>some (x6,(bM l.fD (a,b)),x7,v11)
def wW.R (gz:Nat) (r:(Int×Bool×Bool×fP)) (u:Value) (G:List Hp):Prop:= ∃(a0:Option Addr) (n0:Nat) (H0:Hp) (a1:Nat) (H1:Hp),ak ky 278 r.2.2.2.au a0 n0 H0/\cP (Ky.pair T .i64 J J J lG u3) (λx:Int=>Value.int .i64 x) r.2.2.2.fD a1 H1/\u=(.tuple #[(ii r.1),(bb r.2.1),(bb r.2.2.1)])/\G=[(cl gz 238 [(ii r.2.2.2.k),(ll a0 r.2.2.2.au n0),(.map (some a1)),(ii r.2.2.2.cC),(ii r.2.2.2.dg)]),H0,H1]
theorem wW.c (H:wW.f l a b=some r) (sS:ak ky 278 l.au me mj xW) (vK:cP (Ky.pair T .i64 J J J lG u3) (λx:Int=>Value.int .i64 x) l.fD oD uv):
 QR 184 [(pp gz),(ii a),(ii b)] [(cl gz 238 [(ii l.k),(ll me l.au mj),(.map (some oD)),(ii l.cC),(ii l.dg)]),xW,uv] [] F (wW.R gz r):=by
 unfold wW.f at H;refine aB Tryz.func184 J J (λW=>rc T 14 (eD J (rc T 6 (br J (I0 T J J J J J J) (nc T J (λb4=>sg T 4 J (ro T 3 (dA mix ay (aj T J (aj T J (aj T J (aO J J J (aw T J J J J (aF (j:=0) J J)) (aO J J J (gA T 4 J J J J J J J) (aO J J J (pN (k:=(a,b)) T (Ky.pair T .i64 J J J lG u3) (λx:Int=>Value.int .i64 x) J J J J J (oh vK (j:=2) J)) ?_))))))))))))))
 iterate 5 refine aj T J ?_
 refine cH (rx T 1 (mq H [0,7,9] [3,3] (λz8 (⟨x1,x2,x3,x4,x5,x6,x7,a5,n5,H5,a6,H6⟩:Int×List bn×(List ((Int×Int)×Int))×Int×Int×Int×Bool×Option Addr×Nat×Hp×Nat×Hp)=>((x1,x2,x3,x4,x5,x6,x7)=z8/\ak ky 278 x2 a5 n5 H5/\cP (Ky.pair T .i64 J J J lG u3) (λx:Int=>Value.int .i64 x) x3 a6 H6,[(6,(ii x6)),(8,(bb x7))],[(cl gz 238 [(ii x1),(ll a5 x2 n5),(.map (some a6)),(ii x4),(ii x5)]),H5,H6])) J J (λz8 Z1 _=>?_) ?_))
 ·refine rc T 7 (cb J Z1 (λZ1=>?_) (λZ1=>?_))
  ·refine rc T 3 (kr (sC.R gz) [] [0,0,0] J SH Z1 (sC.c · sS vK) (λv9 Z1=>?_));rintro _ _ ⟨a7,n7,H7,a8,H8,s7,s8,rfl,rfl⟩;refine fz J (ro T 3 (am (_,_,_,_,_,_,_,_,_,_,_,_) [0,0,0,0,0] ⟨oi Z1,s7,s8⟩ J J))
  refine rc T 1 (dA mix ay (aj T J (aj T J (aj T J (aO J J J (aw T J J J J (aF (j:=0) J J)) ?_)))))
  iterate 4 refine aj T J ?_
  refine aO J J J (aw T J J J J (aF (j:=0) J J)) (aj T J (aj T J (cH (rx T 1 (cd J Z1 (λZ1=>?_) (λZ1=>?_))))))
  ·refine rc T 5 (lf T 0 J (ro T 4 (ks [0,6,7,8,9] J (fz J (rg [8,11] [0,0,0,0,0] mix (bO bN) (λhg pf=>ha T 8 [0,1,2,3] sz hg pf J (av 4 sz hg pf J (aw T J J J J (aF (j:=0) J J)) (av 5 sz hg pf J (gA T 4 J J J J J J J) (ha T 5 [6] sz hg pf J (ao 7 (cV (k:=ky) T [(bn.mk (a,b) 0 0)] J J J J J J J J J (λa9 H9 s9=>an (so [0,0,0,0,0]) (ao 8 ?_)))))))))))));obtain⟨c5,Z1⟩:=az Z1;refine dR (k:=ky) (xs:=l.au) T (g:=1) J J J J J J J J J J sS (oO s9 5) c5 J (λcy n10 bX bS=>an sl (hb T 9 sl hg pf J (hb T 10 sl hg pf J (ao 11 (sf T 0 J (an sl (ae (rx T 1 (rx T 1 (am (_,_,_,_,_,_,_,_,_,_,_,_) [3,3,0,0,0] ⟨oi Z1,bS,vK⟩ J J))))))))))
  refine rc T 5 (lf T 0 J (ro T 8 (kr (sC.R gz) [] [0,0,0] J SH Z1 (sC.c · sS vK) (λv10 Z1=>?_))));rintro _ _ ⟨du,n11,cB,a12,dt,cS,dw,rfl,rfl⟩;refine fz J (ro T 3 (ks [0,6,7,8,9] J (fz J (rz [12] mix (bO bN) (λhg pf=>ha T 10 [0,1,2] sz hg pf J (av 3 sz hg pf J (aw T J J J J (aF (j:=2) J J)) (ha T 6 [4,5,6] sz hg pf J (av 7 sz hg pf J (aw T J J J J (aF (j:=2) J J)) (ha T 4 [8] sz hg pf J ?_)))))))));obtain⟨c7,Z1⟩:=az Z1;obtain⟨Vg,UP,wE⟩:=cS.r.addr c7.1 c7.2;refine av 9 sz hg pf J (cn T J J J J J wE c7.1 c7.2) (ha T 2 [10] sz hg pf J (av 11 sz hg pf J (fO T (cs:=[(ii (rd v10.au l.dg).key.1),(ii (rd v10.au l.dg).key.2)]) J J J J J J (aek (k:=ky) (oO cS 3) wE c7 0 J)) (ao 12 (Dl (g:=4) (m:=v10.fD) (k:=((rd v10.au l.dg).key.1,(rd v10.au l.dg).key.2)) T (Ky.pair T .i64 J J J lG u3) (λx:Int=>Value.int .i64 x) J J J J J J J J dw (λfG fp=>an sl (ae (rx T 1 (ks [0,6,7,8,9] J (fz J (rz [8] mix (bO bN) (λhg pf=>ha T 6 [0,1,2] sz hg pf J (av 3 sz hg pf J (aw T J J J J (aF (j:=2) J J)) (ha T 4 [4] sz hg pf J (av 5 sz hg pf J (gA T 1 J J J J J J J) (av 6 sz hg pf J (cn T J J J J J wE c7.1 c7.2) (ha T 1 [7] sz hg pf J (ao 8 (kK (k:=ky) T 3 0 (bn.mk (a,b) ((rd v10.au l.dg).cJ) ((rd v10.au l.dg).aZ)) J J J J J J cS wE c7 J J J (λdJ dP=>kg [0,6,7,8,9,43,44,45,47,48,49,50] [0,0,1,1] [0,0,1,1,0] [(46,(ll du (List.set v10.au (Int.toNat l.dg) (bn.mk (a,b) ((rd v10.au l.dg).cJ) ((rd v10.au l.dg).aZ))) n11))] [(cl gz 238 [(ii v10.k),(ll du (List.set v10.au (Int.toNat l.dg) (bn.mk (a,b) ((rd v10.au l.dg).cJ) ((rd v10.au l.dg).aZ))) n11),(.map (some a12)),(ii v10.cC),(ii v10.dg)])] J J ⟨(by first |rfl |(simp only[ll,List.length_set];rfl)),trivial⟩ (by first |rfl |(simp only[ll,List.length_set];rfl)) (an sl (ae (rx T 2 ?_))))))))))))))))))))))
  exact am (_,_,_,_,_,_,_,_,_,_,_,_) [0,0,2,0,0] ⟨oi Z1,dP,fp⟩ J J
 rintro _ ⟨x1,x2,x3,x4,x5,x6,x7,a5,n5,H5,a6,H6⟩ ⟨rfl,s5,s6⟩ H;refine rc T 1 (fz J (rz [6] mix (bO bN) (λhg pf=>ha T 4 [0,1,2] sz hg pf J (av 3 sz hg pf J (aw T J J J J (aF (j:=2) J J)) (av 4 sz hg pf J (gA T 1 J J J J J J J) (ha T 1 [5] sz hg pf J (ao 6 (pG (g:=4) (m:=x3) (k:=(a,b)) (v:=x6) T (Ky.pair T .i64 J J J lG u3) (λx:Int=>Value.int .i64 x) J J J J J J J s6 (λfX fR=>an sl (ae (rx T 5 (kr (wX.R gz) [] [2,2,2] J acG H (wX.c (l:=(fP.mk x1 x2 (cE x3 (a,b) x6) x4 x5)) · s5 fR) (λv11 H=>?_)))))))))))));rintro _ _ ⟨a17,n17,ek,jc,fc,fq,ft,rfl,rfl⟩;refine fz J (ro T 13 ?_)
 cases H;exact p1 T J [2,2,2,0] ⟨a17,n17,ek,jc,fc,fq,ft,J,J⟩ J
end
noncomputable section
def CW.f (h:CT) (ai:Int) (side:Int):Option Int:=if(¬h.t.W=0) then(if(¬h.t.W=0) then(if((side==0)&&(decide ((aa (Int.tdiv ai h.t.W))>0)))=true then(some (aa (ai-h.t.W))) else((if(side==1)=true then(some (decide ((Int.tmod ai h.t.W)<(aa (h.t.W-1))))) else(some false)).bind λx1=>if x1=true then(some (aa (ai+1))) else((if(side==2)=true then(some (decide ((aa (Int.tdiv ai h.t.W))<(aa (h.t.H-1))))) else(some false)).bind λx3=>if x3=true then(some (aa (ai+h.t.W))) else(if((side==3)&&(decide ((Int.tmod ai h.t.W)>0)))=true then(some (aa (ai-1))) else(some (-1)))))) else none) else none
theorem CW.c (H:CW.f h ai side=some r) (jj:(fi,Obj.cells #[(ii h.t.W),(ii h.t.H),(ll Bq h.t.C Cj),(ll km h.l kB),(ll Bp h.aR Ci)] 337 (0,0))∈F) (oc:aT (Fl.int .u8) h.t.C Bq F) (qm:List.length h.t.C<=Cj) (oX:aT cI h.l km F) (oQ:List.length h.l<=kB) (lT:aT (Fl.int .i64) h.aR Bp F) (ql:List.length h.aR<=Ci):
 QU 295 [(pp fi),(ii ai),(ii side)] [] F (ii r):=by
 unfold CW.f at H;refine aB Tryz.func295 J J (λW=>rc T 6 (dA mix ay ?_))
 iterate 5 refine aj T J ?_
 refine aO J J J (aw T J J J J (nt (j:=0) jj J J)) ?_;obtain⟨c1,H⟩:=az H;refine aO J J J (uV J J J c1) ?_
 iterate 5 refine aj T J ?_
 refine aO J J J (aw T J J J J (nt (j:=0) jj J J)) ?_;obtain⟨c2,H⟩:=az H;refine aO J J J (uU J J J c2) (aj T J (aj T J (cH (rx T 8 (ga T [3,4,5] 26 [0,1,2,7,8] 29 J J J J J J J (ro T 3 (cb J H (λH=>?_) (λH=>?_))))))))
 ·refine rc T 7 (lg T J (nt (j:=0) jj J J) (ro T 7 ?_))
  cases H;exact p0 T J [0] J
 refine mq H [0,1,2,7,8] [0] (λz2 (x1:Bool)=>(x1=z2,[(37,(bb x1))],[])) J J (λz2 Z4 _=>?_) ?_
 ·refine rc T 4 (ab 40 J Z4 (λZ4=>?_) (λZ4=>?_))
  ·refine ro T 5 (lg T J (nt (j:=0) jj J J) (ro T 6 (am _ [0] (oi Z4) J J)))
  refine ro T 12 (am _ [0] (oi Z4) J J)
 rintro _ x1 rfl H;refine cb J H (λH=>?_) (λH=>?_)
 ·refine rc T 10 ?_
  cases H;exact p0 T J [0] J
 refine mq H [0,1,2,7] [0] (λz4 (x3:Bool)=>(x3=z4,[(52,(bb x3))],[])) J J (λz4 Z7 _=>?_) ?_
 ·refine rc T 4 (ab 55 J Z7 (λZ7=>?_) (λZ7=>?_))
  ·refine ro T 5 (lg T J (nt (j:=0) jj J J) (ro T 6 (am _ [0] (oi Z7) J J)))
  refine ro T 12 (am _ [0] (oi Z7) J J)
 rintro _ x3 rfl H;refine cb J H (λH=>?_) (λH=>?_)
 ·refine rc T 7 (lg T J (nt (j:=0) jj J J) (ro T 7 ?_))
  cases H;exact p0 T J [0] J
 refine rc T 5 (ga T [3,4,5] 75 [1] 78 J J J J J J J (ro T 3 (cb J H (λH=>?_) (λH=>?_))))
 ·refine rc T 10 ?_
  cases H;exact p0 T J [0] J
 refine rc T 9 ?_
 cases H;exact p0 T J [0] J
def kF.f (h:CT) (ai:Int) (side:Int):Option Bool:=(CW.f h ai side).bind λv1=>if v1<0 then((kE.f h.l ai side).bind λv2=>if(0<=ai/\ai<(List.length h.aR:Int)) then(some (v2==(rd h.aR ai))) else none) else((if(0<=v1/\v1<(List.length h.t.C:Int)) then(if((rd h.t.C v1)!=255)=true then(if(0<=v1/\v1<(List.length h.aR:Int)) then(if(0<=ai/\ai<(List.length h.aR:Int)) then(some ((aa ((aa (rd h.t.C v1))+(rd h.aR v1)))==(rd h.aR ai))) else none) else none) else(some false)) else none).bind λx3=>some x3)
theorem kF.c (H:kF.f h ai side=some r) (jj:(fi,Obj.cells #[(ii h.t.W),(ii h.t.H),(ll Bq h.t.C Cj),(ll km h.l kB),(ll Bp h.aR Ci)] 337 (0,0))∈F) (oc:aT (Fl.int .u8) h.t.C Bq F) (qm:List.length h.t.C<=Cj) (oX:aT cI h.l km F) (oQ:List.length h.l<=kB) (lT:aT (Fl.int .i64) h.aR Bp F) (ql:List.length h.aR<=Ci):
 QU 277 [(pp fi),(ii ai),(ii side)] [] F (bb r):=by
 unfold kF.f at H;refine aB Tryz.func277 J J (λW=>rc T 10 (k [] J adh H (CW.c · (pR jj (j:=0) J) (rO oc 0) qm (rO oX 0) oQ (rO lT 0) ql) (λv1 H=>ro T 10 (cd J H (λH=>?_) (λH=>?_)))))
 ·refine rc T 1 (dA mix ay (aj T J (aj T J (aj T J (aO J J J (aw T J J J J (nt (j:=0) jj J J)) (aj T J (aj T J ?_)))))));obtain⟨v2,V3,H⟩:=gj H;refine uF J J J J J J SP J (kE.c V3 (rO oX 0) oQ) (aj T J (aj T J (aj T J (aO J J J (aw T J J J J (nt (j:=0) jj J J)) (aj T J ?_)))));obtain⟨c4,H⟩:=az H;obtain⟨q1,o1,e1⟩:=lT.addr c4.1 c4.2;refine aO J J J (cn T J J J J J e1 c4.1 c4.2) (aO J J J (aw T J J J J (e_ (k:=(Fl.int .i64)) (rO lT 0) e1 c4 0 J)) (aj T J (aj T J (cH (rx T 3 ?_)))))
  cases H;exact p0 T J [0] J
 refine rc T 2 (mq H [] [0] (λz4 (x3:Bool)=>(x3=z4,[(6,(bb x3))],[])) J J (λz4 Z5 _=>?_) ?_)
 ·refine dA mix ay ?_
  iterate 4 refine aj T J ?_
  refine aO J J J (aw T J J J J (nt (j:=0) jj J J)) (aj T J ?_);obtain⟨c6,Z5⟩:=az Z5;obtain⟨q2,o2,e2⟩:=oc.addr c6.1 c6.2;refine aO J J J (cn T J J J J J e2 c6.1 c6.2) (aO J J J (aw T J J J J (e_ (k:=(Fl.int .u8)) (rO oc 0) e2 c6 0 J)) (aj T J (aj T J (qb 38 J Z5 (λZ5=>?_) (λZ5=>?_)))))
  ·iterate 4 refine aj T J ?_
   refine aO J J J (aw T J J J J (nt (j:=0) jj J J)) (aj T J (aO J J J (cn T J J J J J e2 c6.1 c6.2) (aO J J J (aw T J J J J (e_ (k:=(Fl.int .u8)) (rO oc 0) e2 c6 0 J)) ?_)))
   iterate 4 refine aj T J ?_
   refine aO J J J (aw T J J J J (nt (j:=0) jj J J)) (aj T J ?_);obtain⟨c8,Z5⟩:=az Z5;obtain⟨q3,o3,e3⟩:=lT.addr c8.1 c8.2;refine aO J J J (cn T J J J J J e3 c8.1 c8.2) (aO J J J (aw T J J J J (e_ (k:=(Fl.int .i64)) (rO lT 0) e3 c8 0 J)) ?_)
   iterate 4 refine aj T J ?_
   refine aO J J J (aw T J J J J (nt (j:=0) jj J J)) (aj T J ?_);obtain⟨c9,Z5⟩:=az Z5;refine aO J J J (cn T J J J J J e3 c9.1 c9.2) (aO J J J (aw T J J J J (e_ (k:=(Fl.int .i64)) (rO lT 0) e3 c9 0 J)) (aj T J (aj T J (aj T J (cH (rx T 1 (am _ [0] (oi Z5) J J)))))))
  iterate 27 refine aj T J ?_
  refine cH (rx T 1 (am _ [0] (oi Z5) J J))
 rintro _ x3 rfl H;refine rc T 1 ?_
 cases H;exact p0 T J [0] J
def Ew.f (h:CT) (ai:Int) (side:Int):Option Int:=if(side==0)=true then((kF.f h ai 0).bind λv1=>if v1=true then(some 0) else((kF.f h ai 1).bind λv2=>if v2=true then(some 1) else((kF.f h ai 2).bind λv3=>if v3=true then(some 2) else((kF.f h ai 3).bind λv4=>if v4=true then(some 3) else(some 5))))) else(if(side==1)=true then((kF.f h ai 1).bind λv5=>if v5=true then(some 1) else((kF.f h ai 2).bind λv6=>if v6=true then(some 2) else((kF.f h ai 3).bind λv7=>if v7=true then(some 3) else(some 5)))) else(if(side==2)=true then((kF.f h ai 2).bind λv8=>if v8=true then(some 2) else((kF.f h ai 3).bind λv9=>if v9=true then(some 3) else(some 5))) else(if(side==3)=true then((kF.f h ai 3).bind λv10=>if v10=true then(some 3) else(some 5)) else(some 5))))
theorem Ew.c (H:Ew.f h ai side=some r) (jj:(fi,Obj.cells #[(ii h.t.W),(ii h.t.H),(ll Bq h.t.C Cj),(ll km h.l kB),(ll Bp h.aR Ci)] 337 (0,0))∈F) (oc:aT (Fl.int .u8) h.t.C Bq F) (qm:List.length h.t.C<=Cj) (oX:aT cI h.l km F) (oQ:List.length h.l<=kB) (lT:aT (Fl.int .i64) h.aR Bp F) (ql:List.length h.aR<=Ci):
 QU 251 [(pp fi),(ii ai),(ii side)] [] F (ii r):=by
 unfold Ew.f at H;refine aB Tryz.func251 J J (λW=>rc T 28 (cb J H (λH=>?_) (λH=>?_)))
 ·refine rc T 9 (k [] J wM H (kF.c · (pR jj (j:=0) J) (rO oc 0) qm (rO oX 0) oQ (rO lT 0) ql) (λv1 H=>ro T 2 (cb J H (λH=>?_) (λH=>?_))))
  ·refine rc T 14 ?_
   cases H;exact p0 T J [0] J
  refine rc T 7 (k [] J wM H (kF.c · (pR jj (j:=0) J) (rO oc 0) qm (rO oX 0) oQ (rO lT 0) ql) (λv2 H=>ro T 2 (cb J H (λH=>?_) (λH=>?_))))
  ·refine rc T 12 ?_
   cases H;exact p0 T J [0] J
  refine rc T 7 (k [] J wM H (kF.c · (pR jj (j:=0) J) (rO oc 0) qm (rO oX 0) oQ (rO lT 0) ql) (λv3 H=>ro T 2 (cb J H (λH=>?_) (λH=>?_))))
  ·refine rc T 10 ?_
   cases H;exact p0 T J [0] J
  refine rc T 8 (k [] J wM H (kF.c · (pR jj (j:=0) J) (rO oc 0) qm (rO oX 0) oQ (rO lT 0) ql) (λv4 H=>ro T 2 (cb J H (λH=>?_) (λH=>?_))))
  ·refine rc T 9 ?_
   cases H;exact p0 T J [0] J
  refine rc T 11 ?_
  cases H;exact p0 T J [0] J
 refine rc T 9 (cb J H (λH=>?_) (λH=>?_))
 ·refine rc T 11 (k [] J wM H (kF.c · (pR jj (j:=0) J) (rO oc 0) qm (rO oX 0) oQ (rO lT 0) ql) (λv5 H=>ro T 2 (cb J H (λH=>?_) (λH=>?_))))
  ·refine rc T 12 ?_
   cases H;exact p0 T J [0] J
  refine rc T 7 (k [] J wM H (kF.c · (pR jj (j:=0) J) (rO oc 0) qm (rO oX 0) oQ (rO lT 0) ql) (λv6 H=>ro T 2 (cb J H (λH=>?_) (λH=>?_))))
  ·refine rc T 10 ?_
   cases H;exact p0 T J [0] J
  refine rc T 8 (k [] J wM H (kF.c · (pR jj (j:=0) J) (rO oc 0) qm (rO oX 0) oQ (rO lT 0) ql) (λv7 H=>ro T 2 (cb J H (λH=>?_) (λH=>?_))))
  ·refine rc T 9 ?_
   cases H;exact p0 T J [0] J
  refine rc T 11 ?_
  cases H;exact p0 T J [0] J
 refine rc T 9 (cb J H (λH=>?_) (λH=>?_))
 ·refine rc T 13 (k [] J wM H (kF.c · (pR jj (j:=0) J) (rO oc 0) qm (rO oX 0) oQ (rO lT 0) ql) (λv8 H=>ro T 2 (cb J H (λH=>?_) (λH=>?_))))
  ·refine rc T 10 ?_
   cases H;exact p0 T J [0] J
  refine rc T 8 (k [] J wM H (kF.c · (pR jj (j:=0) J) (rO oc 0) qm (rO oX 0) oQ (rO lT 0) ql) (λv9 H=>ro T 2 (cb J H (λH=>?_) (λH=>?_))))
  ·refine rc T 9 ?_
   cases H;exact p0 T J [0] J
  refine rc T 11 ?_
  cases H;exact p0 T J [0] J
 refine rc T 8 (cb J H (λH=>?_) (λH=>?_))
 ·refine rc T 15 (k [] J wM H (kF.c · (pR jj (j:=0) J) (rO oc 0) qm (rO oX 0) oQ (rO lT 0) ql) (λv10 H=>ro T 2 (cb J H (λH=>?_) (λH=>?_))))
  ·refine rc T 9 ?_
   cases H;exact p0 T J [0] J
  refine rc T 11 ?_
  cases H;exact p0 T J [0] J
 refine rc T 19 ?_
 cases H;exact p0 T J [0] J
def CV.f (h:CT) (ai:Int):Option Int:=if(0<=ai/\ai<(List.length h.aR:Int)) then(if((rd h.aR ai)==1099511627776)=true then(some 5) else((kE.f h.l ai 4).bind λv1=>if((rd h.aR ai)==v1)=true then(some 4) else((Ew.f h ai 0).bind λv2=>some v2))) else none
theorem CV.c (H:CV.f h ai=some r) (jj:(fi,Obj.cells #[(ii h.t.W),(ii h.t.H),(ll Bq h.t.C Cj),(ll km h.l kB),(ll Bp h.aR Ci)] 337 (0,0))∈F) (oc:aT (Fl.int .u8) h.t.C Bq F) (qm:List.length h.t.C<=Cj) (oX:aT cI h.l km F) (oQ:List.length h.l<=kB) (lT:aT (Fl.int .i64) h.aR Bp F) (ql:List.length h.aR<=Ci):
 QU 229 [(pp fi),(ii ai)] [] F (ii r):=by
 unfold CV.f at H;refine aB Tryz.func229 J J (λW=>rc T 11 (lg T J (nt (j:=0) jj J J) (ro T 1 ?_)));obtain⟨c1,H⟩:=az H;obtain⟨q1,o1,e1⟩:=lT.addr c1.1 c1.2;refine ix T J e1 c1 (le T 0 (rO lT 0) e1 c1 J J (ro T 9 (cb J H (λH=>?_) (λH=>?_))))
 ·refine rc T 8 ?_
  cases H;exact p0 T J [0] J
 refine rc T 5 (lg T J (nt (j:=0) jj J J) (ro T 1 (k [] J SP H (kE.c · (rO oX 0) oQ) (λv1 H=>ro T 4 (cb J H (λH=>?_) (λH=>?_))))))
 ·refine rc T 8 ?_
  cases H;exact p0 T J [0] J
 refine rc T 7 (k [] J acX H (Ew.c · (pR jj (j:=0) J) (rO oc 0) qm (rO oX 0) oQ (rO lT 0) ql) (λv2 H=>ro T 4 ?_))
 cases H;exact p0 T J [0] J
def nM.l0:Nat->aJ->(List a_)->((List Int)×Int)->List Int->Int->Option (fZ×Int)
 |0,_,_,_,_,_=>none
 |k6+1,t,l,v1,x4,x5=>if x5<(List.length v1.1:Int) then((CV.f (CT.mk t l v1.1) x5).bind λv7=>if(List.length x4+1<=1099511627776) then(nM.l0 k6 t l v1 (x4++[v7]) (aa (x5+1))) else none) else(some ((fZ.mk v1.1 x4),0))
def nM.f (t:aJ) (l:(List a_)):Option (fZ×Int):=(tf.f t l).bind λv1=>if(v1.2 !=0)=true then(some ((fZ.mk [] []),v1.2)) else(nM.l0 fuel t l v1 [] 0)
def nM.R (r:(fZ×Int)) (u:Value) (G:List Hp):Prop:= ∃(a0:Option Addr) (n0:Nat) (H0:Hp) (a1:Option Addr) (n1:Nat) (H1:Hp),ak (Fl.int .i64) 3 r.1.fb a0 n0 H0/\ak (Fl.int .i64) 3 r.1.cA a1 n1 H1/\u=(.tuple #[(.agg #[(ll a0 r.1.fb n0),(ll a1 r.1.cA n1)]),(ii r.2)])/\G=[H0,H1]
theorem nM.c (H:nM.f t l=some r) (dM:aT (Fl.int .u8) t.C iv F) (fg:List.length t.C<=iB) (df:aT cI l ir F) (gn:List.length l<=hZ):
 QR 188 [(.agg #[(ii t.W),(ii t.H),(ll iv t.C iB)]),(ll ir l hZ)] [] [] F (nM.R r):=by
 unfold nM.f at H;refine aB Tryz.func188 J J (λW=>rc T 2 (nc T J (λb1=>nc T J (λb2=>ro T 5 (lm T 1 J (ro T 1 (kr tf.R [] [] J SI H (tf.c · (rO dM 0) fg (rO df 0) gn) (λv1 H=>?_))))))));rintro _ _ ⟨a3,n3,H3,s3,rfl,rfl⟩;refine fz J (ro T 14 (cb J H (λH=>?_) (λH=>?_)))
 ·refine rc T 4 (sg T 2 J (ro T 5 ?_))
  cases H;refine bq (bq (pb T J (.cO (j:=2) [nl,nl] J J J J J J J (.tmp J .nil)) [4,4,0] ⟨(_,_),none,0,[],none,0,[],ak.nil,ak.nil,J,J⟩ J J))
 refine rc T 4 (lm T 1 J (ro T 3 (nc T J (λb6=>ro T 2 (ke [4,6,8] [0,1,1,1] J J (rx T 5 (nc T J (λb7=>sg T 4 J (ro T 11 (bq (lq [4,8,9,29] [0,0,1,0] (λ(⟨k6,x4,x5,a9,n9,H9⟩:Nat×List Int×Int×Option Addr×Nat×Hp)=>(nM.l0 k6 t l v1 x4 x5=some r/\ak (Fl.int .i64) 3 x4 a9 n9 H9,[(30,(ii x5))],[(cl b7 79 [(ll a3 v1.1 n3),(ll a9 x4 n9)]),H9])) J J (fuel,[],0,none,0,[]) [0,0,1,0,0,0] ⟨H,ak.nil⟩ J J ?_)))))))))));rintro k6 ⟨x4,x5,a9,n9,H9⟩ ⟨Z3,s9⟩;rw[nM.l0] at Z3;refine rc T 6 (cd J Z3 (λZ3=>?_) (λZ3=>?_))
 ·refine rc T 10 (fz J (rg [6,8] [0,0,0,0,0,0] mix (bO bN) (λhg pf=>ha T 8 [0] sz hg pf J (av 1 sz hg pf J (aw T J J J J (aF (j:=4) J J)) (ha T 5 [2,3] sz hg pf J (ao 4 (kh [] J acI Z3 (CV.c (h:=(CT.mk t l v1.1)) · (yP (j:=2) J) (rO dM 0) fg (rO df 0) gn (oO s3 3) s3.bV) (λv7 Z3=>an sz (ao 5 (cV (k:=(Fl.int .i64)) T [v7] J J J J J J J J J (λcy bX bS=>an (so [0,0,0,0,0,0]) (ao 6 ?_))))))))))));obtain⟨c6,Z3⟩:=az Z3;refine dR (k:=(Fl.int .i64)) (xs:=x4) T (g:=5) J J J J J J J J J J s9 (oO bS 6) c6 J (λdu n11 cB cS=>an sl (hb T 7 sl hg pf J (ao 8 (sf T 4 J (an sl (ae (rx T 7 (ar (_,_,_,_,_) [0,0,0,0,0,0] ⟨Z3,cS⟩ J J))))))))
 refine rc T 7 (lm T 4 J (sg T 1 J (ro T 4 ?_)))
 cases Z3;exact pb T J (.cO (j:=1) [(ll a3 v1.1 n3),(ll a9 x4 n9)] J J J J J J J (.tmp J .nil)) [3,4,0] ⟨(_,_),a3,n3,H3,a9,n9,H9,s3,s9,J,J⟩ J J
end
noncomputable section
def xu.f (ag:Int):Option (Option jo):=if ag<1 then(some none) else((wY.f ag).bind λv1=>dq v1 (none) (λeX=>some (some (jo.mk eX [] (gx.mk 0 0 0 0 0 0)))))
def xu.R (r:(Option jo)) (u:Value) (G:List Hp):Prop:= ∃(u0:Value) (G0:List Hp),Xq r u0 G0/\u=u0/\G=G0
theorem xu.c (H:xu.f ag=some r):
 QR 77 [(ii ag)] [] [] F (xu.R r):=by
 unfold xu.f at H;refine aB Tryz.func77 J J (λW=>rc T 12 (cd J H (λH=>?_) (λH=>?_)))
 ·refine rc T 7 ?_
  cases H;exact p1 T J [0] ⟨_,_,⟨J,J⟩,J,J⟩ J
 refine rc T 5 (kr wY.R [] [] J abK H (wY.c ·) (λv1 H=>?_));rintro _ _ ⟨_,_,O3,rfl,rfl⟩;rcases v1 with _ |eX
 ·replace H:=eT J H
  cases H
 replace H:=eU J H;obtain⟨b1,a2,n2,H2,a3,H3,s2,s3,rfl,rfl⟩:=O3;refine ro T 1 (nc T J (λb4=>ro T 4 ?_))
 cases H;refine bq (gi [4,1,1,1,1] J (p1 T J [1,0] ⟨_,_,⟨b4,(List.flatten [(cl b4 173 [(pp b1),nl,(uu 0),(uu 0),(uu 0),(uu 0),(uu 0),(uu 0)]),(cl b1 238 [(ii eX.k),(ll a2 eX.au n2),(.map (some a3)),(ii eX.cC),(ii eX.dg)]),H2,H3,[]]),(show rU (jo.mk eX [] (gx.mk 0 0 0 0 0 0)) b4 (List.flatten [(cl b4 173 [(pp b1),nl,(uu 0),(uu 0),(uu 0),(uu 0),(uu 0),(uu 0)]),(cl b1 238 [(ii eX.k),(ll a2 eX.au n2),(.map (some a3)),(ii eX.cC),(ii eX.dg)]),H2,H3,[]]) from⟨b1,a2,n2,H2,a3,H3,none,0,[],s2,s3,(gv.nil (kd:=Ee) (E:=291)),J⟩),J,J⟩,J,J⟩ J))
def pz.f (s:jo):Option jo:=(yO.f s.keys).bind λv1=>some (jo.mk v1 [] s.count)
def pz.R (nh:Nat) (r:jo) (u:Value) (G:List Hp):Prop:= ∃(H0:Hp),rU r nh H0/\u=(.tuple #[])/\G=[H0]
theorem pz.c (H:pz.f s=some r) (cT:rU s bf dL):
 QR 117 [(pp bf)] [dL] [] F (pz.R bf r):=by
 unfold pz.f at H;refine aB Tryz.func117 J J (λW=>rc T 6 (mY J (rc T 1 ?_)));obtain⟨b3,a4,n4,H4,a5,H5,a6,n6,H6,s4,s5,s6,ck⟩:=(λx=>x) cT;refine bP 0 (congrArg some ck) (fz J (rc T 4 (lf T 1 J (kr (yO.R b3) [] [2,2,2] J Si H (yO.c · s4 s5) (λv1 H=>?_)))));rintro _ _ ⟨a7,n7,H7,a8,H8,s7,s8,rfl,rfl⟩;refine fz J (ro T 6 (sg T 1 J (ro T 1 (jd ?_))))
 cases H;refine bq (gi [1,2,2,2,2] J (p1 T J [2,0] ⟨(List.flatten [(cl bf 173 [(pp b3),nl,(uu s.count.bC),(uu s.count.bD),(uu s.count.bA),(uu s.count.bz),(uu s.count.bJ),(uu s.count.bF)]),(cl b3 238 [(ii v1.k),(ll a7 v1.au n7),(.map (some a8)),(ii v1.cC),(ii v1.dg)]),H7,H8,[]]),(show rU (jo.mk v1 [] s.count) bf (List.flatten [(cl bf 173 [(pp b3),nl,(uu s.count.bC),(uu s.count.bD),(uu s.count.bA),(uu s.count.bz),(uu s.count.bJ),(uu s.count.bF)]),(cl b3 238 [(ii v1.k),(ll a7 v1.au n7),(.map (some a8)),(ii v1.cC),(ii v1.dg)]),H7,H8,[]]) from⟨b3,a7,n7,H7,a8,H8,none,0,[],s7,s8,(gv.nil (kd:=Ee) (E:=291)),J⟩),J,J⟩ J))
def mo.f (count:Int):Option Int:=(rM.f count 1).bind λv1=>some v1
def mo.R (ZQ:Nat) (ZE:TypeId) (aam aan:List Value) (r:Int) (u:Value) (G:List Hp):Prop:=u=(.tuple #[])/\G=[[(ZQ,Obj.cells (aam++(Value.int .u64 r)::aan).toArray ZE (0,0))]]
theorem mo.c (H:mo.f count=some r):
 QR 186 [(.pointer (some ⟨Qo,List.length pre_count,none⟩))] [[(Qo,Obj.cells (pre_count++(uu count)::post_count).toArray Xx (0,0))]] [] F (mo.R Qo Xx pre_count post_count r):=by
 unfold mo.f at H;refine aB Tryz.func186 J J (λW=>rc T 4 (lg T J (ael (j:=0) J) (k [] J Jc H (rM.c ·) (λv1 H=>ro T 1 (aX (YS T 0 J J J J J J ?_))))));refine ro T 1 (jd ?_)
 cases H;exact p1 T J [0,0] ⟨J,J⟩ J
def sZ.f (ag:fZ):Option fZ:=(pZ.f ag.fb).bind λv1=>(pZ.f ag.cA).bind λv2=>some (fZ.mk v1 v2)
def sZ.R (r:fZ) (u:Value) (G:List Hp):Prop:= ∃(a0:Option Addr) (n0:Nat) (H0:Hp) (a1:Option Addr) (n1:Nat) (H1:Hp),ak (Fl.int .i64) 3 r.fb a0 n0 H0/\ak (Fl.int .i64) 3 r.cA a1 n1 H1/\u=(.agg #[(ll a0 r.fb n0),(ll a1 r.cA n1)])/\G=[H0,H1]
theorem sZ.c (H:sZ.f ag=some r) (abG:aT (Fl.int .i64) ag.fb XF F) (ZI:List.length ag.fb<=afH) (abF:aT (Fl.int .i64) ag.cA XE F) (ZH:List.length ag.cA<=afG):
 QR 187 [(.agg #[(ll XF ag.fb afH),(ll XE ag.cA afG)])] [] [] F (sZ.R r):=by
 unfold sZ.f at H;refine aB Tryz.func187 J J (λW=>rc T 2 (nc T J (λb1=>nc T J (λb2=>ro T 3 (ks [1,2] J (fz J (rg [7] [0,0,0] mix (bO bN) (λhg pf=>ha T 7 [0] sz hg pf J (av 1 sz hg pf J (aw T J J J J (aF (j:=1) J J)) (ha T 5 [3] sz hg pf J (av 4 sz hg pf J (aw T J J J J (aF (j:=1) J J)) (ao 2 (kR pZ.R [] [] J MT H (pZ.c · (rO abG 0) ZI) (λv1 H=>?_))))))))))))));rintro _ _ ⟨a3,n3,H3,s3,rfl,rfl⟩;refine fz J (an (so [0,0,0]) (ao 5 (kR pZ.R [] [] J MT H (pZ.c · (rO abF 0) ZH) (λv2 H=>?_))));rintro _ _ ⟨a4,n4,H4,s4,rfl,rfl⟩;refine fz J (an (so [0,0,0]) (ha T 1 [6] (so [0,0,0]) hg pf J (ao 7 (sf T 2 J (an sl (ae (rx T 1 (rc T 1 ?_))))))))
 cases H;exact pb T J (.cO (j:=2) [(ll a3 v1 n3),(ll a4 v2 n4)] J J J J J J J .nil) [3,3,0] ⟨(_,_),a3,n3,H3,a4,n4,H4,s3,s4,J,J⟩ J J
def mm.f (s:jo) (goal:Int) (bB:Int) (version:Int) (t:aJ) (l:(List a_)):Option (fZ×Int×jo):=(zh.f t l).bind λv1=>if(!v1)=true then(some ((fZ.mk [] []),1,s)) else((wW.f s.keys goal bB).bind λv2=>(if(v2.1==(List.length s.fields:Int))=true then(if(List.length s.fields+1<=1099511627776) then(some (s.fields++[(pX.mk 0 [] (fZ.mk [] []))])) else none) else(some s.fields)).bind λx3=>if(0<=v2.1/\v2.1<(List.length x3:Int)) then((if v2.2.1=true then(if((rd x3 v2.1).version==version)=true then((AR.f ((rd x3 v2.1).sY) l).bind λv7=>some v7) else(some false)) else(some false)).bind λx5=>if x5=true then((mo.f s.count.bz).bind λv8=>(sZ.f ((rd x3 v2.1).field)).bind λv9=>some (v9,0,(jo.mk v2.2.2.2 x3 (gx.mk s.count.bC s.count.bD s.count.bA v8 s.count.bJ s.count.bF)))) else((if v2.2.1=true then((mo.f s.count.bJ).bind λv12=>some v12) else(some s.count.bJ)).bind λaN=>(if v2.2.2.1=true then((mo.f s.count.bF).bind λcx=>some cx) else(some s.count.bF)).bind λaU=>(mo.f s.count.bA).bind λd_=>(nM.f t l).bind λv17=>(rK.f l).bind λfF=>(sZ.f v17.1).bind λnQ=>some (nQ,0,(jo.mk v2.2.2.2 (List.set x3 (Int.toNat v2.1) (pX.mk version fF v17.1)) (gx.mk s.count.bC s.count.bD d_ s.count.bz aN aU))))) else none)
def mm.R (nh:Nat) (r:(fZ×Int×jo)) (u:Value) (G:List Hp):Prop:= ∃(a0:Option Addr) (n0:Nat) (H0:Hp) (a1:Option Addr) (n1:Nat) (H1:Hp) (H2:Hp),ak (Fl.int .i64) 3 r.1.fb a0 n0 H0/\ak (Fl.int .i64) 3 r.1.cA a1 n1 H1/\rU r.2.2 nh H2/\u=(.tuple #[(.agg #[(ll a0 r.1.fb n0),(ll a1 r.1.cA n1)]),(ii r.2.1)])/\G=[H0,H1,H2]
theorem mm.c (H:mm.f s goal bB version t l=some r) (cT:rU s bf dL) (dM:aT (Fl.int .u8) t.C iv F) (fg:List.length t.C<=iB) (df:aT cI l ir F) (gn:List.length l<=hZ):
 QR 144 [(pp bf),(ii goal),(ii bB),(ii version),(.agg #[(ii t.W),(ii t.H),(ll iv t.C iB)]),(ll ir l hZ)] [dL] [] F (mm.R bf r):=by
 unfold mm.f at H;refine aB Tryz.func144 J J (λW=>rc T 2 (nc T J (λb2=>nc T J (λb3=>ro T 9 (lm T 2 J (ro T 1 (k [] J St H (zh.c · (rO dM 1) fg (rO df 1) gn) (λv1 H=>ro T 4 (cb J H (λH=>?_) (λH=>?_))))))))))
 ·refine rc T 3 (sg T 3 J (ro T 5 ?_))
  cases H;refine bq (bq (pb T J (.cO (j:=3) [nl,nl] J J J J J J J (.tmp J .nil)) [4,4,0,0] ⟨(_,_),none,0,[],none,0,[],dL,ak.nil,ak.nil,cT,J,J⟩ J J))
 refine rc T 3 ?_;obtain⟨b7,a8,n8,H8,a9,H9,cy,n10,bX,s8,s9,bS,hH6⟩:=(λx=>x) cT;refine bP 0 (congrArg some hH6) (fz J (rc T 4 (lf T 3 J (ro T 2 (kr (wW.R b7) [] [4,4,4] J aci H (wW.c · s8 s9) (λv2 H=>?_))))));rintro _ _ ⟨du,n11,cB,a12,dt,cS,dw,rfl,rfl⟩;refine fz J (ro T 9 (mq H [0,3,5,10,12,14,15,16] [0,4,4,4,0,0] (λz4 (⟨x3,dD,n13,ei⟩:List pX×Option Addr×Nat×Hp)=>(x3=z4/\gv Ee 291 x3 dD n13 ei,[],[(cl bf 173 [(pp b7),(ll dD x3 n13),(uu s.count.bC),(uu s.count.bD),(uu s.count.bA),(uu s.count.bz),(uu s.count.bJ),(uu s.count.bF)]),ei])) J J (λz4 Z4 _=>?_) ?_))
 ·refine rc T 6 (lf T 3 J (ro T 4 (cb J Z4 (λZ4=>?_) (λZ4=>?_))))
  ·refine rc T 5 (lf T 3 J (ro T 1 (bq (bq (bq (gi [8,8,8] J (aX (Fc (kd:=Ee) (E:=291) (q:=8) (c:=[(ii 0),nl,nl,nl]) T (pX.mk 0 [] (fZ.mk [] [])) J J J J J J J J J J ⟨none,0,[],none,0,[],none,0,[],(ak.nil (k:=cI) (E:=285)),(ak.nil (k:=(Fl.int .i64)) (E:=3)),(ak.nil (k:=(Fl.int .i64)) (E:=3)),J,J⟩ (λjc fc ft=>?_)))))))));obtain⟨c6,Z4⟩:=az Z4;refine aX (Fb (kd:=Ee) (xs:=s.fields) (ys:=[(pX.mk 0 [] (fZ.mk [] []))]) T (g:=4) (q:=9) J J J J J J J J J J bS J J ft c6 J (λmc n19 kJ gT=>ro T 2 (sg T 3 J (ro T 1 (ke [0,3,5,10,12,14,15,16] [0,0,0,0,0,0,0,0] J J (rx T 1 (am (_,_,_,_) [0,4,4,4,0,0,0,0] ⟨oi Z4,gT⟩ J J)))))))
  refine rc T 2 (am (_,_,_,_) [0,4,4,4,0,0,0,0] ⟨oi Z4,bS⟩ J J)
 rintro _ ⟨x3,dD,n13,ei⟩ ⟨rfl,cz⟩ H;refine rc T 5 (lf T 6 J (ro T 1 ?_));obtain⟨c7,H⟩:=az H;obtain⟨q20,o20,zY⟩:=cz.r.addr c7.1 c7.2;refine ix T J zY c7 (ro T 4 (mq H [0,3,5,10,12,15,16,17] [0,5,0,0,0,2,0,0] (λz6 (x5:Bool)=>(x5=z6,[(79,(bb x5))],[])) J J (λz6 Z8 _=>?_) ?_))
 ·refine rc T 3 (ab 64 J Z8 (λZ8=>?_) (λZ8=>?_))
  ·refine ro T 3 ?_;obtain⟨_,WT,⟨a21,n21,a22,n22,a23,n23,⟨r21,m21⟩,⟨r22,m22⟩,⟨r23,m23⟩,rfl⟩⟩:=mW.view cz.r c7;refine lg T J (B5 (j:=7) J WT zY 0 J) (ro T 4 (ab 72 J Z8 (λZ8=>?_) (λZ8=>?_)))
   ·refine ro T 3 (lg T J (B5 (j:=7) J WT zY 1 J) (ro T 1 (k [] J acj Z8 (AR.c · (rO r21 7) m21 (rO df 0) gn) (λv7 Z8=>ro T 3 (am _ [0,5,0,0,0,2,0,0] (oi Z8) J J)))))
   refine ro T 9 (am _ [0,5,0,0,0,2,0,0] (oi Z8) J J)
  refine ro T 17 (am _ [0,5,0,0,0,2,0,0] (oi Z8) J J)
 rintro _ x5 rfl H;refine cb J H (λH=>?_) (λH=>?_)
 ·refine rc T 6 (kr (mo.R bf 173 [(pp b7),(ll dD x3 n13),(uu s.count.bC),(uu s.count.bD),(uu s.count.bA)] [(uu s.count.bJ),(uu s.count.bF)]) [] [1] J Jg H (mo.c (pre_count:=[(pp b7),(ll dD x3 n13),(uu s.count.bC),(uu s.count.bD),(uu s.count.bA)]) (post_count:=[(uu s.count.bJ),(uu s.count.bF)]) ·) (λv8 H=>?_));rintro _ _ ⟨rfl,rfl⟩;refine fz J (ro T 7 ?_);obtain⟨_,w28,⟨a25,n25,a26,n26,Ip,n27,⟨r25,m25⟩,⟨r26,m26⟩,⟨r27,m27⟩,rfl⟩⟩:=mW.view cz.r c7;refine br J (fO T (cs:=[(ll a26 (rd x3 v2.1).field.fb n26),(ll Ip (rd x3 v2.1).field.cA n27)]) J J J J J J (NQ (j:=4) J w28 zY 2 J)) (kr sZ.R [] [] J Su H (sZ.c · (rO r26 4) m26 (rO r27 4) m27) (λv9 H=>?_));rintro _ _ ⟨xZ,n29,qY,Bo,n30,qZ,qH,pr,rfl,rfl⟩;refine fz J (sg T 6 J (ro T 5 ?_))
  cases H;refine gi [7,1,1,1,1] J (pb T J (.cO (j:=2) [(ll xZ v9.fb n29),(ll Bo v9.cA n30)] J J J J J J J (.tmp J .nil)) [3,3,3,0] ⟨(_,_),xZ,n29,qY,Bo,n30,qZ,(List.flatten [(cl bf 173 [(pp b7),(ll dD x3 n13),(uu s.count.bC),(uu s.count.bD),(uu s.count.bA),(uu v8),(uu s.count.bJ),(uu s.count.bF)]),(cl b7 238 [(ii v2.2.2.2.k),(ll du v2.2.2.2.au n11),(.map (some a12)),(ii v2.2.2.2.cC),(ii v2.2.2.2.dg)]),cB,dt,ei]),qH,pr,(show rU (jo.mk v2.2.2.2 x3 (gx.mk s.count.bC s.count.bD s.count.bA v8 s.count.bJ s.count.bF)) bf (List.flatten [(cl bf 173 [(pp b7),(ll dD x3 n13),(uu s.count.bC),(uu s.count.bD),(uu s.count.bA),(uu v8),(uu s.count.bJ),(uu s.count.bF)]),(cl b7 238 [(ii v2.2.2.2.k),(ll du v2.2.2.2.au n11),(.map (some a12)),(ii v2.2.2.2.cC),(ii v2.2.2.2.dg)]),cB,dt,ei]) from⟨b7,du,n11,cB,a12,dt,dD,n13,ei,cS,dw,cz,J⟩),J,J⟩ J J)
 refine rc T 2 (mq H [0,3,5,10,12,16,17] [0,1,1,1,1,1,1] (λiZ (aN:Int)=>(aN=iZ,[],[(cl bf 173 [(pp b7),(ll dD x3 n13),(uu s.count.bC),(uu s.count.bD),(uu s.count.bA),(uu s.count.bz),(uu aN),(uu s.count.bF)])])) J J (λiZ cQ _=>?_) ?_)
 ·refine rc T 5 (cb J cQ (λcQ=>?_) (λcQ=>?_))
  ·refine rc T 5 (kr (mo.R bf 173 [(pp b7),(ll dD x3 n13),(uu s.count.bC),(uu s.count.bD),(uu s.count.bA),(uu s.count.bz)] [(uu s.count.bF)]) [] [1] J Jg cQ (mo.c (pre_count:=[(pp b7),(ll dD x3 n13),(uu s.count.bC),(uu s.count.bD),(uu s.count.bA),(uu s.count.bz)]) (post_count:=[(uu s.count.bF)]) ·) (λv12 cQ=>?_));rintro _ _ ⟨rfl,rfl⟩;refine fz J (ro T 2 (am _ [0,0,0,0,0,0,0,0] (oi cQ) J J))
  refine rc T 2 (am _ [0,1,1,1,1,1,1,0] (oi cQ) J J)
 rintro _ aN rfl H;refine mq H [0,3,5,10,12,17] [0,0,0,0,0,0,0] (λHT (aU:Int)=>(aU=HT,[],[(cl bf 173 [(pp b7),(ll dD x3 n13),(uu s.count.bC),(uu s.count.bD),(uu s.count.bA),(uu s.count.bz),(uu aN),(uu aU)])])) J J (λHT gw _=>?_) ?_
 ·refine rc T 5 (cb J gw (λgw=>?_) (λgw=>?_))
  ·refine rc T 5 (kr (mo.R bf 173 [(pp b7),(ll dD x3 n13),(uu s.count.bC),(uu s.count.bD),(uu s.count.bA),(uu s.count.bz),(uu aN)] []) [] [7] J Jg gw (mo.c (pre_count:=[(pp b7),(ll dD x3 n13),(uu s.count.bC),(uu s.count.bD),(uu s.count.bA),(uu s.count.bz),(uu aN)]) (post_count:=[]) ·) (λcx gw=>?_));rintro _ _ ⟨rfl,rfl⟩;refine fz J (ro T 2 (am _ [0,0,0,0,0,0,0,0] (oi gw) J J))
  refine rc T 2 (am _ [0,0,0,0,0,0,0,0] (oi gw) J J)
 rintro _ aU rfl H;refine rc T 6 (kr (mo.R bf 173 [(pp b7),(ll dD x3 n13),(uu s.count.bC),(uu s.count.bD)] [(uu s.count.bz),(uu aN),(uu aU)]) [] [7] J Jg H (mo.c (pre_count:=[(pp b7),(ll dD x3 n13),(uu s.count.bC),(uu s.count.bD)]) (post_count:=[(uu s.count.bz),(uu aN),(uu aU)]) ·) (λd_ H=>?_));rintro _ _ ⟨rfl,rfl⟩;refine fz J (ro T 4 (lm T 5 J (ro T 1 (kr nM.R [] [] J ack H (nM.c · (rO dM 0) fg (rO df 0) gn) (λv17 H=>?_)))));rintro _ _ ⟨a31,n31,Bh,a32,n32,HZ,y_,za,rfl,rfl⟩;refine fz J (ro T 3 (nc T J (λb33=>sg T 10 J (ro T 4 (ke [3,5,12,17,18] [0,0,0,0,0,1,1,1,1,1] J J (fz J (rg [7] [0,0,0,0,0,0,0,0,0,0] mix (bO bN) (λhg pf=>ha T 5 [0,1,2] sz hg pf J (av 4 sz hg pf J (gA T 9 J J J J J J J) (ao 3 (kR rK.R [] [] J Sv H (rK.c · (rO df 0) gn) (λfF H=>?_))))))))))));rintro _ _ ⟨EW,n34,uo,xp,rfl,rfl⟩;refine fz J (an (so [0,0,0,0,0,0,0,0,0,0]) (ha T 1 [5,6] (so [0,0,0,0,0,0,0,0,0,0]) hg pf J (ao 7 (Lw (j:=4) J cz c7 (λ_ _ zA UT AN=>?_)))));obtain⟨a35,n35,Ia,zG,n36,zy,a37,n37,EK,Ks,CF,CG,rfl,rfl⟩:=UT;refine Lz (Lx T 4 0 [(ii version),(ll EW fF n34),(ll a31 v17.1.fb n31),(ll a32 v17.1.cA n32)] J J J J J J AN zY J J J J (λK5 AO=>an sl (ae (rx T 3 (lm T 9 J (kr sZ.R [] [] J Su H (sZ.c · (oO y_ 7) y_.bV (oO za 8) za.bV) (λnQ H=>?_)))))));rintro _ _ ⟨a40,n40,K6,a41,n41,EL,Ej,zb,rfl,rfl⟩;refine fz J (sg T 5 J (ro T 2 (gi [10,7,7] J (Lv (j:=4) (q:=13) (pX.mk version fF v17.1) J AO J J ⟨EW,n34,uo,a31,n31,Bh,a32,n32,HZ,xp,y_,za,J,J⟩ (λgu sP=>kg [12,13] [0,0,0,0,0,0,5,5] [0,0,0,0,0,0,5,5,0] [] [(cl bf 173 [(pp b7),(ll dD (List.set x3 (Int.toNat v2.1) (pX.mk version fF v17.1)) n13),(uu s.count.bC),(uu s.count.bD),(uu d_),(uu s.count.bz),(uu aN),(uu aU)])] J J trivial (by first |rfl |(simp only[ll,List.length_set];rfl)) (rx T 2 ?_))))))
 cases H;refine gi [8,1,1,1,1] J (pb T J (.cO (j:=1) [(ll a40 nQ.fb n40),(ll a41 nQ.cA n41)] J J J J J J J (.tmp J .nil)) [2,2,2,0] ⟨(_,_),a40,n40,K6,a41,n41,EL,(List.flatten [(cl bf 173 [(pp b7),(ll dD (List.set x3 (Int.toNat v2.1) (pX.mk version fF v17.1)) n13),(uu s.count.bC),(uu s.count.bD),(uu d_),(uu s.count.bz),(uu aN),(uu aU)]),(cl b7 238 [(ii v2.2.2.2.k),(ll du v2.2.2.2.au n11),(.map (some a12)),(ii v2.2.2.2.cC),(ii v2.2.2.2.dg)]),cB,dt,gu]),Ej,zb,(show rU (jo.mk v2.2.2.2 (List.set x3 (Int.toNat v2.1) (pX.mk version fF v17.1)) (gx.mk s.count.bC s.count.bD d_ s.count.bz aN aU)) bf (List.flatten [(cl bf 173 [(pp b7),(ll dD (List.set x3 (Int.toNat v2.1) (pX.mk version fF v17.1)) n13),(uu s.count.bC),(uu s.count.bD),(uu d_),(uu s.count.bz),(uu aN),(uu aU)]),(cl b7 238 [(ii v2.2.2.2.k),(ll du v2.2.2.2.au n11),(.map (some a12)),(ii v2.2.2.2.cC),(ii v2.2.2.2.dg)]),cB,dt,gu]) from⟨b7,du,n11,cB,a12,dt,dD,n13,gu,cS,dw,sP,J⟩),J,J⟩ J J)
def Et.f (s:jo):Option gx:=some s.count
theorem Et.c (H:Et.f s=some r) (cT:rU s bf dL):
 QU 80 [(pp bf)] [dL] F (.agg #[(uu r.bC),(uu r.bD),(uu r.bA),(uu r.bz),(uu r.bJ),(uu r.bF)]):=by
 unfold Et.f at H;refine aB Tryz.func80 J J (λW=>rc T 2 (nc T J (λb2=>ro T 9 (eD J (rc T 3 ?_)))));obtain⟨b4,a5,n5,H5,a6,H6,a7,n7,H7,s5,s6,s7,dp⟩:=(λx=>x) cT;refine bP 0 (congrArg some dp) (fz J (rc T 4 (lm T 2 J (sg T 1 J (ro T 3 ?_)))))
 cases H;refine dj [2,2,2,2,2] J dp (pb T J (.cO (j:=1) [(uu s.count.bC),(uu s.count.bD),(uu s.count.bA),(uu s.count.bz),(uu s.count.bJ),(uu s.count.bF)] J J J J J J J .nil) [2,0] () J J)
end
end Go.Proofs.YthodkonhneebbaaGreatDoor
