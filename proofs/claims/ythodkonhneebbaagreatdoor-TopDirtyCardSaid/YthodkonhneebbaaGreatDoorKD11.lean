/- What the functions of some packages compute, each as a function of plain Lean, with its contract. No condition. -/
import Derived.Test.YthodkonhneebbaaGreatDoorKDT
import Derived.Test.YthodkonhneebbaaGreatDoorKD7
import Derived.Test.YthodkonhneebbaaGreatDoorKD8
import Derived.Test.YthodkonhneebbaaGreatDoorKD10
import Derived.Test.YthodkonhneebbaaGreatDoorKD5
import Derived.Test.YthodkonhneebbaaGreatDoorKD6
namespace Go.Proofs.YthodkonhneebbaaGreatDoor
open Go.Hx
set_option maxRecDepth 100000
set_option linter.unusedSimpArgs false
set_option linter.unusedVariables false
set_option maxHeartbeats 4000000
set_option autoImplicit true
set_option relaxedAutoImplicit true
noncomputable section
def Hg.f:Option Int:=some 0
theorem Hg.c (H:Hg.f=some r):
 QU 108 [(.pointer none)] [] F (uu r):=by
 unfold Hg.f at H;refine aD Tryz.func108 J J (λW=>rc T 12 (nh J (rc T 7 ?_)))
 cases H;exact p0 T J [0] J
def Hh.f (ag:j6) (jK:dC) (eX:bA):Option Int:=some ag.count
theorem Hh.c (H:Hh.f ag jK eX=some r) (cJ:tM ag aY lT jG de) (zx:mD jK lT jG oQ) (pF:iC eX jG mh):
 QU 108 [(pp aY)] [de,oQ,mh] F (uu r):=by
 unfold Hh.f at H;refine aD Tryz.func108 J J (λW=>rc T 12 (eN J (rc T 3 ?_)));obtain⟨Bp,H7,s7,kU⟩:=(λx=>x) cJ;refine bQ 0 (congrArg some kU) (fz J (rc T 4 (lf T 3 J (ro T 4 ?_))))
 cases H;refine dp [3,3] J kU (p0 T J [3,0,0,0] J)
def sY.f (m:dC) (g:bA):Option (Option j6):=some (some (j6.mk none 0))
def sY.R (w0:Nat) (w1:Nat) (r:(Option j6)) (u:Value) (G:List Hp):Prop:= ∃(u0:Value) (G0:List Hp),X6 w0 w1 r u0 G0/\u=u0/\G=G0
theorem sY.c (H:sY.f m g=some r) (rQ:mD m iF fa na) (fC:iC g fa fY):
 QR 151 [(pp iF),(pp fa)] [na,fY] [na,fY] F (sY.R iF fa r):=by
 unfold sY.f at H;refine aD Tryz.func151 J J (λW=>rc T 16 (eN J (rc T 7 (nc T J (λb3=>ro T 4 ?_)))))
 cases H;refine bw (gn [3,3] J (p1 T J [3,0,0,0] ⟨_,_,⟨b3,(List.flatten [(cl b3 233 [(pp iF),(pp fa),(.pointer none),(uu 0)]),[]]),(show tM (j6.mk none 0) b3 iF fa (List.flatten [(cl b3 233 [(pp iF),(pp fa),(.pointer none),(uu 0)]),[]]) from⟨(.pointer none),[],(show LA none iF fa (.pointer none) [] from⟨J,J⟩),J⟩),J,J⟩,J,J⟩ J))
def Hi.f:Option Unit:=some ()
theorem Hi.c (H:Hi.f=some r):
 QU 118 [(.pointer none)] [] F (.tuple #[]):=by
 unfold Hi.f at H;refine aD Tryz.func118 J J (λW=>rc T 6 (eN J (rc T 1 (iZ ?_))))
 cases H;exact p0 T J [0] J
def A3.f (ag:j6) (jK:dC) (eX:bA):Option j6:=some (j6.mk none ag.count)
def A3.R (nk:Nat) (Oj:Nat) (Ol:Nat) (r:j6) (u:Value) (G:List Hp):Prop:= ∃(H0:Hp),tM r nk Oj Ol H0/\u=(.tuple #[])/\G=[H0]
theorem A3.c (H:A3.f ag jK eX=some r) (cJ:tM ag aY lT jG de) (zx:mD jK lT jG oQ) (pF:iC eX jG mh):
 QR 118 [(pp aY)] [de,oQ,mh] [oQ,mh] F (A3.R aY lT jG r):=by
 unfold A3.f at H;refine aD Tryz.func118 J J (λW=>rc T 6 (nh J ?_));obtain⟨Bp,H7,s7,kU⟩:=(λx=>x) cJ;refine bQ 0 (congrArg some kU) (fz J (rc T 4 (sg T 3 J (ro T 1 (iZ ?_)))))
 cases H;refine bw (gn [3,4] J (p1 T J [4,0,0,0] ⟨(List.flatten [(cl aY 233 [(pp lT),(pp jG),(.pointer none),(uu ag.count)]),[]]),(show tM (j6.mk none ag.count) aY lT jG (List.flatten [(cl aY 233 [(pp lT),(pp jG),(.pointer none),(uu ag.count)]),[]]) from⟨(.pointer none),[],(show LA none lT jG (.pointer none) [] from⟨J,J⟩),J⟩),J,J⟩ J))
def jk.l1:Nat->Int->bA->(Int×Int)->(List (Int×Int))->Int->Int->List dI->Int->Option ((List (Int×Int))×(List dI))
 |0,_,_,_,_,_,_,_,_=>none
 |pq+1,goal,eX,v1,bf,bd,aU,bW,dy=>if dy<=3 then((mf.f v1.1 v1.2 bd dy).bind λv25=>(if v25<0 then(some true) else((gi.f v1.1 v1.2 v25).bind λv28=>(gi.f v1.1 v1.2 goal).bind λrV=>if(v28 !=rV)=true then(some true) else((jc.f eX v25).bind λv30=>some (v30==255)))).bind λjT=>if jT=true then(jk.l1 pq goal eX v1 bf bd aU bW (aa (dy+1))) else((jc.f eX bd).bind λv31=>(ny.f (eO.mk bW) (aa (aU+v31)) v25).bind λv32=>jk.l1 pq goal eX v1 bf bd aU v32.l (aa (dy+1)))) else(some ((cC bf bd aU),bW))
def jk.l0:Nat->Int->bA->(Int×Int)->(List (Int×Int))->List dI->Int->Int->Bool->Option (List (Int×Int))
 |0,_,_,_,_,_,_,_,_=>none
 |zf+1,goal,eX,v1,bf,bo,aU,bd,ct=>if ct=true then((if(bN bf bd)=true then(some (bf,bo)) else(jk.l1 fuel goal eX v1 bf bd aU bo 0)).bind λ(cX,dV)=>(nu.f (eO.mk dV)).bind λv33=>jk.l0 zf goal eX v1 cX v33.2.2.2.l v33.1 v33.2.1 v33.2.2.1) else(some bf)
def jk.f (ag:j6) (goal:Int) (jK:dC) (eX:bA):Option (List (Int×Int)):=(iH.f eX).bind λv1=>(jc.f eX goal).bind λv2=>if(v2==255)=true then(some ([]:(List (Int×Int)))) else((vy.f).bind λv3=>dm v3 (none) (λtG=>(ny.f tG 0 goal).bind λv4=>(nu.f v4).bind λv5=>jk.l0 fuel goal eX v1 ([]:(List (Int×Int))) v5.2.2.2.l v5.1 v5.2.1 v5.2.2.1))
def jk.R (r:(List (Int×Int))) (u:Value) (G:List Hp):Prop:= ∃(a0:Nat) (H0:Hp),cM (Ky.int .i64 u3) (λx:Int=>Value.int .i64 x) r a0 H0/\u=(.map (some a0))/\G=[H0]
theorem jk.c (H:jk.f ag goal jK eX=some r) (cJ:tM ag aY lT jG de) (zx:mD jK lT jG oQ) (pF:iC eX jG mh):
 QR 214 [(pp aY),(ii goal)] [de,oQ,mh] [de,oQ,mh] F (jk.R r):=by
 unfold jk.f at H;refine aD Tryz.func214 J J (λW=>rc T 6 ?_);obtain⟨Bp,H7,s7,kU⟩:=(λx=>x) cJ;refine bQ 0 (congrArg some kU) (fz J (rc T 4 (lf T 3 J (k [1] J uc H (iH.c · pF) (λv1 H=>ro T 9 (aX (u7 T (Ky.int .i64 u3) (λx:Int=>Value.int .i64 x) J J J trivial (λa8 H8 s8=>ro T 9 (lf T 3 J (ro T 1 (k [1] J vt H (jc.c · pF) (λv2 H=>ro T 3 (cb J H (λH=>?_) (λH=>?_))))))))))))))
 ·refine rc T 8 ?_
  cases H;refine dp [3,3] J kU (p1 T J [3,3,0,0,0] ⟨a8,H8,s8,J,J⟩ J)
 refine rc T 4 (kr vy.R [] [] J Tk H (vy.c ·) (λv3 H=>?_));rintro _ _ ⟨_,_,O5,rfl,rfl⟩;rcases v3 with _ |tG
 ·replace H:=eV J H
  cases H
 replace H:=eW J H;obtain⟨b9,cw,n10,bX,bT,rfl,rfl⟩:=O5;refine ro T 7 (kr (ny.R b9) [] [6,6] J JF H (ny.c · bT) (λv4 H=>?_));rintro _ _ ⟨dt,n11,cA,dh,rfl,rfl⟩;refine fz J (ro T 1 (ks [0,1,5,6,7,8] J (rx T 5 (kr (nu.R b9) [] [6,6] J JG H (nu.c · dh) (λv5 H=>?_)))));rintro _ _ ⟨a12,n12,dz,dJ,rfl,rfl⟩;refine fz J (ro T 10 (lq [0,1,5,6,8] [2,2,2,0,0] (λ(⟨zf,bf,bo,aU,bd,ct,jE,dE,jV,n16,fN⟩:Nat×(List (Int×Int))×List dI×Int×Int×Bool×Nat×Hp×Option Addr×Nat×Hp)=>(jk.l0 zf goal eX v1 bf bo aU bd ct=some r/\cM (Ky.int .i64 u3) (λx:Int=>Value.int .i64 x) bf jE dE/\aj fB 359 bo jV n16 fN,[(7,(.map (some jE))),(9,(ii aU)),(10,(ii bd)),(11,(bb ct))],[dE,(cl b9 357 [(ll jV bo n16)]),fN])) J J (fuel,([]:(List (Int×Int))),v5.2.2.2.l,v5.1,v5.2.1,v5.2.2.1,a8,H8,a12,n12,dz) [2,2,2,0,0,0,0,0] ⟨H,s8,dJ⟩ J J ?_));rintro zf ⟨bf,bo,aU,bd,ct,jE,dE,jV,n16,fN⟩ ⟨Z8,dN,fj⟩;rw[jk.l0] at Z8;refine rc T 6 (cb J Z8 (λZ8=>?_) (λZ8=>?_))
 ·refine rc T 2 (mq Z8 [0,1,5,6,8] [0,0,0,0,0] (λPY (⟨cX,dV,a17,ez,iQ,n18,e_⟩:(List (Int×Int))×List dI×Nat×Hp×Option Addr×Nat×Hp)=>((cX,dV)=PY/\cM (Ky.int .i64 u3) (λx:Int=>Value.int .i64 x) cX a17 ez/\aj fB 359 dV iQ n18 e_,[(7,(.map (some a17)))],[ez,(cl b9 357 [(ll iQ dV n18)]),e_])) J J (λPY lR _=>?_) ?_)
  ·refine rc T 6 (br J (pV (k:=bd) T (Ky.int .i64 u3) (λx:Int=>Value.int .i64 x) J J J J J (oB dN (j:=5) J)) (ro T 12 (cb J lR (λlR=>?_) (λlR=>?_))))
   ·refine rc T 4 (am (_,_,_,_,_,_,_) [0,0,0,0,0,0,0,0] ⟨oi lR,dN,fj⟩ J J)
   refine rc T 7 (aX (pP (g:=5) (m:=bf) (k:=bd) (v:=aU) T (Ky.int .i64 u3) (λx:Int=>Value.int .i64 x) J J J J J J J dN (λkJ gR=>ro T 8 (lq [0,1,5,6,7,8,9,10] [0,0,0,0,0,0] (λ(⟨pq,bW,dy,a21,n21,lr⟩:Nat×List dI×Int×Option Addr×Nat×Hp)=>(jk.l1 pq goal eX v1 bf bd aU bW dy=some PY/\aj fB 359 bW a21 n21 lr,[(14,(ii dy))],[(cl b9 357 [(ll a21 bW n21)]),lr])) J J (fuel,bo,0,jV,n16,fN) [0,0,0,0,0,0,0,0] ⟨lR,fj⟩ J J ?_))));rintro pq ⟨bW,dy,a21,n21,lr⟩ ⟨bt,jO⟩;rw[jk.l1] at bt;refine rc T 7 (cd J bt (λbt=>?_) (λbt=>?_))
   ·refine rc T 10 (k [] J Ao bt (mf.c ·) (λv25 bt=>ro T 4 (mq bt [0,1,5,6,7,8,9,10,14,15] [0,0,0,0,0,0,0,0] (λXH (jT:Bool)=>(jT=XH,[(90,(bb jT))],[])) J J (λXH dj _=>?_) ?_)))
    ·refine rc T 4 (ad 71 J dj (λdj=>?_) (λdj=>?_))
     ·refine ro T 21 (am _ [0,0,0,0,0,0,0,0] (oi dj) J J)
     refine ro T 3 (k [] J qA dj (gi.c ·) (λv28 dj=>ro T 3 (k [] J qA dj (gi.c ·) (λrV dj=>ro T 3 (ab 82 J dj (λdj=>?_) (λdj=>?_))))))
     ·refine ro T 10 (am _ [0,0,0,0,0,0,0,0] (oi dj) J J)
     refine ro T 3 (lf T 1 J (ro T 1 (k [4] J vt dj (jc.c · pF) (λv30 dj=>ro T 4 (am _ [0,0,0,0,0,0,0,0] (oi dj) J J)))))
    rintro _ jT rfl bt;refine cb J bt (λbt=>?_) (λbt=>?_)
    ·refine rc T 10 (ar (_,_,_,_,_) [0,0,0,0,0,0,0,0] ⟨bt,jO⟩ J J)
    refine rc T 8 (lf T 1 J (ro T 1 (k [4] J vt bt (jc.c · pF) (λv31 bt=>ro T 2 (kr (ny.R b9) [] [6,6] J JF bt (ny.c (h:=(eO.mk bW)) · jO) (λv32 bt=>?_))))));rintro _ _ ⟨a22,n22,mC,iM,rfl,rfl⟩;refine fz J (ro T 9 (ar (_,_,_,_,_) [0,0,0,0,0,0,0,0] ⟨bt,iM⟩ J J))
   refine rc T 6 (am (_,_,_,_,_,_,_) [0,0,0,0,0,0,0,0] ⟨oi bt,gR,jO⟩ J J)
  rintro _ ⟨cX,dV,a17,ez,iQ,n18,e_⟩ ⟨rfl,fw,fk⟩ Z8;refine rc T 2 (kr (nu.R b9) [] [6,6] J JG Z8 (nu.c (h:=(eO.mk dV)) · fk) (λv33 Z8=>?_));rintro _ _ ⟨a23,n23,jD,gS,rfl,rfl⟩;refine fz J (ro T 9 (ar (_,_,_,_,_,_,_,_,_,_) [0,0,0,0,0,0,0,0] ⟨Z8,fw,gS⟩ J J))
 refine rc T 12 ?_
 cases Z8;refine dp [1,1] J kU (p1 T J [3,5,1,1,0] ⟨jE,dE,dN,J,J⟩ J)
def sZ.f (ag:g_) (node:Int) (key:Int):Option (Bool×g_):=if(0<=node/\node<(List.length ag.aR:Int)) then(if key≥(aa (rd ag.aR node)) then(some (false,ag)) else(some (true,(g_.mk ag.goal ag.bL (List.set ag.aR (Int.toNat node) (IntKind.i32.wrap key)))))) else none
def sZ.R (aY:Nat) (r:(Bool×g_)) (u:Value) (G:List Hp):Prop:= ∃(a0:Option Addr) (n0:Nat) (H0:Hp),aj (Fl.int .i32) 21 r.2.aR a0 n0 H0/\u=(bb r.1)/\G=[(cl aY 235 [(ii r.2.goal),(ii r.2.bL),(ll a0 r.2.aR n0)]),H0]
theorem sZ.c (H:sZ.f ag node key=some r) (wk:aj (Fl.int .i32) 21 ag.aR wP xx zT):
 QR 216 [(pp aY),(ii node),(ii key)] [(cl aY 235 [(ii ag.goal),(ii ag.bL),(ll wP ag.aR xx)]),zT] [] F (sZ.R aY r):=by
 unfold sZ.f at H;refine aD Tryz.func216 J J (λW=>rc T 12 (lf T 0 J (ro T 1 ?_)));obtain⟨c1,H⟩:=az H;obtain⟨q3,o3,e3⟩:=wk.r.addr c1.1 c1.2;refine ix T J e3 c1 (le T 0 (oO wk 1) e3 c1 J J (ro T 4 (cd J H (λH=>?_) (λH=>?_))))
 ·refine rc T 7 ?_
  cases H;exact p1 T J [0,0,0] ⟨wP,xx,zT,wk,J,J⟩ J
 refine rc T 7 (lf T 0 J (ro T 3 (ix T J e3 c1 (aX (jX (k:=(Fl.int .i32)) T 1 0 (IntKind.i32.wrap key) J J J J J J wk e3 c1 J J J (λH4 s4=>kg [] [1,1] [1,1,0] [] [(cl aY 235 [(ii ag.goal),(ii ag.bL),(ll wP (List.set ag.aR (Int.toNat node) (IntKind.i32.wrap key)) xx)])] J J trivial (by first |rfl |(simp only[ll,List.length_set];rfl)) (ro T 8 ?_)))))))
 cases H;exact p1 T J [2,0,0] ⟨wP,xx,H4,s4,J,J⟩ J
def fT.l2:Nat->Int->Int->(List dZ)->Int->Int->List Int->List dI->Int->Option (Int×Int×(List Int)×(List dI))
 |0,_,_,_,_,_,_,_,_=>none
 |GJ+1,goal,eH,rX,Dk,Dl,Bs,zK,ra=>if ra<(List.length rX:Int) then(if(0<=ra/\ra<(List.length rX:Int)) then((sZ.f (g_.mk Dk Dl Bs) ((rd rX ra).To) (aa (eH+(rd rX ra).kI))).bind λv64=>if v64.1=true then((ny.f (eO.mk zK) (aa (eH+(rd rX ra).kI)) ((rd rX ra).To)).bind λXz=>fT.l2 GJ goal eH rX v64.2.goal v64.2.bL v64.2.aR Xz.l (aa (ra+1))) else(fT.l2 GJ goal eH rX v64.2.goal v64.2.bL v64.2.aR zK (aa (ra+1)))) else none) else(some (Dk,Dl,Bs,zK))
def fT.l1:Nat->Int->dC->bA->Int->Int->List Int->List dI->Int->Int->Bool->Option (Option g_)
 |0,_,_,_,_,_,_,_,_,_,_=>none
 |xp+1,goal,jK,eX,fm,gk,dW,iO,eH,iP,hU=>if hU=true then((if(0<=iP/\iP<(List.length dW:Int)) then(if eH>(aa (rd dW iP)) then(some (fm,gk,dW,iO)) else((gP.f jK iP eX).bind λrX=>fT.l2 fuel goal eH rX fm gk dW iO 0)) else none).bind λ(HW,HX,nY,mZ)=>(nu.f (eO.mk mZ)).bind λv66=>fT.l1 xp goal jK eX HW HX nY v66.2.2.2.l v66.1 v66.2.1 v66.2.2.1) else(some (some (g_.mk fm gk dW)))
def fT.l0:Nat->Int->dC->bA->(List (Int×Int))->(List Int)->Int->Int->List Int->List dI->Int->Option (Option g_)
 |0,_,_,_,_,_,_,_,_,_,_=>none
 |Kc+1,goal,jK,eX,v5,v7,aU,bd,ct,dP,cX=>if cX<(List.length v7:Int) then((if(0<=cX/\cX<(List.length v7:Int)) then((if(bN v5 (rd v7 cX))=true then((sZ.f (g_.mk aU bd ct) (rd v7 cX) (aP v5 (rd v7 cX))).bind λrV=>some (rV.2.goal,rV.2.bL,rV.2.aR,rV.1)) else(some (aU,bd,ct,false))).bind λ(qn,iz,jT,jC)=>if jC=true then((ny.f (eO.mk dP) (aP v5 (rd v7 cX)) (rd v7 cX)).bind λv30=>some (qn,iz,jT,v30.l)) else(some (qn,iz,jT,dP))) else none).bind λ(dx,hJ,di,bW)=>fT.l0 Kc goal jK eX v5 v7 dx hJ di bW (aa (cX+1))) else((nu.f (eO.mk dP)).bind λv31=>fT.l1 fuel goal jK eX aU bd ct v31.2.2.2.l v31.1 v31.2.1 v31.2.2.1)
def fT.f (ag:j6) (goal:Int) (jK:dC) (eX:bA):Option (Option g_):=(iH.f eX).bind λv1=>(pg.f eX).bind λv2=>(pI.f [2147483647] (aa (v1.1*v1.2))).bind λv3=>(vy.f).bind λv4=>dm v4 (none) (λwF=>(jk.f ag goal jK eX).bind λv5=>(gi.f v1.1 v1.2 goal).bind λv6=>(xw.f jK v6 eX).bind λv7=>fT.l0 fuel goal jK eX v5 v7 goal v2 v3 wF.l 0)
def fT.R (r:(Option g_)) (u:Value) (G:List Hp):Prop:= ∃(u0:Value) (G0:List Hp),X7 r u0 G0/\u=u0/\G=G0
theorem fT.c (H:fT.f ag goal jK eX=some r) (cJ:tM ag aY lT jG de) (zx:mD jK lT jG oQ) (pF:iC eX jG mh):
 QR 182 [(pp aY),(ii goal)] [de,oQ,mh] [de,oQ,mh] F (fT.R r):=by
 unfold fT.f at H;refine aD Tryz.func182 J J (λW=>rc T 6 ?_);obtain⟨Bp,H7,s7,kU⟩:=(λx=>x) cJ;refine bQ 0 (congrArg some kU) (fz J (rc T 4 (lf T 3 J (k [1] J uc H (iH.c · pF) (λv1 H=>ro T 13 (lf T 3 J (k [1] J B6 H (pg.c · pF) (λv2 H=>aX (cU (k:=(Fl.int .i32)) T [2147483647] J J J J J J J J J (λa8 H8 s8=>ro T 3 (kr pI.R [] [] J ac4 H (pI.c · (oO s8 5) s8.bY) (λv3 H=>?_))))))))))));rintro _ _ ⟨a9,n9,H9,s9,rfl,rfl⟩;refine fz J (ro T 1 (nc T J (λfJ=>ro T 5 (kr vy.R [] [] J Tk H (vy.c ·) (λv4 H=>?_)))));rintro _ _ ⟨_,_,O5,rfl,rfl⟩;rcases v4 with _ |wF
 ·replace H:=eV J H
  cases H
 replace H:=eW J H;obtain⟨jF,a12,n12,dz,dJ,rfl,rfl⟩:=O5;refine ro T 7 ?_;obtain⟨v5,V6,H⟩:=f_ H;refine aX (Fq (As:=[(cl aY 233 [(pp lT),(pp jG),Bp,(uu ag.count)]),H7,oQ,mh]) (jk.R v5) [(cl aY 233 [(pp lT),(pp jG),Bp,(uu ag.count)]),H7,oQ,mh] [3,3,0,0] J J J J ac5 J J (Ja (A:=[de,oQ,mh]) (A2:=[de,oQ,mh]) (by simp only[kU,List.flatten_cons,List.flatten_append,List.flatten_nil,List.append_nil,List.append_assoc]) (by simp only[kU,List.flatten_cons,List.flatten_append,List.flatten_nil,List.append_nil,List.append_assoc]) (jk.c V6 cJ zx pF)) ?_)
 rintro _ _ ⟨dF,eI,dn,rfl,rfl⟩;refine fz J (ro T 2 (ke [0,1,5,6,7,8,9] [0,1,1,1,1,1,1,1,1,1] J J (rx T 3 (fz J (rg [] [0,0,0,0,0,0,0,0,0,0] mix (bP bO) (λhg pf=>ha T 8 [0,1,2] sz hg pf J (av 3 sz hg pf J (aw T J J J J (aH (j:=6) J J)) (ha T 3 [4,5,6,10] sz hg pf J (ao 7 (kh [] J qA H (gi.c ·) (λv6 H=>an sz (ao 8 (kR xw.R [8,8] [8,8] J ac6 H (xw.c · zx pF) (λv7 H=>?_))))))))))))));rintro _ _ ⟨iE,n14,fI,gh,rfl,rfl⟩;refine fz J (an (so [0,0,0,0,0,0,0,0,1,1]) (ha T 0 [9] (so [0,0,0,0,0,0,0,0,1,1]) hg pf J (ae (rx T 2 (lq [0,7,8,9,52,53] [0,5,5,6,6,4,4] (λ(⟨Kc,aU,bd,ct,dP,cX,a17,n17,ez,iQ,n18,e_⟩:Nat×Int×Int×List Int×List dI×Int×Option Addr×Nat×Hp×Option Addr×Nat×Hp)=>(fT.l0 Kc goal jK eX v5 v7 aU bd ct dP cX=some r/\aj (Fl.int .i32) 21 ct a17 n17 ez/\aj fB 359 dP iQ n18 e_,[(54,(ii cX))],[(cl fJ 235 [(ii aU),(ii bd),(ll a17 ct n17)]),ez,(cl jF 357 [(ll iQ dP n18)]),e_])) J J (fuel,goal,v2,v3,wF.l,0,a9,n9,H9,a12,n12,dz) [0,5,5,6,6,4,4,1,0,0,0] ⟨H,s9,dJ⟩ J J ?_)))));rintro Kc ⟨aU,bd,ct,dP,cX,a17,n17,ez,iQ,n18,e_⟩ ⟨Z9,fw,fk⟩;rw[fT.l0] at Z9;refine rc T 6 (cd J Z9 (λZ9=>?_) (λZ9=>?_))
 ·refine rc T 2 (mq Z9 [0,7,8,9,52,53,54] [0,0,0,0,0,0,0] (λz23 (⟨dx,hJ,di,bW,mj,n19,kJ,a20,n20,oa⟩:Int×Int×List Int×List dI×Option Addr×Nat×Hp×Option Addr×Nat×Hp)=>((dx,hJ,di,bW)=z23/\aj (Fl.int .i32) 21 di mj n19 kJ/\aj fB 359 bW a20 n20 oa,[],[(cl fJ 235 [(ii dx),(ii hJ),(ll mj di n19)]),kJ,(cl jF 357 [(ll a20 bW n20)]),oa])) J J (λz23 bc _=>?_) ?_)
  ·refine rc T 3 ?_;obtain⟨gU,bc⟩:=az bc;obtain⟨CT,Vw,w8⟩:=gh.r.addr gU.1 gU.2;refine ix T J w8 gU (le T 0 (oO gh 6) w8 gU J J (ro T 7 (br J (pV (k:=(rd v7 cX)) T (Ky.int .i64 u3) (λx:Int=>Value.int .i64 x) J J J J J (oB dn (j:=5) J)) (ro T 7 (mq bc [0,7,8,9,11,12,52,53,54] [0,0,0,0,0,4,4,0,0] (λz28 (⟨qn,iz,jT,jC,a22,n22,mC⟩:Int×Int×List Int×Bool×Option Addr×Nat×Hp)=>((qn,iz,jT,jC)=z28/\aj (Fl.int .i32) 21 jT a22 n22 mC,[(70,(bb jC))],[(cl fJ 235 [(ii qn),(ii iz),(ll a22 jT n22)]),mC])) J J (λz28 ng _=>?_) ?_)))))
   ·refine rc T 3 (ab 65 J ng (λng=>?_) (λng=>?_))
    ·refine ro T 3 (kr (sZ.R fJ) [] [7,7] J Tl ng (sZ.c (ag:=(g_.mk aU bd ct)) · fw) (λrV ng=>?_));rintro _ _ ⟨a23,n23,jD,gS,rfl,rfl⟩;refine fz J (ro T 3 (am (_,_,_,_,_,_,_) [0,0,0,0,0,2,2,0,0,0,0] ⟨oi ng,gS⟩ J J))
    refine ro T 7 (am (_,_,_,_,_,_,_) [0,0,0,0,0,4,4,0,0,0,0] ⟨oi ng,fw⟩ J J)
   rintro _ ⟨qn,iz,jT,jC,a22,n22,mC⟩ ⟨rfl,iM⟩ bc;refine cb J bc (λbc=>?_) (λbc=>?_)
   ·refine rc T 4 (kr (ny.R jF) [] [5,5] J JF bc (ny.c (h:=(eO.mk dP)) · fk) (λv30 bc=>?_));rintro _ _ ⟨a24,n24,oc,lj,rfl,rfl⟩;refine fz J (ro T 3 (am (_,_,_,_,_,_,_,_,_,_) [0,0,0,0,0,0,0,0,0,0,0] ⟨oi bc,iM,lj⟩ J J))
   refine rc T 3 (am (_,_,_,_,_,_,_,_,_,_) [0,0,0,0,0,2,2,2,2,0,0] ⟨oi bc,iM,fk⟩ J J)
  rintro _ ⟨dx,hJ,di,bW,mj,n19,kJ,a20,n20,oa⟩ ⟨rfl,gR,l9⟩ Z9;refine rc T 5 (ar (_,_,_,_,_,_,_,_,_,_,_) [0,0,0,0,0,0,0,0,0,0,0] ⟨Z9,gR,l9⟩ J J)
 refine rc T 9 (kr (nu.R jF) [] [9,9] J JG Z9 (nu.c (h:=(eO.mk dP)) · fk) (λv31 Z9=>?_));rintro _ _ ⟨a25,n25,gL,iW,rfl,rfl⟩;refine fz J (ro T 10 (lq [0,7,8] [0,0,0,0,0] (λ(⟨xp,fm,gk,dW,iO,eH,iP,hU,a28,n28,uM,yy,n29,rh⟩:Nat×Int×Int×List Int×List dI×Int×Int×Bool×Option Addr×Nat×Hp×Option Addr×Nat×Hp)=>(fT.l1 xp goal jK eX fm gk dW iO eH iP hU=some r/\aj (Fl.int .i32) 21 dW a28 n28 uM/\aj fB 359 iO yy n29 rh,[(14,(ii eH)),(15,(ii iP)),(16,(bb hU))],[(cl fJ 235 [(ii fm),(ii gk),(ll a28 dW n28)]),uM,(cl jF 357 [(ll yy iO n29)]),rh])) J J (fuel,aU,bd,ct,v31.2.2.2.l,v31.1,v31.2.1,v31.2.2.1,a17,n17,ez,a25,n25,gL) [0,0,0,0,0,2,2,2,2] ⟨Z9,fw,iW⟩ J J ?_));rintro xp ⟨fm,gk,dW,iO,eH,iP,hU,a28,n28,uM,yy,n29,rh⟩ ⟨cY,j7,qO⟩;rw[fT.l1] at cY;refine rc T 6 (cb J cY (λcY=>?_) (λcY=>?_))
 ·refine rc T 2 (mq cY [0,7,8] [0,0,0,0,0] (λz51 (⟨HW,HX,nY,mZ,yz,n30,pL,a31,n31,Bv⟩:Int×Int×List Int×List dI×Option Addr×Nat×Hp×Option Addr×Nat×Hp)=>((HW,HX,nY,mZ)=z51/\aj (Fl.int .i32) 21 nY yz n30 pL/\aj fB 359 mZ a31 n31 Bv,[],[(cl fJ 235 [(ii HW),(ii HX),(ll yz nY n30)]),pL,(cl jF 357 [(ll a31 mZ n31)]),Bv])) J J (λz51 sj _=>?_) ?_)
  ·refine rc T 8 (lf T 5 J (ro T 1 ?_));obtain⟨Ad,sj⟩:=az sj;obtain⟨q32,o32,Rv⟩:=j7.r.addr Ad.1 Ad.2;refine ix T J Rv Ad (le T 0 (oO j7 6) Rv Ad J J (ro T 4 (cd J sj (λsj=>?_) (λsj=>?_))))
   ·refine rc T 4 (am (_,_,_,_,_,_,_,_,_,_) [0,0,0,0,0,0,0,0,0] ⟨oi sj,j7,qO⟩ J J)
   refine rc T 7 (lf T 1 J (ro T 1 (kr gP.R [3,3] [3,3] J ac7 sj (gP.c · zx pF) (λrX sj=>?_))));rintro _ _ ⟨a33,n33,Iu,wc,rfl,rfl⟩;refine fz J (ro T 5 (lq [0,7,8,14,104,105] [0,0,0,5,5,4] (λ(⟨GJ,Dk,Dl,Bs,zK,ra,zY,n36,zR,a37,n37,EX⟩:Nat×Int×Int×List Int×List dI×Int×Option Addr×Nat×Hp×Option Addr×Nat×Hp)=>(fT.l2 GJ goal eH rX Dk Dl Bs zK ra=some z51/\aj (Fl.int .i32) 21 Bs zY n36 zR/\aj fB 359 zK a37 n37 EX,[(106,(ii ra))],[(cl fJ 235 [(ii Dk),(ii Dl),(ll zY Bs n36)]),zR,(cl jF 357 [(ll a37 zK n37)]),EX])) J J (fuel,fm,gk,dW,iO,0,a28,n28,uM,yy,n29,rh) [0,0,0,5,5,4,0,0,0,0] ⟨sj,j7,qO⟩ J J ?_));rintro GJ ⟨Dk,Dl,Bs,zK,ra,zY,n36,zR,a37,n37,EX⟩ ⟨pO,C0,C1⟩;rw[fT.l2] at pO;refine rc T 6 (cd J pO (λpO=>?_) (λpO=>?_))
   ·refine rc T 6 ?_;obtain⟨I3,pO⟩:=az pO;obtain⟨q38,Vx,Rz⟩:=wc.r.addr I3.1 I3.2;refine ix T J Rz I3 (br J (fQ T (cs:=[(ii (rd rX ra).To),(ii (rd rX ra).kI)]) J J J J J J (gX (k:=pr) (oO wc 5) Rz I3 J)) (nc T J (λb39=>sg T 10 J (ro T 6 (lf T 10 J (ro T 2 (lf T 10 J (ro T 1 (kr (sZ.R fJ) [] [6,6] J Tl pO (sZ.c (ag:=(g_.mk Dk Dl Bs)) · C0) (λv64 pO=>?_))))))))));rintro _ _ ⟨a40,n40,Lx,Ey,rfl,rfl⟩;refine fz J (ro T 2 (cb J pO (λpO=>?_) (λpO=>?_)))
    ·refine rc T 4 (lf T 8 J (ro T 2 (lf T 8 J (kr (ny.R jF) [] [6,6] J JF pO (ny.c (h:=(eO.mk zK)) · C1) (λXz pO=>?_)))));rintro _ _ ⟨a41,n41,EY,zv,rfl,rfl⟩;refine fz J (ro T 1 (ke [0,7,8,14,104,105,106] [0,0,0,0,0,0,1,1,1,1] J J (rx T 7 (ar (_,_,_,_,_,_,_,_,_,_,_) [0,0,0,0,0,0,0,0,0,0] ⟨pO,Ey,zv⟩ J J))))
    refine rc T 8 (ar (_,_,_,_,_,_,_,_,_,_,_) [0,0,0,0,0,0,3,3,0,0] ⟨pO,Ey,C1⟩ J J)
   refine rc T 6 (am (_,_,_,_,_,_,_,_,_,_) [0,0,0,0,0,1,1,1,1] ⟨oi pO,C0,C1⟩ J J)
  rintro _ ⟨HW,HX,nY,mZ,yz,n30,pL,a31,n31,Bv⟩ ⟨rfl,nM,zu⟩ cY;refine rc T 2 (kr (nu.R jF) [] [7,7] J JG cY (nu.c (h:=(eO.mk mZ)) · zu) (λv66 cY=>?_));rintro _ _ ⟨a42,n42,lv,Pe,rfl,rfl⟩;refine fz J (ro T 9 (ar (_,_,_,_,_,_,_,_,_,_,_,_,_) [0,0,0,0,0,0,0,0,0] ⟨cY,nM,Pe⟩ J J))
 refine rc T 12 ?_
 cases cY;refine dp [1,1] J kU (p1 T J [3,3,5,1,1,0] ⟨_,_,⟨fJ,a28,n28,uM,j7,J,J⟩,J,J⟩ J)
def xM.f (ag:j6) (goal:Int) (jK:dC) (eX:bA):Option ((Option g_)×j6×dC):=(jc.f eX goal).bind λv1=>if(v1==0)=true then(some (none,ag,jK)) else((nF.f jK eX).bind λv2=>(dm ag.kept (some true) (λx5=>if(x5.goal !=goal)=true then(some true) else((pg.f eX).bind λv6=>some (x5.bL !=v6)))).bind λx3=>if x3=true then((fT.f ag goal v2.2 eX).bind λv7=>dm v7 (none) (λrf=>(rU.f ag.count 1).bind λv8=>some ((some rf),(j6.mk (some rf) v8),v2.2))) else(dm ag.kept (some (none,ag,v2.2)) (λx9=>some ((some x9),ag,v2.2))))
def xM.R (nk:Nat) (Oj:Nat) (Ol:Nat) (aaz:Nat) (afw:Nat) (r:((Option g_)×j6×dC)) (u:Value) (G:List Hp):Prop:= ∃(u0:Value) (H1:Hp) (H2:Hp),X' r.1 r.2.1 nk Oj Ol u0 H1/\mD r.2.2 aaz afw H2/\u=u0/\G=[H1,H2]
theorem xM.c (H:xM.f ag goal jK eX=some r) (cJ:tM ag aY lT jG de) (zx:mD jK lT jG oQ) (pF:iC eX jG mh):
 QR 143 [(pp aY),(ii goal)] [de,oQ,mh] [mh] F (xM.R aY lT jG lT jG r):=by
 unfold xM.f at H;refine aD Tryz.func143 J J (λW=>rc T 7 ?_);obtain⟨Bp,H7,s7,kU⟩:=(λx=>x) cJ;refine bQ 0 (congrArg some kU) (fz J (rc T 7 (lf T 3 J (ro T 1 (k [1] J vt H (jc.c · pF) (λv1 H=>ro T 4 (cb J H (λH=>?_) (λH=>?_))))))))
 ·refine rc T 7 ?_
  cases H;refine dp [3,3] J kU (p1 T J [3,0,0,0] ⟨_,de,oQ,⟨J,cJ⟩,zx,J,J⟩ J)
 refine rc T 7 (lf T 3 J (kr (nF.R lT jG) [1] [0,0] J acN H (nF.c · zx pF) (λv2 H=>?_)));rintro _ _ ⟨H8,s8,rfl,rfl⟩;refine fz J (ro T 3 (mq H [0,1] [0,0,0,0,0] (λz4 (x3:Bool)=>(x3=z4,[(51,(bb x3))],[])) J J (λz4 Z4 _=>?_) ?_))
 ·rcases q5:ag.kept with _ |x5
  ·replace Z4:=eV q5 Z4;rw[q5] at s7;obtain⟨rfl,rfl⟩:=s7;refine du mix ay (au T J (au T J (au T J (aO J J J (aw T J J J J (aH (j:=1) J J)) ?_))))
   iterate 27 refine au T J ?_
   refine cZ (rx T 1 (am _ [0,0,0,0,0] (oi Z4) J J))
  replace Z4:=eW q5 Z4;rw[q5] at s7;obtain⟨fJ,dt,n11,cA,dh,rfl,M1⟩:=s7;refine bQ 2 (congrArg some M1) (fz J (du mix ay (au T J (au T J (au T J (aO J J J (aw T J J J J (aH (j:=1) J J)) ?_))))))
  iterate 5 refine au T J ?_
  refine aO J J J (aw T J J J J (aH (j:=1) J J)) (au T J (au T J (aO J J J (aw T J J J J (aH (j:=4) J J)) ?_)))
  iterate 4 refine au T J ?_
  refine qb 37 J Z4 (λZ4=>?_) (λZ4=>?_)
  ·iterate 14 refine au T J ?_
   refine cZ (rx T 1 (dp [4,4] J M1 (am _ [0,0,2,0,0] (oi Z4) J J)))
  refine au T J (au T J (au T J (aO J J J (aw T J J J J (aH (j:=1) J J)) (au T J (au T J (aO J J J (aw T J J J J (aH (j:=4) J J)) (au T J (au T J (au T J (aO J J J (aw T J J J J (aH (j:=1) J J)) ?_))))))))));obtain⟨v6,V7,Z4⟩:=f_ Z4;refine wS [3] J J J J J J B6 J (pg.c V7 pF) (au T J (au T J (cZ (rx T 1 (dp [4,4] J M1 (am _ [0,0,2,0,0] (oi Z4) J J))))))
 rintro _ x3 rfl H;refine cb J H (λH=>?_) (λH=>?_)
 ·refine rc T 5 ?_;obtain⟨v7,V9,H⟩:=f_ H;refine aX (Fq (As:=[(cl aY 233 [(pp lT),(pp jG),Bp,(uu ag.count)]),H7,H8,mh]) (fT.R v7) [(cl aY 233 [(pp lT),(pp jG),Bp,(uu ag.count)]),H7,H8,mh] [1,1,1,1] J J J J acO J J (Ja (A:=[de,H8,mh]) (A2:=[de,H8,mh]) (by simp only[kU,List.flatten_cons,List.flatten_append,List.flatten_nil,List.append_nil,List.append_assoc]) (by simp only[kU,List.flatten_cons,List.flatten_append,List.flatten_nil,List.append_nil,List.append_assoc]) (fT.c V9 cJ s8 pF)) ?_)
  rintro _ _ ⟨_,_,Lz,rfl,rfl⟩;rcases v7 with _ |rf
  ·replace H:=eV J H
   cases H
  replace H:=eW J H;obtain⟨kN,dF,n13,eI,dn,rfl,rfl⟩:=Lz;refine ro T 2 (sg T 3 J (ro T 7 (lf T 3 J (k [] J JA H (rU.c ·) (λv8 H=>ro T 2 (sg T 3 J (ro T 7 (lf T 3 J (ro T 4 ?_)))))))))
  cases H;refine gn [1,1] J (gn [1,4] J (p1 T J [4,2,2,0] ⟨_,(List.flatten [(cl aY 233 [(pp lT),(pp jG),(pp kN),(uu v8)]),(List.flatten [(cl kN 235 [(ii rf.goal),(ii rf.bL),(ll dF rf.aR n13)]),eI])]),H8,⟨J,kN,dF,n13,eI,dn,J,J⟩,s8,J,J⟩ J))
 refine rc T 3 ?_;rcases vV:ag.kept with _ |x9
 ·replace H:=eV vV H;rw[vV] at s7;obtain⟨rfl,rfl⟩:=s7;refine rc T 4 (lf T 1 J (ro T 4 ?_))
  cases H;refine dp [1,1] J kU (p1 T J [3,1,1,0] ⟨_,de,H8,⟨J,cJ⟩,s8,J,J⟩ J)
 replace H:=eW vV H;rw[vV] at s7;obtain⟨qu,a17,n17,ez,fw,rfl,MZ⟩:=s7;refine bQ 2 (congrArg some MZ) (fz J (rc T 4 (lf T 1 J (ro T 4 ?_))))
 cases H;refine dp [4,4] J MZ (dp [1,3] J kU (p1 T J [3,1,1,0] ⟨_,de,H8,⟨vV,qu,a17,n17,ez,fw,J,(by rw[kU,MZ])⟩,s8,J,J⟩ J))
def Hk.f (ag:g_):Option Int:=some ag.bL
theorem Hk.c (H:Hk.f ag=some r) (wk:aj (Fl.int .i32) 21 ag.aR wP xx zT):
 QU 174 [(pp aY)] [(cl aY 235 [(ii ag.goal),(ii ag.bL),(ll wP ag.aR xx)]),zT] F (ii r):=by
 unfold Hk.f at H;refine aD Tryz.func174 J J (λW=>rc T 12 (eN J (rc T 7 (lf T 0 J (ro T 4 ?_)))))
 cases H;exact p0 T J [0,0,0] J
def CX.f (ag:g_) (cell:Int):Option Int:=(if cell<0 then(some true) else(if cell≥(List.length ag.aR:Int) then(some true) else(if(0<=cell/\cell<(List.length ag.aR:Int)) then(some ((rd ag.aR cell)==2147483647)) else none))).bind λx1=>if x1=true then(some 1099511627776) else(if(0<=cell/\cell<(List.length ag.aR:Int)) then(some (aa (rd ag.aR cell))) else none)
theorem CX.c (H:CX.f ag cell=some r) (wk:aj (Fl.int .i32) 21 ag.aR wP xx zT):
 QU 177 [(pp aY),(ii cell)] [(cl aY 235 [(ii ag.goal),(ii ag.bL),(ll wP ag.aR xx)]),zT] F (ii r):=by
 unfold CX.f at H;refine aD Tryz.func177 J J (λW=>rc T 6 (mq H [0,1] [2,0,0] (λz2 (x1:Bool)=>(x1=z2,[(29,(bb x1))],[])) J J (λz2 Z1 _=>?_) ?_))
 ·refine rc T 8 (ad 11 J Z1 (λZ1=>?_) (λZ1=>?_))
  ·refine ro T 20 (am _ [2,0,0] (oi Z1) J J)
  refine ro T 4 (lf T 0 J (ro T 4 (ad 20 J Z1 (λZ1=>?_) (λZ1=>?_))))
  ·refine ro T 11 (am _ [2,0,0] (oi Z1) J J)
  refine ro T 3 (lf T 0 J (ro T 1 ?_));obtain⟨c4,Z1⟩:=az Z1;obtain⟨q3,o3,e3⟩:=wk.r.addr c4.1 c4.2;refine ix T J e3 c4 (le T 0 (oO wk 1) e3 c4 J J (ro T 4 (am _ [2,0,0] (oi Z1) J J)))
 rintro _ x1 rfl H;refine cb J H (λH=>?_) (λH=>?_)
 ·refine rc T 7 ?_
  cases H;exact p0 T J [1,1,0] J
 refine rc T 7 (lf T 1 J (ro T 1 ?_));obtain⟨c6,H⟩:=az H;obtain⟨q4,o4,e4⟩:=wk.r.addr c6.1 c6.2;refine ix T J e4 c6 (le T 0 (oO wk 2) e4 c6 J J (ro T 5 ?_))
 cases H;exact p0 T J [1,1,0] J
def Hm.f (ag:g_):Option Int:=some ag.goal
theorem Hm.c (H:Hm.f ag=some r) (wk:aj (Fl.int .i32) 21 ag.aR wP xx zT):
 QU 179 [(pp aY)] [(cl aY 235 [(ii ag.goal),(ii ag.bL),(ll wP ag.aR xx)]),zT] F (ii r):=by
 unfold Hm.f at H;refine aD Tryz.func179 J J (λW=>rc T 12 (eN J (rc T 7 (lf T 0 J (ro T 4 ?_)))))
 cases H;exact p0 T J [0,0,0] J
end
noncomputable section
def AH.f (g:bA) (bG:Int):Option (List a_):=(iH.f g).bind λv1=>some []
def AH.R (r:(List a_)) (u:Value) (G:List Hp):Prop:= ∃(a0:Option Addr) (n0:Nat) (H0:Hp),aj cE 285 r a0 n0 H0/\u=(ll a0 r n0)/\G=[H0]
theorem AH.c (H:AH.f g bG=some r) (fC:iC g fa fY):
 QR 142 [(pp fa),(.pointer none),(ii bG)] [fY] [fY] F (AH.R r):=by
 unfold AH.f at H;refine aD Tryz.func142 J J (λW=>rc T 8 (k [0] J uc H (iH.c · fC) (λv1 H=>ro T 21 (nh J (rc T 7 ?_)))))
 cases H;refine bw (p1 T J [2,0,0] ⟨none,0,[],aj.nil,J,J⟩ J)
def iu.l1:Nat->g_->(Int×Int)->(List Int)->Int->(List dZ)->List a_->Int->Option (List a_)
 |0,_,_,_,_,_,_,_=>none
 |GF+1,ai,v1,v4,x8,v12,ct,dP=>if dP<(List.length v12:Int) then(if(0<=dP/\dP<(List.length v12:Int)) then((CX.f ai ((rd v12 dP).To)).bind λfG=>if(fG !=1099511627776)=true then((qY.f v1.1 v1.2 (rd v4 x8)).bind λnU=>(qm.f v1.1 v1.2 (rd v4 x8) ((rd v12 dP).To)).bind λv20=>if(List.length ct+1<=1099511627776) then(iu.l1 GF ai v1 v4 x8 v12 (ct++[(a_.mk nU v20 (aa ((rd v12 dP).kI+fG)))]) (aa (dP+1))) else none) else(iu.l1 GF ai v1 v4 x8 v12 ct (aa (dP+1)))) else none) else(some ct)
def iu.l0:Nat->bA->g_->Int->(Int×Int)->(List Int)->List a_->Int->Option (List a_)
 |0,_,_,_,_,_,_,_=>none
 |k9+1,g,ai,bG,v1,v4,x7,x8=>if x8<(List.length v4:Int) then((if(0<=x8/\x8<(List.length v4:Int)) then((ni.f g (rd v4 x8)).bind λv12=>iu.l1 fuel ai v1 v4 x8 v12 x7 0) else none).bind λaN=>iu.l0 k9 g ai bG v1 v4 aN (aa (x8+1))) else((Hm.f ai).bind λv21=>((gi.f v1.1 v1.2 v21).bind λv24=>if(v24==bG)=true then((jc.f g v21).bind λv25=>some (v25 !=255)) else(some false)).bind λbW=>if bW=true then((qY.f v1.1 v1.2 v21).bind λv26=>if(List.length x7+1<=1099511627776) then((mV.f (x7++[(a_.mk v26 4 0)])).bind λPM=>some PM) else none) else((mV.f x7).bind λv28=>some v28))
def iu.f (g:bA) (ai:g_) (bG:Int):Option (List a_):=(iH.f g).bind λv1=>(Hk.f ai).bind λv2=>(pg.f g).bind λv3=>if(v2 !=v3)=true then(some []) else((jY.f g bG).bind λv4=>iu.l0 fuel g ai bG v1 v4 [] 0)
def iu.R (r:(List a_)) (u:Value) (G:List Hp):Prop:= ∃(a0:Option Addr) (n0:Nat) (H0:Hp),aj cE 285 r a0 n0 H0/\u=(ll a0 r n0)/\G=[H0]
theorem iu.c (H:iu.f g ai bG=some r) (fC:iC g fa fY) (Pj:aj (Fl.int .i32) 21 ai.aR Qc Vk P5):
 QR 142 [(pp fa),(pp tR),(ii bG)] [fY,(cl tR 235 [(ii ai.goal),(ii ai.bL),(ll Qc ai.aR Vk)]),P5] [fY,(cl tR 235 [(ii ai.goal),(ii ai.bL),(ll Qc ai.aR Vk)]),P5] F (iu.R r):=by
 unfold iu.f at H;refine aD Tryz.func142 J J (λW=>rc T 8 (k [0] J uc H (iH.c · fC) (λv1 H=>ro T 14 (k [1,1] J acH H (Hk.c · Pj) (λv2 H=>ro T 1 (k [0] J B6 H (pg.c · fC) (λv3 H=>ro T 4 (cb J H (λH=>?_) (λH=>?_)))))))))
 ·refine rc T 7 ?_
  cases H;refine bw (p1 T J [4,0,0,0,0] ⟨none,0,[],aj.nil,J,J⟩ J)
 refine rc T 12 (kr jY.R [0] [0] J JD H (jY.c · fC) (λv4 H=>?_));rintro _ _ ⟨a5,n5,H5,s5,rfl,rfl⟩;refine fz J (ro T 5 (bw (lq [0,1,2,7,8,32,33] [2,3,0,0,0] (λ(⟨k9,x7,x8,a7,n7,H7⟩:Nat×List a_×Int×Option Addr×Nat×Hp)=>(iu.l0 k9 g ai bG v1 v4 x7 x8=some r/\aj cE 285 x7 a7 n7 H7,[(9,(ll a7 x7 n7)),(34,(ii x8))],[H7])) J J (fuel,[],0,none,0,[]) [2,3,0,0,0,0] ⟨H,aj.nil⟩ J J ?_)));rintro k9 ⟨x7,x8,a7,n7,H7⟩ ⟨Z6,s7⟩;rw[iu.l0] at Z6;refine rc T 6 (cd J Z6 (λZ6=>?_) (λZ6=>?_))
 ·refine rc T 2 (mq Z6 [0,1,2,7,8,32,33,34] [0,0,0,0,0] (λlO (⟨aN,a8,n8,H8⟩:List a_×Option Addr×Nat×Hp)=>(aN=lO/\aj cE 285 aN a8 n8 H8,[(9,(ll a8 aN n8))],[H8])) J J (λlO Z8 _=>?_) ?_)
  ·refine rc T 3 ?_;obtain⟨c9,Z8⟩:=az Z8;obtain⟨q9,o9,e9⟩:=s5.r.addr c9.1 c9.2;refine ix T J e9 c9 (le T 0 (oO s5 4) e9 c9 J J (ro T 7 (kr ni.R [1] [1] J acI Z8 (ni.c · fC) (λv12 Z8=>?_))));rintro _ _ ⟨cw,n10,bX,bT,rfl,rfl⟩;refine fz J (ro T 5 (lq [0,1,2,7,8,11,32,33,34,40,41] [0,5,0,0,0,1] (λ(⟨GF,ct,dP,a12,n12,dz⟩:Nat×List a_×Int×Option Addr×Nat×Hp)=>(iu.l1 GF ai v1 v4 x8 v12 ct dP=some lO/\aj cE 285 ct a12 n12 dz,[(9,(ll a12 ct n12)),(42,(ii dP))],[dz])) J J (fuel,x7,0,a7,n7,H7) [0,5,0,0,0,1,0] ⟨Z8,s7⟩ J J ?_));rintro GF ⟨ct,dP,a12,n12,dz⟩ ⟨bc,dJ⟩;rw[iu.l1] at bc;refine rc T 6 (cd J bc (λbc=>?_) (λbc=>?_))
   ·refine rc T 6 ?_;obtain⟨i_,bc⟩:=az bc;obtain⟨VX,Vu,w6⟩:=bT.r.addr i_.1 i_.2;refine ix T J w6 i_ (br J (fQ T (cs:=[(ii (rd v12 dP).To),(ii (rd v12 dP).kI)]) J J J J J J (gX (k:=pr) (oO bT 5) w6 i_ J)) (nc T J (λI0=>sg T 7 J (ro T 6 (lf T 7 J (k [2,2] J acJ bc (CX.c · Pj) (λfG bc=>ro T 9 (cb J bc (λbc=>?_) (λbc=>?_)))))))))
    ·refine ks [0,1,2,7,8,9,11,13,14,32,33,34,40,41,42] J (fz J (rg [17] [0,0,0,0,0,0,0,0] mix (bP bO) (λhg pf=>ha T 11 [0,1,2,3,5,6,7,8] sz hg pf J (av 9 sz hg pf J (aw T J J J J (aH (j:=7) J J)) (ha T 9 [11] sz hg pf J (av 12 sz hg pf J (aw T J J J J (aH (j:=7) J J)) (ha T 6 [13,14] sz hg pf J (ao 4 (kh [] J F2 bc (qY.c ·) (λnU bc=>an sz (ao 10 (kh [] J acK bc (qm.c ·) (λv20 bc=>an sz (ha T 3 [15] sz hg pf J (ao 16 (cU (k:=cE) T [(a_.mk nU v20 (aa ((rd v12 dP).kI+fG)))] J J J J J J J J J (λjE dE dN=>an (so [0,0,0,0,0,0,0,0]) (ao 17 ?_))))))))))))))))));obtain⟨lD,bc⟩:=az bc;refine d_ (k:=cE) (xs:=ct) T (g:=6) J J J J J J J J J J dJ (oO dN 8) lD J (λjV n16 fN fj=>an sl (hb T 18 sl hg pf J (ae (rx T 7 (ar (_,_,_,_,_) [0,0,0,0,0,0,0] ⟨bc,fj⟩ J J)))))
    refine rc T 8 (ar (_,_,_,_,_) [0,0,0,0,0,0,0] ⟨bc,dJ⟩ J J)
   refine rc T 6 (am (_,_,_,_) [0,0,0,0,0,1] ⟨oi bc,dJ⟩ J J)
  rintro _ ⟨aN,a8,n8,H8⟩ ⟨rfl,s8⟩ Z6;refine rc T 5 (ar (_,_,_,_,_) [0,0,0,0,0,0] ⟨Z6,s8⟩ J J)
 refine rc T 9 (k [2,2] J acL Z6 (Hm.c · Pj) (λv21 Z6=>ro T 3 (mq Z6 [7,8,9,15] [0,4,0,0,0] (λz23 (bW:Bool)=>(bW=z23,[(85,(bb bW))],[])) J J (λz23 yx _=>?_) ?_)))
 ·refine rc T 4 (k [] J qA yx (gi.c ·) (λv24 yx=>ro T 3 (ab 80 J yx (λyx=>?_) (λyx=>?_))))
  ·refine ro T 2 (k [1] J vt yx (jc.c · fC) (λv25 yx=>ro T 4 (am _ [0,4,0,0,0] (oi yx) J J)))
  refine ro T 7 (am _ [0,4,0,0,0] (oi yx) J J)
 rintro _ bW rfl Z6;refine cb J Z6 (λZ6=>?_) (λZ6=>?_)
 ·refine rc T 5 (k [] J F2 Z6 (qY.c ·) (λv26 Z6=>ro T 1 (aX (cU (k:=cE) T [(a_.mk v26 4 0)] J J J J J J J J J (λa17 ez fw=>?_)))));obtain⟨c26,Z6⟩:=az Z6;refine aX (d_ (k:=cE) (xs:=x7) T (g:=1) J J J J J J J J J J s7 (oO fw 5) c26 J (λiQ n18 e_ fk=>ro T 6 (kr mV.R [] [] J F4 Z6 (mV.c (l:=(x7++[(a_.mk v26 4 0)])) · (oO fk 1) fk.bY) (λPM Z6=>?_))));rintro _ _ ⟨mj,n19,kJ,gR,rfl,rfl⟩;refine fz J (ro T 4 ?_)
  cases Z6;exact p1 T J [6,2,2,2,0] ⟨mj,n19,kJ,gR,J,J⟩ J
 refine rc T 5 (kr mV.R [] [] J F4 Z6 (mV.c · (oO s7 1) s7.bY) (λv28 Z6=>?_));rintro _ _ ⟨a20,n20,oa,l9,rfl,rfl⟩;refine fz J (ro T 4 ?_)
 cases Z6;exact p1 T J [5,2,2,2,0] ⟨a20,n20,oa,l9,J,J⟩ J
end
noncomputable section
def zh.f (l:fS):Option fS:=some (fS.mk l.k [] ([]:(List ((Int×Int)×Int))) (-1) (-1))
def zh.R (gC:Nat) (r:fS) (u:Value) (G:List Hp):Prop:= ∃(a0:Option Addr) (n0:Nat) (H0:Hp) (a1:Nat) (H1:Hp),aj kt 278 r.ak a0 n0 H0/\cM (Ky.pair T .i64 J J J lM u3) (λx:Int=>Value.int .i64 x) r.fE a1 H1/\u=(.tuple #[])/\G=[(cl gC 238 [(ii r.k),(ll a0 r.ak n0),(.map (some a1)),(ii r.cz),(ii r.dg)]),H0,H1]
theorem zh.c (H:zh.f l=some r) (tf:aj kt 278 l.ak ml mv yu):
 QR 145 [(pp gC)] [(cl gC 238 [(ii l.k),(ll ml l.ak mv),(.map none),(ii l.cz),(ii l.dg)]),yu] [] F (zh.R gC r):=by
 unfold zh.f at H;refine aD Tryz.func145 J J (λW=>rc T 6 (nh J (rc T 5 (aX (u7 T (Ky.pair T .i64 J J J lM u3) (λx:Int=>Value.int .i64 x) J J J trivial (λa3 H3 s3=>ro T 2 (sg T 0 J (ro T 2 (sg T 0 J (ro T 2 (sg T 0 J (ro T 2 (sg T 0 J (ro T 1 (iZ ?_)))))))))))))))
 cases H;refine bw (p1 T J [0,3,2,1] ⟨none,0,[],a3,H3,aj.nil,s3,J,J⟩ J)
def xu.f (ag:Int):Option (Option fS):=if ag<1 then(some none) else((zh.f (fS.mk ag ([]:List bp) [] 0 0)).bind λv1=>some (some v1))
def xu.R (r:(Option fS)) (u:Value) (G:List Hp):Prop:= ∃(u0:Value) (G0:List Hp),X1 r u0 G0/\u=u0/\G=G0
theorem xu.c (H:xu.f ag=some r):
 QR 105 [(ii ag)] [] [] F (xu.R r):=by
 unfold xu.f at H;refine aD Tryz.func105 J J (λW=>rc T 12 (cd J H (λH=>?_) (λH=>?_)))
 ·refine rc T 7 ?_
  cases H;exact p1 T J [0] ⟨_,_,⟨J,J⟩,J,J⟩ J
 refine rc T 6 (nc T J (λb1=>ro T 6 (bw (kr (zh.R b1) [] [1,1] J SZ H (zh.c (l:=(fS.mk ag ([]:List bp) [] 0 0)) · (aj.nil (k:=kt) (E:=278))) (λv1 H=>?_)))));rintro _ _ ⟨a3,n3,H3,a4,H4,s3,s4,rfl,rfl⟩;refine fz J (ro T 9 ?_)
 cases H;exact p1 T J [1,1,1,0] ⟨_,_,⟨b1,a3,n3,H3,a4,H4,s3,s4,J,J⟩,J,J⟩ J
def zi.f (l:fS):Option fS:=some (fS.mk l.k [] ([]:(List ((Int×Int)×Int))) (-1) (-1))
def zi.R (gC:Nat) (r:fS) (u:Value) (G:List Hp):Prop:= ∃(a0:Option Addr) (n0:Nat) (H0:Hp) (a1:Nat) (H1:Hp),aj kt 278 r.ak a0 n0 H0/\cM (Ky.pair T .i64 J J J lM u3) (λx:Int=>Value.int .i64 x) r.fE a1 H1/\u=(.tuple #[])/\G=[(cl gC 238 [(ii r.k),(ll a0 r.ak n0),(.map (some a1)),(ii r.cz),(ii r.dg)]),H0,H1]
theorem zi.c (H:zi.f l=some r) (tf:aj kt 278 l.ak ml mv yu) (wj:cM (Ky.pair T .i64 J J J lM u3) (λx:Int=>Value.int .i64 x) l.fE oV uQ):
 QR 145 [(pp gC)] [(cl gC 238 [(ii l.k),(ll ml l.ak mv),(.map (some oV)),(ii l.cz),(ii l.dg)]),yu,uQ] [] F (zi.R gC r):=by
 unfold zi.f at H;refine aD Tryz.func145 J J (λW=>rc T 6 (nh J (rc T 5 (aX (u7 T (Ky.pair T .i64 J J J lM u3) (λx:Int=>Value.int .i64 x) J J J trivial (λa4 H4 s4=>ro T 2 (sg T 0 J (ro T 2 (sg T 0 J (ro T 2 (sg T 0 J (ro T 2 (sg T 0 J (ro T 1 (iZ ?_)))))))))))))))
 cases H;refine bw (p1 T J [0,4,3,2] ⟨none,0,[],a4,H4,aj.nil,s4,J,J⟩ J)
def sM.f (l:fS) (ai:Int):Option fS:=if(0<=ai/\ai<(List.length l.ak:Int)) then((if((rd l.ak ai).cF==(-1))=true then(some (l.ak,(rd l.ak ai).aZ)) else(if(0<=(rd l.ak ai).cF/\(rd l.ak ai).cF<(List.length l.ak:Int)) then(some ((List.set l.ak (Int.toNat ((rd l.ak ai).cF)) (bp.mk ((rd l.ak ((rd l.ak ai).cF)).key) ((rd l.ak ((rd l.ak ai).cF)).cF) ((rd l.ak ai).aZ))),l.cz)) else none)).bind λ(x1,x2)=>if((rd l.ak ai).aZ==(-1))=true then(some (fS.mk l.k x1 l.fE x2 ((rd l.ak ai).cF))) else(if(0<=(rd l.ak ai).aZ/\(rd l.ak ai).aZ<(List.length x1:Int)) then(some (fS.mk l.k (List.set x1 (Int.toNat ((rd l.ak ai).aZ)) (bp.mk ((rd x1 ((rd l.ak ai).aZ)).key) ((rd l.ak ai).cF) ((rd x1 ((rd l.ak ai).aZ)).aZ))) l.fE x2 l.dg)) else none)) else none
def sM.R (gC:Nat) (r:fS) (u:Value) (G:List Hp):Prop:= ∃(a0:Option Addr) (n0:Nat) (H0:Hp) (a1:Nat) (H1:Hp),aj kt 278 r.ak a0 n0 H0/\cM (Ky.pair T .i64 J J J lM u3) (λx:Int=>Value.int .i64 x) r.fE a1 H1/\u=(.tuple #[])/\G=[(cl gC 238 [(ii r.k),(ll a0 r.ak n0),(.map (some a1)),(ii r.cz),(ii r.dg)]),H0,H1]
theorem sM.c (H:sM.f l ai=some r) (tf:aj kt 278 l.ak ml mv yu) (wj:cM (Ky.pair T .i64 J J J lM u3) (λx:Int=>Value.int .i64 x) l.fE oV uQ):
 QR 224 [(pp gC),(ii ai)] [(cl gC 238 [(ii l.k),(ll ml l.ak mv),(.map (some oV)),(ii l.cz),(ii l.dg)]),yu,uQ] [] F (sM.R gC r):=by
 unfold sM.f at H;refine aD Tryz.func224 J J (λW=>rc T 5 (lf T 0 J (ro T 1 ?_)));obtain⟨c1,H⟩:=az H;obtain⟨q4,o4,e4⟩:=tf.r.addr c1.1 c1.2;refine ix T J e4 c1 (br J (fQ T (cs:=[(ii (rd l.ak ai).key.1),(ii (rd l.ak ai).key.2),(ii (rd l.ak ai).cF),(ii (rd l.ak ai).aZ)]) J J J J J J (gX (k:=kt) (oO tf 1) e4 c1 J)) (nc T J (λb5=>sg T 4 J (ro T 2 (mq H [0,4] [3,2,2] (λz3 (⟨x1,x2,a6,n6,H6⟩:List bp×Int×Option Addr×Nat×Hp)=>((x1,x2)=z3/\aj kt 278 x1 a6 n6 H6,[],[(cl gC 238 [(ii l.k),(ll a6 x1 n6),(.map (some oV)),(ii x2),(ii l.dg)]),H6])) J J (λz3 Z2 _=>?_) ?_)))))
 ·refine rc T 3 (lf T 4 J (ro T 3 (cb J Z2 (λZ2=>?_) (λZ2=>?_))))
  ·refine rc T 3 (lf T 4 J (ro T 2 (sg T 0 J (ro T 2 (am (_,_,_,_,_) [3,2,2,0,0] ⟨oi Z2,tf⟩ J J)))))
  refine ks [0,4] J (fz J (rz [10] mix (bP bO) (λhg pf=>ha T 8 [0,1,2] sz hg pf J (av 3 sz hg pf J (aw T J J J J (aH (j:=0) J J)) (ha T 6 [4] sz hg pf J (av 5 sz hg pf J (aw T J J J J (aH (j:=4) J J)) (ha T 4 [6] sz hg pf J (av 7 sz hg pf J (aw T J J J J (aH (j:=4) J J)) ?_))))))));obtain⟨c4,Z2⟩:=az Z2;refine av 8 sz hg pf J (cO T J J J J J e4 c4.1 c4.2) (ha T 1 [9] sz hg pf J (ao 10 (jX (k:=kt) T 1 3 (bp.mk ((rd l.ak ((rd l.ak ai).cF)).key) ((rd l.ak ((rd l.ak ai).cF)).cF) ((rd l.ak ai).aZ)) J J J J J J tf e4 c4 J J J (λH7 s7=>kg [0,4,20,21,22,24,25,26,27,28,29] [1,1,1,1] [1,1,1,1,0] [(23,(ll ml (List.set l.ak (Int.toNat ((rd l.ak ai).cF)) (bp.mk ((rd l.ak ((rd l.ak ai).cF)).key) ((rd l.ak ((rd l.ak ai).cF)).cF) ((rd l.ak ai).aZ))) mv))] [(cl gC 238 [(ii l.k),(ll ml (List.set l.ak (Int.toNat ((rd l.ak ai).cF)) (bp.mk ((rd l.ak ((rd l.ak ai).cF)).key) ((rd l.ak ((rd l.ak ai).cF)).cF) ((rd l.ak ai).aZ))) mv),(.map (some oV)),(ii l.cz),(ii l.dg)])] J J ⟨(by first |rfl |(simp only[ll,List.length_set];rfl)),trivial⟩ (by first |rfl |(simp only[ll,List.length_set];rfl)) (an sl (ae (rx T 1 ?_)))))))
  exact am (_,_,_,_,_) [2,1,1,1,0] ⟨oi Z2,s7⟩ J J
 rintro _ ⟨x1,x2,a6,n6,H6⟩ ⟨rfl,s6⟩ H;refine rc T 3 (lf T 2 J (ro T 3 (cb J H (λH=>?_) (λH=>?_))))
 ·refine rc T 3 (lf T 2 J (ro T 2 (sg T 3 J (ro T 1 (iZ ?_)))))
  cases H;exact p1 T J [3,3,1,0] ⟨a6,n6,H6,oV,uQ,s6,wj,J,J⟩ J
 refine fz J (rz [10] mix (bP bO) (λhg pf=>ha T 8 [0,1,2] sz hg pf J (av 3 sz hg pf J (aw T J J J J (aH (j:=3) J J)) (ha T 6 [4] sz hg pf J (av 5 sz hg pf J (aw T J J J J (aH (j:=2) J J)) (ha T 4 [6] sz hg pf J (av 7 sz hg pf J (aw T J J J J (aH (j:=2) J J)) ?_)))))));obtain⟨c6,H⟩:=az H;obtain⟨q8,o8,e8⟩:=s6.r.addr c6.1 c6.2;refine av 8 sz hg pf J (cO T J J J J J e8 c6.1 c6.2) (ha T 1 [9] sz hg pf J (ao 10 (jX (k:=kt) T 4 2 (bp.mk ((rd x1 ((rd l.ak ai).aZ)).key) ((rd l.ak ai).cF) ((rd x1 ((rd l.ak ai).aZ)).aZ)) J J J J J J s6 e8 c6 J J J (λH9 s9=>kg [0,4,32,38,39,40,42,43,44,45,46,47] [0,0,0,1] [0,0,0,1,0] [(41,(ll a6 (List.set x1 (Int.toNat ((rd l.ak ai).aZ)) (bp.mk ((rd x1 ((rd l.ak ai).aZ)).key) ((rd l.ak ai).cF) ((rd x1 ((rd l.ak ai).aZ)).aZ))) n6))] [(cl gC 238 [(ii l.k),(ll a6 (List.set x1 (Int.toNat ((rd l.ak ai).aZ)) (bp.mk ((rd x1 ((rd l.ak ai).aZ)).key) ((rd l.ak ai).cF) ((rd x1 ((rd l.ak ai).aZ)).aZ))) n6),(.map (some oV)),(ii x2),(ii l.dg)])] J J ⟨(by first |rfl |(simp only[ll,List.length_set];rfl)),trivial⟩ (by first |rfl |(simp only[ll,List.length_set];rfl)) (an sl (ae (iZ ?_)))))))
 cases H;exact p1 T J [4,3,1,0] ⟨a6,n6,H9,oV,uQ,s9,wj,J,J⟩ J
def xt.f (l:fS) (ai:Int):Option fS:=if(0<=ai/\ai<(List.length l.ak:Int)) then(if(0<=ai/\ai<(List.length (List.set l.ak (Int.toNat ai) (bp.mk ((rd l.ak ai).key) (-1) ((rd l.ak ai).aZ))):Int)) then(if(l.cz==(-1))=true then(some (fS.mk l.k (List.set (List.set l.ak (Int.toNat ai) (bp.mk ((rd l.ak ai).key) (-1) ((rd l.ak ai).aZ))) (Int.toNat ai) (bp.mk ((rd (List.set l.ak (Int.toNat ai) (bp.mk ((rd l.ak ai).key) (-1) ((rd l.ak ai).aZ))) ai).key) ((rd (List.set l.ak (Int.toNat ai) (bp.mk ((rd l.ak ai).key) (-1) ((rd l.ak ai).aZ))) ai).cF) l.cz)) l.fE ai ai)) else(if(0<=l.cz/\l.cz<(List.length (List.set (List.set l.ak (Int.toNat ai) (bp.mk ((rd l.ak ai).key) (-1) ((rd l.ak ai).aZ))) (Int.toNat ai) (bp.mk ((rd (List.set l.ak (Int.toNat ai) (bp.mk ((rd l.ak ai).key) (-1) ((rd l.ak ai).aZ))) ai).key) ((rd (List.set l.ak (Int.toNat ai) (bp.mk ((rd l.ak ai).key) (-1) ((rd l.ak ai).aZ))) ai).cF) l.cz)):Int)) then(some (fS.mk l.k (List.set (List.set (List.set l.ak (Int.toNat ai) (bp.mk ((rd l.ak ai).key) (-1) ((rd l.ak ai).aZ))) (Int.toNat ai) (bp.mk ((rd (List.set l.ak (Int.toNat ai) (bp.mk ((rd l.ak ai).key) (-1) ((rd l.ak ai).aZ))) ai).key) ((rd (List.set l.ak (Int.toNat ai) (bp.mk ((rd l.ak ai).key) (-1) ((rd l.ak ai).aZ))) ai).cF) l.cz)) (Int.toNat l.cz) (bp.mk ((rd (List.set (List.set l.ak (Int.toNat ai) (bp.mk ((rd l.ak ai).key) (-1) ((rd l.ak ai).aZ))) (Int.toNat ai) (bp.mk ((rd (List.set l.ak (Int.toNat ai) (bp.mk ((rd l.ak ai).key) (-1) ((rd l.ak ai).aZ))) ai).key) ((rd (List.set l.ak (Int.toNat ai) (bp.mk ((rd l.ak ai).key) (-1) ((rd l.ak ai).aZ))) ai).cF) l.cz)) l.cz).key) ai ((rd (List.set (List.set l.ak (Int.toNat ai) (bp.mk ((rd l.ak ai).key) (-1) ((rd l.ak ai).aZ))) (Int.toNat ai) (bp.mk ((rd (List.set l.ak (Int.toNat ai) (bp.mk ((rd l.ak ai).key) (-1) ((rd l.ak ai).aZ))) ai).key) ((rd (List.set l.ak (Int.toNat ai) (bp.mk ((rd l.ak ai).key) (-1) ((rd l.ak ai).aZ))) ai).cF) l.cz)) l.cz).aZ))) l.fE ai l.dg)) else none)) else none) else none
def xt.R (gC:Nat) (r:fS) (u:Value) (G:List Hp):Prop:= ∃(a0:Option Addr) (n0:Nat) (H0:Hp) (a1:Nat) (H1:Hp),aj kt 278 r.ak a0 n0 H0/\cM (Ky.pair T .i64 J J J lM u3) (λx:Int=>Value.int .i64 x) r.fE a1 H1/\u=(.tuple #[])/\G=[(cl gC 238 [(ii r.k),(ll a0 r.ak n0),(.map (some a1)),(ii r.cz),(ii r.dg)]),H0,H1]
theorem xt.c (H:xt.f l ai=some r) (tf:aj kt 278 l.ak ml mv yu) (wj:cM (Ky.pair T .i64 J J J lM u3) (λx:Int=>Value.int .i64 x) l.fE oV uQ):
 QR 225 [(pp gC),(ii ai)] [(cl gC 238 [(ii l.k),(ll ml l.ak mv),(.map (some oV)),(ii l.cz),(ii l.dg)]),yu,uQ] [] F (xt.R gC r):=by
 unfold xt.f at H;refine aD Tryz.func225 J J (λW=>rc T 1 (fz J (rz [16,19] mix (bP bO) (λhg pf=>ha T 17 [0,1,2] sz hg pf J (av 3 sz hg pf J (aw T J J J J (aH (j:=0) J J)) (ha T 12 [4,5,6,7] sz hg pf J (av 8 sz hg pf J (aw T J J J J (aH (j:=0) J J)) (ha T 7 [9,10,11,12] sz hg pf J (av 13 sz hg pf J (aw T J J J J (aH (j:=0) J J)) ?_)))))))));obtain⟨c1,H⟩:=az H;obtain⟨q4,o4,e4⟩:=tf.r.addr c1.1 c1.2;refine av 14 sz hg pf J (cO T J J J J J e4 c1.1 c1.2) (ha T 4 [15] sz hg pf J (ao 16 (jX (k:=kt) T 1 2 (bp.mk ((rd l.ak ai).key) (-1) ((rd l.ak ai).aZ)) J J J J J J tf e4 c1 J J J (λH5 s5=>kg [0,1,4,5,6,8,9,10,11,13,14,15,16,17,18,19] [1,1,1] [1,1,1,0] [(7,(ll ml (List.set l.ak (Int.toNat ai) (bp.mk ((rd l.ak ai).key) (-1) ((rd l.ak ai).aZ))) mv)),(12,(ll ml (List.set l.ak (Int.toNat ai) (bp.mk ((rd l.ak ai).key) (-1) ((rd l.ak ai).aZ))) mv))] [(cl gC 238 [(ii l.k),(ll ml (List.set l.ak (Int.toNat ai) (bp.mk ((rd l.ak ai).key) (-1) ((rd l.ak ai).aZ))) mv),(.map (some oV)),(ii l.cz),(ii l.dg)])] J J ⟨(by first |rfl |(simp only[ll,List.length_set];rfl)),(by first |rfl |(simp only[ll,List.length_set];rfl)),trivial⟩ (by first |rfl |(simp only[ll,List.length_set];rfl)) (an sl (ao 17 ?_))))))
 obtain⟨c2,H⟩:=az H;refine lB J (cO T J J J J J e4 c2.1 c2.2) (an sl (hb T 18 sl hg pf J (ao 19 (jX (k:=kt) T 0 3 (bp.mk ((rd (List.set l.ak (Int.toNat ai) (bp.mk ((rd l.ak ai).key) (-1) ((rd l.ak ai).aZ))) ai).key) ((rd (List.set l.ak (Int.toNat ai) (bp.mk ((rd l.ak ai).key) (-1) ((rd l.ak ai).aZ))) ai).cF) l.cz) J J J J J J s5 e4 c2 J J J (λH6 s6=>kg [0,1,4,5,6,8,9,10,11,13,14,15,16,17,18,19,20,21] [0,0,0] [0,0,0,0] [(7,(ll ml (List.set (List.set l.ak (Int.toNat ai) (bp.mk ((rd l.ak ai).key) (-1) ((rd l.ak ai).aZ))) (Int.toNat ai) (bp.mk ((rd (List.set l.ak (Int.toNat ai) (bp.mk ((rd l.ak ai).key) (-1) ((rd l.ak ai).aZ))) ai).key) ((rd (List.set l.ak (Int.toNat ai) (bp.mk ((rd l.ak ai).key) (-1) ((rd l.ak ai).aZ))) ai).cF) l.cz)) mv)),(12,(ll ml (List.set (List.set l.ak (Int.toNat ai) (bp.mk ((rd l.ak ai).key) (-1) ((rd l.ak ai).aZ))) (Int.toNat ai) (bp.mk ((rd (List.set l.ak (Int.toNat ai) (bp.mk ((rd l.ak ai).key) (-1) ((rd l.ak ai).aZ))) ai).key) ((rd (List.set l.ak (Int.toNat ai) (bp.mk ((rd l.ak ai).key) (-1) ((rd l.ak ai).aZ))) ai).cF) l.cz)) mv))] [(cl gC 238 [(ii l.k),(ll ml (List.set (List.set l.ak (Int.toNat ai) (bp.mk ((rd l.ak ai).key) (-1) ((rd l.ak ai).aZ))) (Int.toNat ai) (bp.mk ((rd (List.set l.ak (Int.toNat ai) (bp.mk ((rd l.ak ai).key) (-1) ((rd l.ak ai).aZ))) ai).key) ((rd (List.set l.ak (Int.toNat ai) (bp.mk ((rd l.ak ai).key) (-1) ((rd l.ak ai).aZ))) ai).cF) l.cz)) mv),(.map (some oV)),(ii l.cz),(ii l.dg)])] J J ⟨(by first |rfl |(simp only[ll,List.length_set];rfl)),(by first |rfl |(simp only[ll,List.length_set];rfl)),trivial⟩ (by first |rfl |(simp only[ll,List.length_set];rfl)) (an sl (ae (rx T 7 (lf T 3 J (ro T 3 ?_))))))))))
 refine cb J H (λH=>?_) (λH=>?_)
 ·refine rc T 5 (sg T 3 J (ro T 7 (sg T 3 J (ro T 1 (ks [] J (iZ ?_))))))
  cases H;exact p1 T J [3,0,0,0] ⟨ml,mv,H6,oV,uQ,s6,wj,J,J⟩ J
 refine ks [0,1] J (fz J (rz [11] mix (bP bO) (λhg pf=>ha T 9 [0,1,2] sz hg pf J (av 3 sz hg pf J (aw T J J J J (aH (j:=3) J J)) (ha T 5 [4,5,6] sz hg pf J (av 7 sz hg pf J (aw T J J J J (aH (j:=3) J J)) (ha T 3 [8] sz hg pf J ?_)))))));obtain⟨c4,H⟩:=az H;refine av 9 sz hg pf J (cO T J J J J J e4 c4.1 c4.2) (ha T 1 [10] sz hg pf J (ao 11 (jX (k:=kt) T 0 2 (bp.mk ((rd (List.set (List.set l.ak (Int.toNat ai) (bp.mk ((rd l.ak ai).key) (-1) ((rd l.ak ai).aZ))) (Int.toNat ai) (bp.mk ((rd (List.set l.ak (Int.toNat ai) (bp.mk ((rd l.ak ai).key) (-1) ((rd l.ak ai).aZ))) ai).key) ((rd (List.set l.ak (Int.toNat ai) (bp.mk ((rd l.ak ai).key) (-1) ((rd l.ak ai).aZ))) ai).cF) l.cz)) l.cz).key) ai ((rd (List.set (List.set l.ak (Int.toNat ai) (bp.mk ((rd l.ak ai).key) (-1) ((rd l.ak ai).aZ))) (Int.toNat ai) (bp.mk ((rd (List.set l.ak (Int.toNat ai) (bp.mk ((rd l.ak ai).key) (-1) ((rd l.ak ai).aZ))) ai).key) ((rd (List.set l.ak (Int.toNat ai) (bp.mk ((rd l.ak ai).key) (-1) ((rd l.ak ai).aZ))) ai).cF) l.cz)) l.cz).aZ)) J J J J J J s6 e4 c4 J J J (λH7 s7=>kg [0,1,31,32,33,35,36,37,38,39,40,41] [0,0,0] [0,0,0,0] [(34,(ll ml (List.set (List.set (List.set l.ak (Int.toNat ai) (bp.mk ((rd l.ak ai).key) (-1) ((rd l.ak ai).aZ))) (Int.toNat ai) (bp.mk ((rd (List.set l.ak (Int.toNat ai) (bp.mk ((rd l.ak ai).key) (-1) ((rd l.ak ai).aZ))) ai).key) ((rd (List.set l.ak (Int.toNat ai) (bp.mk ((rd l.ak ai).key) (-1) ((rd l.ak ai).aZ))) ai).cF) l.cz)) (Int.toNat l.cz) (bp.mk ((rd (List.set (List.set l.ak (Int.toNat ai) (bp.mk ((rd l.ak ai).key) (-1) ((rd l.ak ai).aZ))) (Int.toNat ai) (bp.mk ((rd (List.set l.ak (Int.toNat ai) (bp.mk ((rd l.ak ai).key) (-1) ((rd l.ak ai).aZ))) ai).key) ((rd (List.set l.ak (Int.toNat ai) (bp.mk ((rd l.ak ai).key) (-1) ((rd l.ak ai).aZ))) ai).cF) l.cz)) l.cz).key) ai ((rd (List.set (List.set l.ak (Int.toNat ai) (bp.mk ((rd l.ak ai).key) (-1) ((rd l.ak ai).aZ))) (Int.toNat ai) (bp.mk ((rd (List.set l.ak (Int.toNat ai) (bp.mk ((rd l.ak ai).key) (-1) ((rd l.ak ai).aZ))) ai).key) ((rd (List.set l.ak (Int.toNat ai) (bp.mk ((rd l.ak ai).key) (-1) ((rd l.ak ai).aZ))) ai).cF) l.cz)) l.cz).aZ))) mv))] [(cl gC 238 [(ii l.k),(ll ml (List.set (List.set (List.set l.ak (Int.toNat ai) (bp.mk ((rd l.ak ai).key) (-1) ((rd l.ak ai).aZ))) (Int.toNat ai) (bp.mk ((rd (List.set l.ak (Int.toNat ai) (bp.mk ((rd l.ak ai).key) (-1) ((rd l.ak ai).aZ))) ai).key) ((rd (List.set l.ak (Int.toNat ai) (bp.mk ((rd l.ak ai).key) (-1) ((rd l.ak ai).aZ))) ai).cF) l.cz)) (Int.toNat l.cz) (bp.mk ((rd (List.set (List.set l.ak (Int.toNat ai) (bp.mk ((rd l.ak ai).key) (-1) ((rd l.ak ai).aZ))) (Int.toNat ai) (bp.mk ((rd (List.set l.ak (Int.toNat ai) (bp.mk ((rd l.ak ai).key) (-1) ((rd l.ak ai).aZ))) ai).key) ((rd (List.set l.ak (Int.toNat ai) (bp.mk ((rd l.ak ai).key) (-1) ((rd l.ak ai).aZ))) ai).cF) l.cz)) l.cz).key) ai ((rd (List.set (List.set l.ak (Int.toNat ai) (bp.mk ((rd l.ak ai).key) (-1) ((rd l.ak ai).aZ))) (Int.toNat ai) (bp.mk ((rd (List.set l.ak (Int.toNat ai) (bp.mk ((rd l.ak ai).key) (-1) ((rd l.ak ai).aZ))) ai).key) ((rd (List.set l.ak (Int.toNat ai) (bp.mk ((rd l.ak ai).key) (-1) ((rd l.ak ai).aZ))) ai).cF) l.cz)) l.cz).aZ))) mv),(.map (some oV)),(ii l.cz),(ii l.dg)])] J J ⟨(by first |rfl |(simp only[ll,List.length_set];rfl)),trivial⟩ (by first |rfl |(simp only[ll,List.length_set];rfl)) (an sl (ae (rx T 6 (sg T 3 J (ro T 1 (iZ ?_))))))))))
 cases H;exact p1 T J [3,0,0,0] ⟨ml,mv,H7,oV,uQ,s7,wj,J,J⟩ J
def xq.f (l:fS) (a:Int) (b:Int):Option (Int×Bool×Bool×fS):=(if(bN l.fE (a,b))=true then((sM.f l (aP l.fE (a,b))).bind λv9=>some (v9.k,v9.ak,v9.fE,v9.cz,v9.dg,(aP l.fE (a,b)),false)) else(if(List.length l.ak:Int)<l.k then(if(List.length l.ak+1<=1099511627776) then(some (l.k,(l.ak++[(bp.mk (a,b) 0 0)]),l.fE,l.cz,l.dg,(List.length l.ak:Int),false)) else none) else((sM.f l l.dg).bind λv10=>if(0<=l.dg/\l.dg<(List.length v10.ak:Int)) then(some (v10.k,(List.set v10.ak (Int.toNat l.dg) (bp.mk (a,b) ((rd v10.ak l.dg).cF) ((rd v10.ak l.dg).aZ))),(dT v10.fE ((rd v10.ak l.dg).key.1,(rd v10.ak l.dg).key.2)),v10.cz,v10.dg,l.dg,true)) else none))).bind λ(x1,x2,x3,x4,x5,x6,x7)=>(xt.f (fS.mk x1 x2 (cC x3 (a,b) x6) x4 x5) x6).bind λv11=>some (x6,(bN l.fE (a,b)),x7,v11)
def xq.R (gC:Nat) (r:(Int×Bool×Bool×fS)) (u:Value) (G:List Hp):Prop:= ∃(a0:Option Addr) (n0:Nat) (H0:Hp) (a1:Nat) (H1:Hp),aj kt 278 r.2.2.2.ak a0 n0 H0/\cM (Ky.pair T .i64 J J J lM u3) (λx:Int=>Value.int .i64 x) r.2.2.2.fE a1 H1/\u=(.tuple #[(ii r.1),(bb r.2.1),(bb r.2.2.1)])/\G=[(cl gC 238 [(ii r.2.2.2.k),(ll a0 r.2.2.2.ak n0),(.map (some a1)),(ii r.2.2.2.cz),(ii r.2.2.2.dg)]),H0,H1]
theorem xq.c (H:xq.f l a b=some r) (tf:aj kt 278 l.ak ml mv yu) (wj:cM (Ky.pair T .i64 J J J lM u3) (λx:Int=>Value.int .i64 x) l.fE oV uQ):
 QR 184 [(pp gC),(ii a),(ii b)] [(cl gC 238 [(ii l.k),(ll ml l.ak mv),(.map (some oV)),(ii l.cz),(ii l.dg)]),yu,uQ] [] F (xq.R gC r):=by
 unfold xq.f at H;refine aD Tryz.func184 J J (λW=>rc T 14 (eN J (rc T 6 (br J (Jm T J J J J J J) (nc T J (λb4=>sg T 4 J (ro T 3 (du mix ay (au T J (au T J (au T J (aO J J J (aw T J J J J (aH (j:=0) J J)) (aO J J J (gA T 4 J J J J J J J) (aO J J J (pV (k:=(a,b)) T (Ky.pair T .i64 J J J lM u3) (λx:Int=>Value.int .i64 x) J J J J J (oB wj (j:=2) J)) ?_))))))))))))))
 iterate 5 refine au T J ?_
 refine cZ (rx T 1 (mq H [0,7,9] [3,3] (λz8 (⟨x1,x2,x3,x4,x5,x6,x7,a5,n5,H5,a6,H6⟩:Int×List bp×(List ((Int×Int)×Int))×Int×Int×Int×Bool×Option Addr×Nat×Hp×Nat×Hp)=>((x1,x2,x3,x4,x5,x6,x7)=z8/\aj kt 278 x2 a5 n5 H5/\cM (Ky.pair T .i64 J J J lM u3) (λx:Int=>Value.int .i64 x) x3 a6 H6,[(6,(ii x6)),(8,(bb x7))],[(cl gC 238 [(ii x1),(ll a5 x2 n5),(.map (some a6)),(ii x4),(ii x5)]),H5,H6])) J J (λz8 Z1 _=>?_) ?_))
 ·refine rc T 7 (cb J Z1 (λZ1=>?_) (λZ1=>?_))
  ·refine rc T 3 (kr (sM.R gC) [] [0,0,0] J Tm Z1 (sM.c · tf wj) (λv9 Z1=>?_));rintro _ _ ⟨a7,n7,H7,a8,H8,s7,s8,rfl,rfl⟩;refine fz J (ro T 3 (am (_,_,_,_,_,_,_,_,_,_,_,_) [0,0,0,0,0] ⟨oi Z1,s7,s8⟩ J J))
  refine rc T 1 (du mix ay (au T J (au T J (au T J (aO J J J (aw T J J J J (aH (j:=0) J J)) ?_)))))
  iterate 4 refine au T J ?_
  refine aO J J J (aw T J J J J (aH (j:=0) J J)) (au T J (au T J (cZ (rx T 1 (cd J Z1 (λZ1=>?_) (λZ1=>?_))))))
  ·refine rc T 5 (lf T 0 J (ro T 4 (ks [0,6,7,8,9] J (fz J (rg [8,11] [0,0,0,0,0] mix (bP bO) (λhg pf=>ha T 8 [0,1,2,3] sz hg pf J (av 4 sz hg pf J (aw T J J J J (aH (j:=0) J J)) (av 5 sz hg pf J (gA T 4 J J J J J J J) (ha T 5 [6] sz hg pf J (ao 7 (cU (k:=kt) T [(bp.mk (a,b) 0 0)] J J J J J J J J J (λa9 H9 s9=>an (so [0,0,0,0,0]) (ao 8 ?_)))))))))))));obtain⟨c5,Z1⟩:=az Z1;refine d_ (k:=kt) (xs:=l.ak) T (g:=1) J J J J J J J J J J tf (oO s9 5) c5 J (λcw n10 bX bT=>an sl (hb T 9 sl hg pf J (hb T 10 sl hg pf J (ao 11 (sf T 0 J (an sl (ae (rx T 1 (rx T 1 (am (_,_,_,_,_,_,_,_,_,_,_,_) [3,3,0,0,0] ⟨oi Z1,bT,wj⟩ J J))))))))))
  refine rc T 5 (lf T 0 J (ro T 8 (kr (sM.R gC) [] [0,0,0] J Tm Z1 (sM.c · tf wj) (λv10 Z1=>?_))));rintro _ _ ⟨dt,n11,cA,a12,dz,dh,dJ,rfl,rfl⟩;refine fz J (ro T 3 (ks [0,6,7,8,9] J (fz J (rz [12] mix (bP bO) (λhg pf=>ha T 10 [0,1,2] sz hg pf J (av 3 sz hg pf J (aw T J J J J (aH (j:=2) J J)) (ha T 6 [4,5,6] sz hg pf J (av 7 sz hg pf J (aw T J J J J (aH (j:=2) J J)) (ha T 4 [8] sz hg pf J ?_)))))))));obtain⟨c7,Z1⟩:=az Z1;obtain⟨VX,Vu,w6⟩:=dh.r.addr c7.1 c7.2;refine av 9 sz hg pf J (cO T J J J J J w6 c7.1 c7.2) (ha T 2 [10] sz hg pf J (av 11 sz hg pf J (fQ T (cs:=[(ii (rd v10.ak l.dg).key.1),(ii (rd v10.ak l.dg).key.2)]) J J J J J J (aeN (k:=kt) (oO dh 3) w6 c7 0 J)) (ao 12 (DB (g:=4) (m:=v10.fE) (k:=((rd v10.ak l.dg).key.1,(rd v10.ak l.dg).key.2)) T (Ky.pair T .i64 J J J lM u3) (λx:Int=>Value.int .i64 x) J J J J J J J J dJ (λfI gh=>an sl (ae (rx T 1 (ks [0,6,7,8,9] J (fz J (rz [8] mix (bP bO) (λhg pf=>ha T 6 [0,1,2] sz hg pf J (av 3 sz hg pf J (aw T J J J J (aH (j:=2) J J)) (ha T 4 [4] sz hg pf J (av 5 sz hg pf J (gA T 1 J J J J J J J) (av 6 sz hg pf J (cO T J J J J J w6 c7.1 c7.2) (ha T 1 [7] sz hg pf J (ao 8 (jX (k:=kt) T 3 0 (bp.mk (a,b) ((rd v10.ak l.dg).cF) ((rd v10.ak l.dg).aZ)) J J J J J J dh w6 c7 J J J (λdE dN=>kg [0,6,7,8,9,43,44,45,47,48,49,50] [0,0,1,1] [0,0,1,1,0] [(46,(ll dt (List.set v10.ak (Int.toNat l.dg) (bp.mk (a,b) ((rd v10.ak l.dg).cF) ((rd v10.ak l.dg).aZ))) n11))] [(cl gC 238 [(ii v10.k),(ll dt (List.set v10.ak (Int.toNat l.dg) (bp.mk (a,b) ((rd v10.ak l.dg).cF) ((rd v10.ak l.dg).aZ))) n11),(.map (some a12)),(ii v10.cz),(ii v10.dg)])] J J ⟨(by first |rfl |(simp only[ll,List.length_set];rfl)),trivial⟩ (by first |rfl |(simp only[ll,List.length_set];rfl)) (an sl (ae (rx T 2 ?_))))))))))))))))))))))
  exact am (_,_,_,_,_,_,_,_,_,_,_,_) [0,0,2,0,0] ⟨oi Z1,dN,gh⟩ J J
 rintro _ ⟨x1,x2,x3,x4,x5,x6,x7,a5,n5,H5,a6,H6⟩ ⟨rfl,s5,s6⟩ H;refine rc T 1 (fz J (rz [6] mix (bP bO) (λhg pf=>ha T 4 [0,1,2] sz hg pf J (av 3 sz hg pf J (aw T J J J J (aH (j:=2) J J)) (av 4 sz hg pf J (gA T 1 J J J J J J J) (ha T 1 [5] sz hg pf J (ao 6 (pP (g:=4) (m:=x3) (k:=(a,b)) (v:=x6) T (Ky.pair T .i64 J J J lM u3) (λx:Int=>Value.int .i64 x) J J J J J J J s6 (λfN fj=>an sl (ae (rx T 5 (kr (xt.R gC) [] [2,2,2] J ac' H (xt.c (l:=(fS.mk x1 x2 (cC x3 (a,b) x6) x4 x5)) · s5 fj) (λv11 H=>?_)))))))))))));rintro _ _ ⟨a17,n17,ez,iQ,e_,fw,fk,rfl,rfl⟩;refine fz J (ro T 13 ?_)
 cases H;exact p1 T J [2,2,2,0] ⟨a17,n17,ez,iQ,e_,fw,fk,J,J⟩ J
end
noncomputable section
def Dc.f (h:Da) (ai:Int) (side:Int):Option Int:=if(¬h.t.W=0) then(if(¬h.t.W=0) then(if((side==0)&&(decide ((aa (Int.tdiv ai h.t.W))>0)))=true then(some (aa (ai-h.t.W))) else((if(side==1)=true then(some (decide ((Int.tmod ai h.t.W)<(aa (h.t.W-1))))) else(some false)).bind λx1=>if x1=true then(some (aa (ai+1))) else((if(side==2)=true then(some (decide ((aa (Int.tdiv ai h.t.W))<(aa (h.t.H-1))))) else(some false)).bind λx3=>if x3=true then(some (aa (ai+h.t.W))) else(if((side==3)&&(decide ((Int.tmod ai h.t.W)>0)))=true then(some (aa (ai-1))) else(some (-1)))))) else none) else none
theorem Dc.c (H:Dc.f h ai side=some r) (jg:(fo,Obj.cells #[(ii h.t.W),(ii h.t.H),(ll BH h.t.C CA),(ll ki h.l kz),(ll BG h.aR Cz)] 337 (0,0))∈F) (ov:aT (Fl.int .u8) h.t.C BH F) (qx:List.length h.t.C<=CA) (ph:aT cE h.l ki F) (pd:List.length h.l<=kz) (lY:aT (Fl.int .i64) h.aR BG F) (qw:List.length h.aR<=Cz):
 QU 295 [(pp fo),(ii ai),(ii side)] [] F (ii r):=by
 unfold Dc.f at H;refine aD Tryz.func295 J J (λW=>rc T 6 (du mix ay ?_))
 iterate 5 refine au T J ?_
 refine aO J J J (aw T J J J J (nD (j:=0) jg J J)) ?_;obtain⟨c1,H⟩:=az H;refine aO J J J (vp J J J c1) ?_
 iterate 5 refine au T J ?_
 refine aO J J J (aw T J J J J (nD (j:=0) jg J J)) ?_;obtain⟨c2,H⟩:=az H;refine aO J J J (vn J J J c2) (au T J (au T J (cZ (rx T 8 (ga T [3,4,5] 26 [0,1,2,7,8] 29 J J J J J J J (ro T 3 (cb J H (λH=>?_) (λH=>?_))))))))
 ·refine rc T 7 (lg T J (nD (j:=0) jg J J) (ro T 7 ?_))
  cases H;exact p0 T J [0] J
 refine mq H [0,1,2,7,8] [0] (λz2 (x1:Bool)=>(x1=z2,[(37,(bb x1))],[])) J J (λz2 Z4 _=>?_) ?_
 ·refine rc T 4 (ab 40 J Z4 (λZ4=>?_) (λZ4=>?_))
  ·refine ro T 5 (lg T J (nD (j:=0) jg J J) (ro T 6 (am _ [0] (oi Z4) J J)))
  refine ro T 12 (am _ [0] (oi Z4) J J)
 rintro _ x1 rfl H;refine cb J H (λH=>?_) (λH=>?_)
 ·refine rc T 10 ?_
  cases H;exact p0 T J [0] J
 refine mq H [0,1,2,7] [0] (λz4 (x3:Bool)=>(x3=z4,[(52,(bb x3))],[])) J J (λz4 Z7 _=>?_) ?_
 ·refine rc T 4 (ab 55 J Z7 (λZ7=>?_) (λZ7=>?_))
  ·refine ro T 5 (lg T J (nD (j:=0) jg J J) (ro T 6 (am _ [0] (oi Z7) J J)))
  refine ro T 12 (am _ [0] (oi Z7) J J)
 rintro _ x3 rfl H;refine cb J H (λH=>?_) (λH=>?_)
 ·refine rc T 7 (lg T J (nD (j:=0) jg J J) (ro T 7 ?_))
  cases H;exact p0 T J [0] J
 refine rc T 5 (ga T [3,4,5] 75 [1] 78 J J J J J J J (ro T 3 (cb J H (λH=>?_) (λH=>?_))))
 ·refine rc T 10 ?_
  cases H;exact p0 T J [0] J
 refine rc T 9 ?_
 cases H;exact p0 T J [0] J
def kD.f (h:Da) (ai:Int) (side:Int):Option Bool:=(Dc.f h ai side).bind λv1=>if v1<0 then((kC.f h.l ai side).bind λv2=>if(0<=ai/\ai<(List.length h.aR:Int)) then(some (v2==(rd h.aR ai))) else none) else((if(0<=v1/\v1<(List.length h.t.C:Int)) then(if((rd h.t.C v1)!=255)=true then(if(0<=v1/\v1<(List.length h.aR:Int)) then(if(0<=ai/\ai<(List.length h.aR:Int)) then(some ((aa ((aa (rd h.t.C v1))+(rd h.aR v1)))==(rd h.aR ai))) else none) else none) else(some false)) else none).bind λx3=>some x3)
theorem kD.c (H:kD.f h ai side=some r) (jg:(fo,Obj.cells #[(ii h.t.W),(ii h.t.H),(ll BH h.t.C CA),(ll ki h.l kz),(ll BG h.aR Cz)] 337 (0,0))∈F) (ov:aT (Fl.int .u8) h.t.C BH F) (qx:List.length h.t.C<=CA) (ph:aT cE h.l ki F) (pd:List.length h.l<=kz) (lY:aT (Fl.int .i64) h.aR BG F) (qw:List.length h.aR<=Cz):
 QU 277 [(pp fo),(ii ai),(ii side)] [] F (bb r):=by
 unfold kD.f at H;refine aD Tryz.func277 J J (λW=>rc T 10 (k [] J adN H (Dc.c · (p7 jg (j:=0) J) (rO ov 0) qx (rO ph 0) pd (rO lY 0) qw) (λv1 H=>ro T 10 (cd J H (λH=>?_) (λH=>?_)))))
 ·refine rc T 1 (du mix ay (au T J (au T J (au T J (aO J J J (aw T J J J J (nD (j:=0) jg J J)) (au T J (au T J ?_)))))));obtain⟨v2,V3,H⟩:=f_ H;refine tQ J J J J J J Tu J (kC.c V3 (rO ph 0) pd) (au T J (au T J (au T J (aO J J J (aw T J J J J (nD (j:=0) jg J J)) (au T J ?_)))));obtain⟨c4,H⟩:=az H;obtain⟨q1,o1,e1⟩:=lY.addr c4.1 c4.2;refine aO J J J (cO T J J J J J e1 c4.1 c4.2) (aO J J J (aw T J J J J (iU (k:=(Fl.int .i64)) (rO lY 0) e1 c4 0 J)) (au T J (au T J (cZ (rx T 3 ?_)))))
  cases H;exact p0 T J [0] J
 refine rc T 2 (mq H [] [0] (λz4 (x3:Bool)=>(x3=z4,[(6,(bb x3))],[])) J J (λz4 Z5 _=>?_) ?_)
 ·refine du mix ay ?_
  iterate 4 refine au T J ?_
  refine aO J J J (aw T J J J J (nD (j:=0) jg J J)) (au T J ?_);obtain⟨c6,Z5⟩:=az Z5;obtain⟨q2,o2,e2⟩:=ov.addr c6.1 c6.2;refine aO J J J (cO T J J J J J e2 c6.1 c6.2) (aO J J J (aw T J J J J (iU (k:=(Fl.int .u8)) (rO ov 0) e2 c6 0 J)) (au T J (au T J (qb 38 J Z5 (λZ5=>?_) (λZ5=>?_)))))
  ·iterate 4 refine au T J ?_
   refine aO J J J (aw T J J J J (nD (j:=0) jg J J)) (au T J (aO J J J (cO T J J J J J e2 c6.1 c6.2) (aO J J J (aw T J J J J (iU (k:=(Fl.int .u8)) (rO ov 0) e2 c6 0 J)) ?_)))
   iterate 4 refine au T J ?_
   refine aO J J J (aw T J J J J (nD (j:=0) jg J J)) (au T J ?_);obtain⟨c8,Z5⟩:=az Z5;obtain⟨q3,o3,e3⟩:=lY.addr c8.1 c8.2;refine aO J J J (cO T J J J J J e3 c8.1 c8.2) (aO J J J (aw T J J J J (iU (k:=(Fl.int .i64)) (rO lY 0) e3 c8 0 J)) ?_)
   iterate 4 refine au T J ?_
   refine aO J J J (aw T J J J J (nD (j:=0) jg J J)) (au T J ?_);obtain⟨c9,Z5⟩:=az Z5;refine aO J J J (cO T J J J J J e3 c9.1 c9.2) (aO J J J (aw T J J J J (iU (k:=(Fl.int .i64)) (rO lY 0) e3 c9 0 J)) (au T J (au T J (au T J (cZ (rx T 1 (am _ [0] (oi Z5) J J)))))))
  iterate 27 refine au T J ?_
  refine cZ (rx T 1 (am _ [0] (oi Z5) J J))
 rintro _ x3 rfl H;refine rc T 1 ?_
 cases H;exact p0 T J [0] J
def EJ.f (h:Da) (ai:Int) (side:Int):Option Int:=if(side==0)=true then((kD.f h ai 0).bind λv1=>if v1=true then(some 0) else((kD.f h ai 1).bind λv2=>if v2=true then(some 1) else((kD.f h ai 2).bind λv3=>if v3=true then(some 2) else((kD.f h ai 3).bind λv4=>if v4=true then(some 3) else(some 5))))) else(if(side==1)=true then((kD.f h ai 1).bind λv5=>if v5=true then(some 1) else((kD.f h ai 2).bind λv6=>if v6=true then(some 2) else((kD.f h ai 3).bind λv7=>if v7=true then(some 3) else(some 5)))) else(if(side==2)=true then((kD.f h ai 2).bind λv8=>if v8=true then(some 2) else((kD.f h ai 3).bind λv9=>if v9=true then(some 3) else(some 5))) else(if(side==3)=true then((kD.f h ai 3).bind λv10=>if v10=true then(some 3) else(some 5)) else(some 5))))
theorem EJ.c (H:EJ.f h ai side=some r) (jg:(fo,Obj.cells #[(ii h.t.W),(ii h.t.H),(ll BH h.t.C CA),(ll ki h.l kz),(ll BG h.aR Cz)] 337 (0,0))∈F) (ov:aT (Fl.int .u8) h.t.C BH F) (qx:List.length h.t.C<=CA) (ph:aT cE h.l ki F) (pd:List.length h.l<=kz) (lY:aT (Fl.int .i64) h.aR BG F) (qw:List.length h.aR<=Cz):
 QU 251 [(pp fo),(ii ai),(ii side)] [] F (ii r):=by
 unfold EJ.f at H;refine aD Tryz.func251 J J (λW=>rc T 28 (cb J H (λH=>?_) (λH=>?_)))
 ·refine rc T 9 (k [] J xg H (kD.c · (p7 jg (j:=0) J) (rO ov 0) qx (rO ph 0) pd (rO lY 0) qw) (λv1 H=>ro T 2 (cb J H (λH=>?_) (λH=>?_))))
  ·refine rc T 14 ?_
   cases H;exact p0 T J [0] J
  refine rc T 7 (k [] J xg H (kD.c · (p7 jg (j:=0) J) (rO ov 0) qx (rO ph 0) pd (rO lY 0) qw) (λv2 H=>ro T 2 (cb J H (λH=>?_) (λH=>?_))))
  ·refine rc T 12 ?_
   cases H;exact p0 T J [0] J
  refine rc T 7 (k [] J xg H (kD.c · (p7 jg (j:=0) J) (rO ov 0) qx (rO ph 0) pd (rO lY 0) qw) (λv3 H=>ro T 2 (cb J H (λH=>?_) (λH=>?_))))
  ·refine rc T 10 ?_
   cases H;exact p0 T J [0] J
  refine rc T 8 (k [] J xg H (kD.c · (p7 jg (j:=0) J) (rO ov 0) qx (rO ph 0) pd (rO lY 0) qw) (λv4 H=>ro T 2 (cb J H (λH=>?_) (λH=>?_))))
  ·refine rc T 9 ?_
   cases H;exact p0 T J [0] J
  refine rc T 11 ?_
  cases H;exact p0 T J [0] J
 refine rc T 9 (cb J H (λH=>?_) (λH=>?_))
 ·refine rc T 11 (k [] J xg H (kD.c · (p7 jg (j:=0) J) (rO ov 0) qx (rO ph 0) pd (rO lY 0) qw) (λv5 H=>ro T 2 (cb J H (λH=>?_) (λH=>?_))))
  ·refine rc T 12 ?_
   cases H;exact p0 T J [0] J
  refine rc T 7 (k [] J xg H (kD.c · (p7 jg (j:=0) J) (rO ov 0) qx (rO ph 0) pd (rO lY 0) qw) (λv6 H=>ro T 2 (cb J H (λH=>?_) (λH=>?_))))
  ·refine rc T 10 ?_
   cases H;exact p0 T J [0] J
  refine rc T 8 (k [] J xg H (kD.c · (p7 jg (j:=0) J) (rO ov 0) qx (rO ph 0) pd (rO lY 0) qw) (λv7 H=>ro T 2 (cb J H (λH=>?_) (λH=>?_))))
  ·refine rc T 9 ?_
   cases H;exact p0 T J [0] J
  refine rc T 11 ?_
  cases H;exact p0 T J [0] J
 refine rc T 9 (cb J H (λH=>?_) (λH=>?_))
 ·refine rc T 13 (k [] J xg H (kD.c · (p7 jg (j:=0) J) (rO ov 0) qx (rO ph 0) pd (rO lY 0) qw) (λv8 H=>ro T 2 (cb J H (λH=>?_) (λH=>?_))))
  ·refine rc T 10 ?_
   cases H;exact p0 T J [0] J
  refine rc T 8 (k [] J xg H (kD.c · (p7 jg (j:=0) J) (rO ov 0) qx (rO ph 0) pd (rO lY 0) qw) (λv9 H=>ro T 2 (cb J H (λH=>?_) (λH=>?_))))
  ·refine rc T 9 ?_
   cases H;exact p0 T J [0] J
  refine rc T 11 ?_
  cases H;exact p0 T J [0] J
 refine rc T 8 (cb J H (λH=>?_) (λH=>?_))
 ·refine rc T 15 (k [] J xg H (kD.c · (p7 jg (j:=0) J) (rO ov 0) qx (rO ph 0) pd (rO lY 0) qw) (λv10 H=>ro T 2 (cb J H (λH=>?_) (λH=>?_))))
  ·refine rc T 9 ?_
   cases H;exact p0 T J [0] J
  refine rc T 11 ?_
  cases H;exact p0 T J [0] J
 refine rc T 19 ?_
 cases H;exact p0 T J [0] J
def Db.f (h:Da) (ai:Int):Option Int:=if(0<=ai/\ai<(List.length h.aR:Int)) then(if((rd h.aR ai)==1099511627776)=true then(some 5) else((kC.f h.l ai 4).bind λv1=>if((rd h.aR ai)==v1)=true then(some 4) else((EJ.f h ai 0).bind λv2=>some v2))) else none
theorem Db.c (H:Db.f h ai=some r) (jg:(fo,Obj.cells #[(ii h.t.W),(ii h.t.H),(ll BH h.t.C CA),(ll ki h.l kz),(ll BG h.aR Cz)] 337 (0,0))∈F) (ov:aT (Fl.int .u8) h.t.C BH F) (qx:List.length h.t.C<=CA) (ph:aT cE h.l ki F) (pd:List.length h.l<=kz) (lY:aT (Fl.int .i64) h.aR BG F) (qw:List.length h.aR<=Cz):
 QU 229 [(pp fo),(ii ai)] [] F (ii r):=by
 unfold Db.f at H;refine aD Tryz.func229 J J (λW=>rc T 11 (lg T J (nD (j:=0) jg J J) (ro T 1 ?_)));obtain⟨c1,H⟩:=az H;obtain⟨q1,o1,e1⟩:=lY.addr c1.1 c1.2;refine ix T J e1 c1 (le T 0 (rO lY 0) e1 c1 J J (ro T 9 (cb J H (λH=>?_) (λH=>?_))))
 ·refine rc T 8 ?_
  cases H;exact p0 T J [0] J
 refine rc T 5 (lg T J (nD (j:=0) jg J J) (ro T 1 (k [] J Tu H (kC.c · (rO ph 0) pd) (λv1 H=>ro T 4 (cb J H (λH=>?_) (λH=>?_))))))
 ·refine rc T 8 ?_
  cases H;exact p0 T J [0] J
 refine rc T 7 (k [] J ads H (EJ.c · (p7 jg (j:=0) J) (rO ov 0) qx (rO ph 0) pd (rO lY 0) qw) (λv2 H=>ro T 4 ?_))
 cases H;exact p0 T J [0] J
def nR.l0:Nat->aL->(List a_)->((List Int)×Int)->List Int->Int->Option (fZ×Int)
 |0,_,_,_,_,_=>none
 |k6+1,t,l,v1,x4,x5=>if x5<(List.length v1.1:Int) then((Db.f (Da.mk t l v1.1) x5).bind λv7=>if(List.length x4+1<=1099511627776) then(nR.l0 k6 t l v1 (x4++[v7]) (aa (x5+1))) else none) else(some ((fZ.mk v1.1 x4),0))
def nR.f (t:aL) (l:(List a_)):Option (fZ×Int):=(tx.f t l).bind λv1=>if(v1.2 !=0)=true then(some ((fZ.mk [] []),v1.2)) else(nR.l0 fuel t l v1 [] 0)
def nR.R (r:(fZ×Int)) (u:Value) (G:List Hp):Prop:= ∃(a0:Option Addr) (n0:Nat) (H0:Hp) (a1:Option Addr) (n1:Nat) (H1:Hp),aj (Fl.int .i64) 3 r.1.fe a0 n0 H0/\aj (Fl.int .i64) 3 r.1.cy a1 n1 H1/\u=(.tuple #[(.agg #[(ll a0 r.1.fe n0),(ll a1 r.1.cy n1)]),(ii r.2)])/\G=[H0,H1]
theorem nR.c (H:nR.f t l=some r) (dR:aT (Fl.int .u8) t.C il F) (fi:List.length t.C<=iv) (df:aT cE l ik F) (gu:List.length l<=gZ):
 QR 188 [(.agg #[(ii t.W),(ii t.H),(ll il t.C iv)]),(ll ik l gZ)] [] [] F (nR.R r):=by
 unfold nR.f at H;refine aD Tryz.func188 J J (λW=>rc T 2 (nc T J (λb1=>nc T J (λb2=>ro T 5 (lm T 1 J (ro T 1 (kr tx.R [] [] J Tn H (tx.c · (rO dR 0) fi (rO df 0) gu) (λv1 H=>?_))))))));rintro _ _ ⟨a3,n3,H3,s3,rfl,rfl⟩;refine fz J (ro T 14 (cb J H (λH=>?_) (λH=>?_)))
 ·refine rc T 4 (sg T 2 J (ro T 5 ?_))
  cases H;refine bw (bw (pb T J (.cK (j:=2) [nl,nl] J J J J J J J (.tmp J .nil)) [4,4,0] ⟨(_,_),none,0,[],none,0,[],aj.nil,aj.nil,J,J⟩ J J))
 refine rc T 4 (lm T 1 J (ro T 3 (nc T J (λb6=>ro T 2 (ke [4,6,8] [0,1,1,1] J J (rx T 5 (nc T J (λb7=>sg T 4 J (ro T 11 (bw (lq [4,8,9,29] [0,0,1,0] (λ(⟨k6,x4,x5,a9,n9,H9⟩:Nat×List Int×Int×Option Addr×Nat×Hp)=>(nR.l0 k6 t l v1 x4 x5=some r/\aj (Fl.int .i64) 3 x4 a9 n9 H9,[(30,(ii x5))],[(cl b7 79 [(ll a3 v1.1 n3),(ll a9 x4 n9)]),H9])) J J (fuel,[],0,none,0,[]) [0,0,1,0,0,0] ⟨H,aj.nil⟩ J J ?_)))))))))));rintro k6 ⟨x4,x5,a9,n9,H9⟩ ⟨Z3,s9⟩;rw[nR.l0] at Z3;refine rc T 6 (cd J Z3 (λZ3=>?_) (λZ3=>?_))
 ·refine rc T 10 (fz J (rg [6,8] [0,0,0,0,0,0] mix (bP bO) (λhg pf=>ha T 8 [0] sz hg pf J (av 1 sz hg pf J (aw T J J J J (aH (j:=4) J J)) (ha T 5 [2,3] sz hg pf J (ao 4 (kh [] J adb Z3 (Db.c (h:=(Da.mk t l v1.1)) · (AN (j:=2) J) (rO dR 0) fi (rO df 0) gu (oO s3 3) s3.bY) (λv7 Z3=>an sz (ao 5 (cU (k:=(Fl.int .i64)) T [v7] J J J J J J J J J (λcw bX bT=>an (so [0,0,0,0,0,0]) (ao 6 ?_))))))))))));obtain⟨c6,Z3⟩:=az Z3;refine d_ (k:=(Fl.int .i64)) (xs:=x4) T (g:=5) J J J J J J J J J J s9 (oO bT 6) c6 J (λdt n11 cA dh=>an sl (hb T 7 sl hg pf J (ao 8 (sf T 4 J (an sl (ae (rx T 7 (ar (_,_,_,_,_) [0,0,0,0,0,0] ⟨Z3,dh⟩ J J))))))))
 refine rc T 7 (lm T 4 J (sg T 1 J (ro T 4 ?_)))
 cases Z3;exact pb T J (.cK (j:=1) [(ll a3 v1.1 n3),(ll a9 x4 n9)] J J J J J J J (.tmp J .nil)) [3,4,0] ⟨(_,_),a3,n3,H3,a9,n9,H9,s3,s9,J,J⟩ J J
end
noncomputable section
def xQ.f (ag:Int):Option (Option jl):=if ag<1 then(some none) else((xu.f ag).bind λv1=>dm v1 (none) (λeZ=>some (some (jl.mk eZ [] (fP.mk 0 0 0 0 0 0)))))
def xQ.R (r:(Option jl)) (u:Value) (G:List Hp):Prop:= ∃(u0:Value) (G0:List Hp),X8 r u0 G0/\u=u0/\G=G0
theorem xQ.c (H:xQ.f ag=some r):
 QR 77 [(ii ag)] [] [] F (xQ.R r):=by
 unfold xQ.f at H;refine aD Tryz.func77 J J (λW=>rc T 12 (cd J H (λH=>?_) (λH=>?_)))
 ·refine rc T 7 ?_
  cases H;exact p1 T J [0] ⟨_,_,⟨J,J⟩,J,J⟩ J
 refine rc T 5 (kr xu.R [] [] J acf H (xu.c ·) (λv1 H=>?_));rintro _ _ ⟨_,_,O3,rfl,rfl⟩;rcases v1 with _ |eZ
 ·replace H:=eV J H
  cases H
 replace H:=eW J H;obtain⟨b1,a2,n2,H2,a3,H3,s2,s3,rfl,rfl⟩:=O3;refine ro T 1 (nc T J (λb4=>ro T 4 ?_))
 cases H;refine bw (gn [4,1,1,1,1] J (p1 T J [1,0] ⟨_,_,⟨b4,(List.flatten [(cl b4 173 [(pp b1),nl,(uu 0),(uu 0),(uu 0),(uu 0),(uu 0),(uu 0)]),(cl b1 238 [(ii eZ.k),(ll a2 eZ.ak n2),(.map (some a3)),(ii eZ.cz),(ii eZ.dg)]),H2,H3,[]]),(show sb (jl.mk eZ [] (fP.mk 0 0 0 0 0 0)) b4 (List.flatten [(cl b4 173 [(pp b1),nl,(uu 0),(uu 0),(uu 0),(uu 0),(uu 0),(uu 0)]),(cl b1 238 [(ii eZ.k),(ll a2 eZ.ak n2),(.map (some a3)),(ii eZ.cz),(ii eZ.dg)]),H2,H3,[]]) from⟨b1,a2,n2,H2,a3,H3,none,0,[],s2,s3,(gz.nil (kd:=Eu) (E:=291)),J⟩),J,J⟩,J,J⟩ J))
def EG.f (s:jl):Option fP:=some s.count
theorem EG.c (H:EG.f s=some r) (cQ:sb s bg dQ):
 QU 80 [(pp bg)] [dQ] F (.agg #[(uu r.bn),(uu r.bB),(uu r.bz),(uu r.bx),(uu r.bE),(uu r.bC)]):=by
 unfold EG.f at H;refine aD Tryz.func80 J J (λW=>rc T 2 (nc T J (λb2=>ro T 9 (eN J (rc T 3 ?_)))));obtain⟨b4,a5,n5,H5,a6,H6,a7,n7,H7,s5,s6,s7,dq⟩:=(λx=>x) cQ;refine bQ 0 (congrArg some dq) (fz J (rc T 4 (lm T 2 J (sg T 1 J (ro T 3 ?_)))))
 cases H;refine dp [2,2,2,2,2] J dq (pb T J (.cK (j:=1) [(uu s.count.bn),(uu s.count.bB),(uu s.count.bz),(uu s.count.bx),(uu s.count.bE),(uu s.count.bC)] J J J J J J J .nil) [2,0] () J J)
def pH.f (s:jl):Option jl:=(zi.f s.keys).bind λv1=>some (jl.mk v1 [] s.count)
def pH.R (nn:Nat) (r:jl) (u:Value) (G:List Hp):Prop:= ∃(H0:Hp),sb r nn H0/\u=(.tuple #[])/\G=[H0]
theorem pH.c (H:pH.f s=some r) (cQ:sb s bg dQ):
 QR 117 [(pp bg)] [dQ] [] F (pH.R bg r):=by
 unfold pH.f at H;refine aD Tryz.func117 J J (λW=>rc T 6 (nh J (rc T 1 ?_)));obtain⟨b3,a4,n4,H4,a5,H5,a6,n6,H6,s4,s5,s6,cm⟩:=(λx=>x) cQ;refine bQ 0 (congrArg some cm) (fz J (rc T 4 (lf T 1 J (kr (zi.R b3) [] [2,2,2] J SZ H (zi.c · s4 s5) (λv1 H=>?_)))));rintro _ _ ⟨a7,n7,H7,a8,H8,s7,s8,rfl,rfl⟩;refine fz J (ro T 6 (sg T 1 J (ro T 1 (iZ ?_))))
 cases H;refine bw (gn [1,2,2,2,2] J (p1 T J [2,0] ⟨(List.flatten [(cl bg 173 [(pp b3),nl,(uu s.count.bn),(uu s.count.bB),(uu s.count.bz),(uu s.count.bx),(uu s.count.bE),(uu s.count.bC)]),(cl b3 238 [(ii v1.k),(ll a7 v1.ak n7),(.map (some a8)),(ii v1.cz),(ii v1.dg)]),H7,H8,[]]),(show sb (jl.mk v1 [] s.count) bg (List.flatten [(cl bg 173 [(pp b3),nl,(uu s.count.bn),(uu s.count.bB),(uu s.count.bz),(uu s.count.bx),(uu s.count.bE),(uu s.count.bC)]),(cl b3 238 [(ii v1.k),(ll a7 v1.ak n7),(.map (some a8)),(ii v1.cz),(ii v1.dg)]),H7,H8,[]]) from⟨b3,a7,n7,H7,a8,H8,none,0,[],s7,s8,(gz.nil (kd:=Eu) (E:=291)),J⟩),J,J⟩ J))
def my.f (count:Int):Option Int:=(rU.f count 1).bind λv1=>some v1
def my.R (aaw:Nat) (aal:TypeId) (aaV aaW:List Value) (r:Int) (u:Value) (G:List Hp):Prop:=u=(.tuple #[])/\G=[[(aaw,Obj.cells (aaV++(Value.int .u64 r)::aaW).toArray aal (0,0))]]
theorem my.c (H:my.f count=some r):
 QR 186 [(.pointer (some ⟨QV,List.length pre_count,none⟩))] [[(QV,Obj.cells (pre_count++(uu count)::post_count).toArray Yd (0,0))]] [] F (my.R QV Yd pre_count post_count r):=by
 unfold my.f at H;refine aD Tryz.func186 J J (λW=>rc T 4 (lg T J (aeO (j:=0) J) (k [] J JA H (rU.c ·) (λv1 H=>ro T 1 (aX (Zx T 0 J J J J J J ?_))))));refine ro T 1 (iZ ?_)
 cases H;exact p1 T J [0,0] ⟨J,J⟩ J
def tq.f (ag:fZ):Option fZ:=(qg.f ag.fe).bind λv1=>(qg.f ag.cy).bind λv2=>some (fZ.mk v1 v2)
def tq.R (r:fZ) (u:Value) (G:List Hp):Prop:= ∃(a0:Option Addr) (n0:Nat) (H0:Hp) (a1:Option Addr) (n1:Nat) (H1:Hp),aj (Fl.int .i64) 3 r.fe a0 n0 H0/\aj (Fl.int .i64) 3 r.cy a1 n1 H1/\u=(.agg #[(ll a0 r.fe n0),(ll a1 r.cy n1)])/\G=[H0,H1]
theorem tq.c (H:tq.f ag=some r) (acb:aT (Fl.int .i64) ag.fe Ym F) (aap:List.length ag.fe<=af8) (aca:aT (Fl.int .i64) ag.cy Yl F) (aao:List.length ag.cy<=af7):
 QR 187 [(.agg #[(ll Ym ag.fe af8),(ll Yl ag.cy af7)])] [] [] F (tq.R r):=by
 unfold tq.f at H;refine aD Tryz.func187 J J (λW=>rc T 2 (nc T J (λb1=>nc T J (λb2=>ro T 3 (ks [1,2] J (fz J (rg [7] [0,0,0] mix (bP bO) (λhg pf=>ha T 7 [0] sz hg pf J (av 1 sz hg pf J (aw T J J J J (aH (j:=1) J J)) (ha T 5 [3] sz hg pf J (av 4 sz hg pf J (aw T J J J J (aH (j:=1) J J)) (ao 2 (kR qg.R [] [] J Nj H (qg.c · (rO acb 0) aap) (λv1 H=>?_))))))))))))));rintro _ _ ⟨a3,n3,H3,s3,rfl,rfl⟩;refine fz J (an (so [0,0,0]) (ao 5 (kR qg.R [] [] J Nj H (qg.c · (rO aca 0) aao) (λv2 H=>?_))));rintro _ _ ⟨a4,n4,H4,s4,rfl,rfl⟩;refine fz J (an (so [0,0,0]) (ha T 1 [6] (so [0,0,0]) hg pf J (ao 7 (sf T 2 J (an sl (ae (rx T 1 (rc T 1 ?_))))))))
 cases H;exact pb T J (.cK (j:=2) [(ll a3 v1 n3),(ll a4 v2 n4)] J J J J J J J .nil) [3,3,0] ⟨(_,_),a3,n3,H3,a4,n4,H4,s3,s4,J,J⟩ J J
def mw.f (s:jl) (goal:Int) (bG:Int) (version:Int) (t:aL) (l:(List a_)):Option (fZ×Int×jl):=(zB.f t l).bind λv1=>if(!v1)=true then(some ((fZ.mk [] []),1,s)) else((xq.f s.keys goal bG).bind λv2=>(if(v2.1==(List.length s.fields:Int))=true then(if(List.length s.fields+1<=1099511627776) then(some (s.fields++[(qe.mk 0 [] (fZ.mk [] []))])) else none) else(some s.fields)).bind λx3=>if(0<=v2.1/\v2.1<(List.length x3:Int)) then((if v2.2.1=true then(if((rd x3 v2.1).version==version)=true then((A'.f ((rd x3 v2.1).tn) l).bind λv7=>some v7) else(some false)) else(some false)).bind λx5=>if x5=true then((my.f s.count.bx).bind λv8=>(tq.f ((rd x3 v2.1).field)).bind λv9=>some (v9,0,(jl.mk v2.2.2.2 x3 (fP.mk s.count.bn s.count.bB s.count.bz v8 s.count.bE s.count.bC)))) else((if v2.2.1=true then((my.f s.count.bE).bind λv12=>some v12) else(some s.count.bE)).bind λaN=>(if v2.2.2.1=true then((my.f s.count.bC).bind λcS=>some cS) else(some s.count.bC)).bind λaU=>(my.f s.count.bz).bind λbR=>(nR.f t l).bind λv17=>(rS.f l).bind λfG=>(tq.f v17.1).bind λnU=>some (nU,0,(jl.mk v2.2.2.2 (List.set x3 (Int.toNat v2.1) (qe.mk version fG v17.1)) (fP.mk s.count.bn s.count.bB bR s.count.bx aN aU))))) else none)
def mw.R (nn:Nat) (r:(fZ×Int×jl)) (u:Value) (G:List Hp):Prop:= ∃(a0:Option Addr) (n0:Nat) (H0:Hp) (a1:Option Addr) (n1:Nat) (H1:Hp) (H2:Hp),aj (Fl.int .i64) 3 r.1.fe a0 n0 H0/\aj (Fl.int .i64) 3 r.1.cy a1 n1 H1/\sb r.2.2 nn H2/\u=(.tuple #[(.agg #[(ll a0 r.1.fe n0),(ll a1 r.1.cy n1)]),(ii r.2.1)])/\G=[H0,H1,H2]
theorem mw.c (H:mw.f s goal bG version t l=some r) (cQ:sb s bg dQ) (dR:aT (Fl.int .u8) t.C il F) (fi:List.length t.C<=iv) (df:aT cE l ik F) (gu:List.length l<=gZ):
 QR 144 [(pp bg),(ii goal),(ii bG),(ii version),(.agg #[(ii t.W),(ii t.H),(ll il t.C iv)]),(ll ik l gZ)] [dQ] [] F (mw.R bg r):=by
 unfold mw.f at H;refine aD Tryz.func144 J J (λW=>rc T 2 (nc T J (λb2=>nc T J (λb3=>ro T 9 (lm T 2 J (ro T 1 (k [] J Ta H (zB.c · (rO dR 1) fi (rO df 1) gu) (λv1 H=>ro T 4 (cb J H (λH=>?_) (λH=>?_))))))))))
 ·refine rc T 3 (sg T 3 J (ro T 5 ?_))
  cases H;refine bw (bw (pb T J (.cK (j:=3) [nl,nl] J J J J J J J (.tmp J .nil)) [4,4,0,0] ⟨(_,_),none,0,[],none,0,[],dQ,aj.nil,aj.nil,cQ,J,J⟩ J J))
 refine rc T 3 ?_;obtain⟨b7,a8,n8,H8,a9,H9,cw,n10,bX,s8,s9,bT,hH6⟩:=(λx=>x) cQ;refine bQ 0 (congrArg some hH6) (fz J (rc T 4 (lf T 3 J (ro T 2 (kr (xq.R b7) [] [4,4,4] J acP H (xq.c · s8 s9) (λv2 H=>?_))))));rintro _ _ ⟨dt,n11,cA,a12,dz,dh,dJ,rfl,rfl⟩;refine fz J (ro T 9 (mq H [0,3,5,10,12,14,15,16] [0,4,4,4,0,0] (λz4 (⟨x3,dF,n13,eI⟩:List qe×Option Addr×Nat×Hp)=>(x3=z4/\gz Eu 291 x3 dF n13 eI,[],[(cl bg 173 [(pp b7),(ll dF x3 n13),(uu s.count.bn),(uu s.count.bB),(uu s.count.bz),(uu s.count.bx),(uu s.count.bE),(uu s.count.bC)]),eI])) J J (λz4 Z4 _=>?_) ?_))
 ·refine rc T 6 (lf T 3 J (ro T 4 (cb J Z4 (λZ4=>?_) (λZ4=>?_))))
  ·refine rc T 5 (lf T 3 J (ro T 1 (bw (bw (bw (gn [8,8,8] J (aX (Ft (kd:=Eu) (E:=291) (q:=8) (c:=[(ii 0),nl,nl,nl]) T (qe.mk 0 [] (fZ.mk [] [])) J J J J J J J J J J ⟨none,0,[],none,0,[],none,0,[],(aj.nil (k:=cE) (E:=285)),(aj.nil (k:=(Fl.int .i64)) (E:=3)),(aj.nil (k:=(Fl.int .i64)) (E:=3)),J,J⟩ (λiQ e_ fk=>?_)))))))));obtain⟨c6,Z4⟩:=az Z4;refine aX (Fs (kd:=Eu) (xs:=s.fields) (ys:=[(qe.mk 0 [] (fZ.mk [] []))]) T (g:=4) (q:=9) J J J J J J J J J J bT J J fk c6 J (λmj n19 kJ gR=>ro T 2 (sg T 3 J (ro T 1 (ke [0,3,5,10,12,14,15,16] [0,0,0,0,0,0,0,0] J J (rx T 1 (am (_,_,_,_) [0,4,4,4,0,0,0,0] ⟨oi Z4,gR⟩ J J)))))))
  refine rc T 2 (am (_,_,_,_) [0,4,4,4,0,0,0,0] ⟨oi Z4,bT⟩ J J)
 rintro _ ⟨x3,dF,n13,eI⟩ ⟨rfl,dn⟩ H;refine rc T 5 (lf T 6 J (ro T 1 ?_));obtain⟨c7,H⟩:=az H;obtain⟨Wi,Vv,vh⟩:=dn.r.addr c7.1 c7.2;refine ix T J vh c7 (ro T 4 (mq H [0,3,5,10,12,15,16,17] [0,5,0,0,0,2,0,0] (λz6 (x5:Bool)=>(x5=z6,[(79,(bb x5))],[])) J J (λz6 Z8 _=>?_) ?_))
 ·refine rc T 3 (ab 64 J Z8 (λZ8=>?_) (λZ8=>?_))
  ·refine ro T 3 ?_;obtain⟨_,XC,⟨a21,n21,a22,n22,a23,n23,⟨r21,m21⟩,⟨r22,m22⟩,⟨r23,m23⟩,rfl⟩⟩:=lz.view dn.r c7;refine lg T J (uj (j:=7) J XC vh 0 J) (ro T 4 (ab 72 J Z8 (λZ8=>?_) (λZ8=>?_)))
   ·refine ro T 3 (lg T J (uj (j:=7) J XC vh 1 J) (ro T 1 (k [] J acQ Z8 (A'.c · (rO r21 7) m21 (rO df 0) gu) (λv7 Z8=>ro T 3 (am _ [0,5,0,0,0,2,0,0] (oi Z8) J J)))))
   refine ro T 9 (am _ [0,5,0,0,0,2,0,0] (oi Z8) J J)
  refine ro T 17 (am _ [0,5,0,0,0,2,0,0] (oi Z8) J J)
 rintro _ x5 rfl H;refine cb J H (λH=>?_) (λH=>?_)
 ·refine rc T 6 (kr (my.R bg 173 [(pp b7),(ll dF x3 n13),(uu s.count.bn),(uu s.count.bB),(uu s.count.bz)] [(uu s.count.bE),(uu s.count.bC)]) [] [1] J JE H (my.c (pre_count:=[(pp b7),(ll dF x3 n13),(uu s.count.bn),(uu s.count.bB),(uu s.count.bz)]) (post_count:=[(uu s.count.bE),(uu s.count.bC)]) ·) (λv8 H=>?_));rintro _ _ ⟨rfl,rfl⟩;refine fz J (ro T 7 ?_);obtain⟨_,w28,⟨a25,n25,a26,n26,IG,n27,⟨r25,m25⟩,⟨r26,m26⟩,⟨r27,m27⟩,rfl⟩⟩:=lz.view dn.r c7;refine br J (fQ T (cs:=[(ll a26 (rd x3 v2.1).field.fe n26),(ll IG (rd x3 v2.1).field.cy n27)]) J J J J J J (Of (j:=4) J w28 vh 2 J)) (kr tq.R [] [] J Tb H (tq.c · (rO r26 4) m26 (rO r27 4) m27) (λv9 H=>?_));rintro _ _ ⟨yy,n29,rh,yz,n30,pL,qO,nM,rfl,rfl⟩;refine fz J (sg T 6 J (ro T 5 ?_))
  cases H;refine gn [7,1,1,1,1] J (pb T J (.cK (j:=2) [(ll yy v9.fe n29),(ll yz v9.cy n30)] J J J J J J J (.tmp J .nil)) [3,3,3,0] ⟨(_,_),yy,n29,rh,yz,n30,pL,(List.flatten [(cl bg 173 [(pp b7),(ll dF x3 n13),(uu s.count.bn),(uu s.count.bB),(uu s.count.bz),(uu v8),(uu s.count.bE),(uu s.count.bC)]),(cl b7 238 [(ii v2.2.2.2.k),(ll dt v2.2.2.2.ak n11),(.map (some a12)),(ii v2.2.2.2.cz),(ii v2.2.2.2.dg)]),cA,dz,eI]),qO,nM,(show sb (jl.mk v2.2.2.2 x3 (fP.mk s.count.bn s.count.bB s.count.bz v8 s.count.bE s.count.bC)) bg (List.flatten [(cl bg 173 [(pp b7),(ll dF x3 n13),(uu s.count.bn),(uu s.count.bB),(uu s.count.bz),(uu v8),(uu s.count.bE),(uu s.count.bC)]),(cl b7 238 [(ii v2.2.2.2.k),(ll dt v2.2.2.2.ak n11),(.map (some a12)),(ii v2.2.2.2.cz),(ii v2.2.2.2.dg)]),cA,dz,eI]) from⟨b7,dt,n11,cA,a12,dz,dF,n13,eI,dh,dJ,dn,J⟩),J,J⟩ J J)
 refine rc T 2 (mq H [0,3,5,10,12,16,17] [0,1,1,1,1,1,1] (λlO (aN:Int)=>(aN=lO,[],[(cl bg 173 [(pp b7),(ll dF x3 n13),(uu s.count.bn),(uu s.count.bB),(uu s.count.bz),(uu s.count.bx),(uu aN),(uu s.count.bC)])])) J J (λlO dj _=>?_) ?_)
 ·refine rc T 5 (cb J dj (λdj=>?_) (λdj=>?_))
  ·refine rc T 5 (kr (my.R bg 173 [(pp b7),(ll dF x3 n13),(uu s.count.bn),(uu s.count.bB),(uu s.count.bz),(uu s.count.bx)] [(uu s.count.bC)]) [] [1] J JE dj (my.c (pre_count:=[(pp b7),(ll dF x3 n13),(uu s.count.bn),(uu s.count.bB),(uu s.count.bz),(uu s.count.bx)]) (post_count:=[(uu s.count.bC)]) ·) (λv12 dj=>?_));rintro _ _ ⟨rfl,rfl⟩;refine fz J (ro T 2 (am _ [0,0,0,0,0,0,0,0] (oi dj) J J))
  refine rc T 2 (am _ [0,1,1,1,1,1,1,0] (oi dj) J J)
 rintro _ aN rfl H;refine mq H [0,3,5,10,12,17] [0,0,0,0,0,0,0] (λIl (aU:Int)=>(aU=Il,[],[(cl bg 173 [(pp b7),(ll dF x3 n13),(uu s.count.bn),(uu s.count.bB),(uu s.count.bz),(uu s.count.bx),(uu aN),(uu aU)])])) J J (λIl kL _=>?_) ?_
 ·refine rc T 5 (cb J kL (λkL=>?_) (λkL=>?_))
  ·refine rc T 5 (kr (my.R bg 173 [(pp b7),(ll dF x3 n13),(uu s.count.bn),(uu s.count.bB),(uu s.count.bz),(uu s.count.bx),(uu aN)] []) [] [7] J JE kL (my.c (pre_count:=[(pp b7),(ll dF x3 n13),(uu s.count.bn),(uu s.count.bB),(uu s.count.bz),(uu s.count.bx),(uu aN)]) (post_count:=[]) ·) (λcS kL=>?_));rintro _ _ ⟨rfl,rfl⟩;refine fz J (ro T 2 (am _ [0,0,0,0,0,0,0,0] (oi kL) J J))
  refine rc T 2 (am _ [0,0,0,0,0,0,0,0] (oi kL) J J)
 rintro _ aU rfl H;refine rc T 6 (kr (my.R bg 173 [(pp b7),(ll dF x3 n13),(uu s.count.bn),(uu s.count.bB)] [(uu s.count.bx),(uu aN),(uu aU)]) [] [7] J JE H (my.c (pre_count:=[(pp b7),(ll dF x3 n13),(uu s.count.bn),(uu s.count.bB)]) (post_count:=[(uu s.count.bx),(uu aN),(uu aU)]) ·) (λbR H=>?_));rintro _ _ ⟨rfl,rfl⟩;refine fz J (ro T 4 (lm T 5 J (ro T 1 (kr nR.R [] [] J acR H (nR.c · (rO dR 0) fi (rO df 0) gu) (λv17 H=>?_)))));rintro _ _ ⟨a31,n31,Bv,a32,n32,zP,zu,s_,rfl,rfl⟩;refine fz J (ro T 3 (nc T J (λb33=>sg T 10 J (ro T 4 (ke [3,5,12,17,18] [0,0,0,0,0,1,1,1,1,1] J J (fz J (rg [7] [0,0,0,0,0,0,0,0,0,0] mix (bP bO) (λhg pf=>ha T 5 [0,1,2] sz hg pf J (av 4 sz hg pf J (gA T 9 J J J J J J J) (ao 3 (kR rS.R [] [] J Tc H (rS.c · (rO df 0) gu) (λfG H=>?_))))))))))));rintro _ _ ⟨E_,n34,tJ,uC,rfl,rfl⟩;refine fz J (an (so [0,0,0,0,0,0,0,0,0,0]) (ha T 1 [5,6] (so [0,0,0,0,0,0,0,0,0,0]) hg pf J (ao 7 (LY (j:=4) J dn c7 (λ_ _ zS Vx A7=>?_)))));obtain⟨a35,n35,zQ,zY,n36,zR,a37,n37,EX,A6,C0,C1,rfl,rfl⟩:=Vx;refine L1 (LZ T 4 0 [(ii version),(ll E_ fG n34),(ll a31 v17.1.fe n31),(ll a32 v17.1.cy n32)] J J J J J J A7 vh J J J J (λLw A8=>an sl (ae (rx T 3 (lm T 9 J (kr tq.R [] [] J Tb H (tq.c · (oO zu 7) zu.bY (oO s_ 8) s_.bY) (λnU H=>?_)))))));rintro _ _ ⟨a40,n40,Lx,a41,n41,EY,Ey,zv,rfl,rfl⟩;refine fz J (sg T 5 J (ro T 2 (gn [10,7,7] J (LX (j:=4) (q:=13) (qe.mk version fG v17.1) J A8 J J ⟨E_,n34,tJ,a31,n31,Bv,a32,n32,zP,uC,zu,s_,J,J⟩ (λgm qP=>kg [12,13] [0,0,0,0,0,0,5,5] [0,0,0,0,0,0,5,5,0] [] [(cl bg 173 [(pp b7),(ll dF (List.set x3 (Int.toNat v2.1) (qe.mk version fG v17.1)) n13),(uu s.count.bn),(uu s.count.bB),(uu bR),(uu s.count.bx),(uu aN),(uu aU)])] J J trivial (by first |rfl |(simp only[ll,List.length_set];rfl)) (rx T 2 ?_))))))
 cases H;refine gn [8,1,1,1,1] J (pb T J (.cK (j:=1) [(ll a40 nU.fe n40),(ll a41 nU.cy n41)] J J J J J J J (.tmp J .nil)) [2,2,2,0] ⟨(_,_),a40,n40,Lx,a41,n41,EY,(List.flatten [(cl bg 173 [(pp b7),(ll dF (List.set x3 (Int.toNat v2.1) (qe.mk version fG v17.1)) n13),(uu s.count.bn),(uu s.count.bB),(uu bR),(uu s.count.bx),(uu aN),(uu aU)]),(cl b7 238 [(ii v2.2.2.2.k),(ll dt v2.2.2.2.ak n11),(.map (some a12)),(ii v2.2.2.2.cz),(ii v2.2.2.2.dg)]),cA,dz,gm]),Ey,zv,(show sb (jl.mk v2.2.2.2 (List.set x3 (Int.toNat v2.1) (qe.mk version fG v17.1)) (fP.mk s.count.bn s.count.bB bR s.count.bx aN aU)) bg (List.flatten [(cl bg 173 [(pp b7),(ll dF (List.set x3 (Int.toNat v2.1) (qe.mk version fG v17.1)) n13),(uu s.count.bn),(uu s.count.bB),(uu bR),(uu s.count.bx),(uu aN),(uu aU)]),(cl b7 238 [(ii v2.2.2.2.k),(ll dt v2.2.2.2.ak n11),(.map (some a12)),(ii v2.2.2.2.cz),(ii v2.2.2.2.dg)]),cA,dz,gm]) from⟨b7,dt,n11,cA,a12,dz,dF,n13,gm,dh,dJ,qP,J⟩),J,J⟩ J J)
end
end Go.Proofs.YthodkonhneebbaaGreatDoor
