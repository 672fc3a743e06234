/- What the functions of some packages compute, each as a function of plain Lean, with its contract. No condition. -/
import Derived.Test.YthodkonhneebbaaGreatDoorKWT
import Derived.Test.YthodkonhneebbaaGreatDoorKW7
import Derived.Test.YthodkonhneebbaaGreatDoorKW8
import Derived.Test.YthodkonhneebbaaGreatDoorKW10
import Derived.Test.YthodkonhneebbaaGreatDoorKW6
import Derived.Test.YthodkonhneebbaaGreatDoorKW5
namespace Go.Proofs.YthodkonhneebbaaGreatDoor
open Go.Hx
set_option maxRecDepth 100000
set_option linter.unusedSimpArgs false
set_option linter.unusedVariables false
set_option maxHeartbeats 4000000
set_option autoImplicit true
set_option relaxedAutoImplicit true
noncomputable section
def Hu.f:Option Int:=some 0
theorem Hu.c (H:Hu.f=some r):
 QU 108 [(.pointer none)] [] F (uu r):=by
 unfold Hu.f at H;refine aG Tryz.func108 J J (λW=>rc T 12 (ov J (rc T 7 ?_)))
 cases H;exact p0 T J [0] J
def Hv.f (ag:kc) (jV:dJ) (fa:bA):Option Int:=some ag.count
theorem Hv.c (H:Hv.f ag jV fa=some r) (cM:tN ag aY lY jR df) (zC:mO jV lY jR oR) (pK:iF fa jR mm):
 QU 108 [(pp aY)] [df,oR,mm] F (uu r):=by
 unfold Hv.f at H;refine aG Tryz.func108 J J (λW=>rc T 12 (eY J (rc T 3 ?_)));obtain⟨Br,H7,s7,kY⟩:=(λx=>x) cM;refine bS 0 (congrArg some kY) (fz J (rc T 4 (lf T 3 J (ro T 4 ?_))))
 cases H;refine dr [3,3] J kY (p0 T J [3,0,0,0] J)
def tc.f (m:dJ) (g:bA):Option (Option kc):=some (some (kc.mk none 0))
def tc.R (w0:Nat) (w1:Nat) (r:(Option kc)):bm:=λu G=> ∃(u0:Value) (G0:List Hp),X4 w0 w1 r u0 G0/\u=u0/\G=G0
theorem tc.c (H:tc.f m g=some r) (rU:mO m iH fg nn) (fN:iF g fg gm):
 QR 151 [(pp iH),(pp fg)] [nn,gm] [nn,gm] F (tc.R iH fg r):=by
 unfold tc.f at H;refine aG Tryz.func151 J J (λW=>rc T 16 (eY J (rc T 7 (nc T J (λb3=>ro T 4 ?_)))))
 cases H;refine bC (gw [3,3] J (p1 T J [3,0,0,0] ⟨_,_,⟨b3,(List.flatten [(cl b3 233 [(pp iH),(pp fg),(.pointer none),(uu 0)]),[]]),(show tN (kc.mk none 0) b3 iH fg (List.flatten [(cl b3 233 [(pp iH),(pp fg),(.pointer none),(uu 0)]),[]]) from⟨(.pointer none),[],(show Lu none iH fg (.pointer none) [] from⟨J,J⟩),J⟩),J,J⟩,J,J⟩ J))
def Hw.f:Option Unit:=some ()
theorem Hw.c (H:Hw.f=some r):
 QU 118 [(.pointer none)] [] F (.tuple #[]):=by
 unfold Hw.f at H;refine aG Tryz.func118 J J (λW=>rc T 6 (eY J (rc T 1 (jf ?_))))
 cases H;exact p0 T J [0] J
def A6.f (ag:kc) (jV:dJ) (fa:bA):Option kc:=some (kc.mk none ag.count)
def A6.R (nz:Nat) (Oi:Nat) (Oj:Nat) (r:kc):bm:=λu G=> ∃(H0:Hp),tN r nz Oi Oj H0/\u=(.tuple #[])/\G=[H0]
theorem A6.c (H:A6.f ag jV fa=some r) (cM:tN ag aY lY jR df) (zC:mO jV lY jR oR) (pK:iF fa jR mm):
 QR 118 [(pp aY)] [df,oR,mm] [oR,mm] F (A6.R aY lY jR r):=by
 unfold A6.f at H;refine aG Tryz.func118 J J (λW=>rc T 6 (ov J ?_));obtain⟨Br,H7,s7,kY⟩:=(λx=>x) cM;refine bS 0 (congrArg some kY) (fz J (rc T 4 (sg T 3 J (ro T 1 (jf ?_)))))
 cases H;refine bC (gw [3,4] J (p1 T J [4,0,0,0] ⟨(List.flatten [(cl aY 233 [(pp lY),(pp jR),(.pointer none),(uu ag.count)]),[]]),(show tN (kc.mk none ag.count) aY lY jR (List.flatten [(cl aY 233 [(pp lY),(pp jR),(.pointer none),(uu ag.count)]),[]]) from⟨(.pointer none),[],(show Lu none lY jR (.pointer none) [] from⟨J,J⟩),J⟩),J,J⟩ J))
def jr.l1:Nat->Int->bA->(Int×Int)->(List (Int×Int))->Int->Int->List dO->Int->Option ((List (Int×Int))×(List dO))
 |0,_,_,_,_,_,_,_,_=>none
 |py+1,goal,fa,v1,bd,bf,aS,bX,eh=>if eh<=3 then((mh.f v1.1 v1.2 bf eh).bind λv25=>(if v25<0 then(some true) else((gN.f v1.1 v1.2 v25).bind λv28=>(gN.f v1.1 v1.2 goal).bind λq_=>if(v28 !=q_)=true then(some true) else((jh.f fa v25).bind λv30=>some (v30==255)))).bind λj5=>if j5=true then(jr.l1 py goal fa v1 bd bf aS bX (aa (eh+1))) else((jh.f fa bf).bind λv31=>(nJ.f (eT.mk bX) (aa (aS+v31)) v25).bind λv32=>jr.l1 py goal fa v1 bd bf aS v32.l (aa (eh+1)))) else(some ((cE bd bf aS),bX))
def jr.l0:Nat->Int->bA->(Int×Int)->(List (Int×Int))->List dO->Int->Int->Bool->Option (List (Int×Int))
 |0,_,_,_,_,_,_,_,_=>none
 |ze+1,goal,fa,v1,bd,bg,aS,bf,cm=>if cm=true then((if(bO bd bf)=true then(some (bd,bg)) else(jr.l1 fuel goal fa v1 bd bf aS bg 0)).bind λ(cZ,dw)=>(nI.f (eT.mk dw)).bind λv33=>jr.l0 ze goal fa v1 cZ v33.2.2.2.l v33.1 v33.2.1 v33.2.2.1) else(some bd)
def jr.f (ag:kc) (goal:Int) (jV:dJ) (fa:bA):Option (List (Int×Int)):=(iJ.f fa).bind λv1=>(jh.f fa goal).bind λv2=>if(v2==255)=true then(some ([]:(List (Int×Int)))) else((vu.f).bind λv3=>du v3 (none) (λtK=>(nJ.f tK 0 goal).bind λv4=>(nI.f v4).bind λv5=>jr.l0 fuel goal fa v1 ([]:(List (Int×Int))) v5.2.2.2.l v5.1 v5.2.1 v5.2.2.1))
def jr.R (r:(List (Int×Int))):bm:=λu G=> ∃(a0:Nat) (H0:Hp),cQ (Ky.int .i64 u3) (λx:Int=>Value.int .i64 x) r a0 H0/\u=(.map (some a0))/\G=[H0]
theorem jr.c (H:jr.f ag goal jV fa=some r) (cM:tN ag aY lY jR df) (zC:mO jV lY jR oR) (pK:iF fa jR mm):
 QR 214 [(pp aY),(ii goal)] [df,oR,mm] [df,oR,mm] F (jr.R r):=by
 unfold jr.f at H;refine aG Tryz.func214 J J (λW=>rc T 6 ?_);obtain⟨Br,H7,s7,kY⟩:=(λx=>x) cM;refine bS 0 (congrArg some kY) (fz J (rc T 4 (lf T 3 J (k [1] J tZ H (iJ.c · pK) (λv1 H=>ro T 9 (aZ (uU T (Ky.int .i64 u3) (λx:Int=>Value.int .i64 x) J J J trivial (λa8 H8 s8=>ro T 9 (lf T 3 J (ro T 1 (k [1] J vn H (jh.c · pK) (λv2 H=>ro T 3 (cb J H (λH=>?_) (λH=>?_))))))))))))))
 ·refine rc T 8 ?_
  cases H;refine dr [3,3] J kY (p1 T J [3,3,0,0,0] ⟨a8,H8,s8,J,J⟩ J)
 refine rc T 4 (kr vu.R [] [] J Td H (vu.c ·) (λv3 H=>?_));rintro _ _ ⟨_,_,O5,rfl,rfl⟩;rcases v3 with _ |tK
 ·replace H:=fi J H
  cases H
 replace H:=fj J H;obtain⟨b9,cw,n10,bZ,bU,rfl,rfl⟩:=O5;refine ro T 7 (kr (nJ.R b9) [] [6,6] J JD H (nJ.c · bU) (λv4 H=>?_));rintro _ _ ⟨dA,n11,cB,dj,rfl,rfl⟩;refine fz J (ro T 1 (ks [0,1,5,6,7,8] J (rx T 5 (kr (nI.R b9) [] [6,6] J JE H (nI.c · dj) (λv5 H=>?_)))));rintro _ _ ⟨a12,n12,dz,dL,rfl,rfl⟩;refine fz J (ro T 10 (lq [0,1,5,6,8] [2,2,2,0,0] (λ(⟨ze,bd,bg,aS,bf,cm,jz,dP,j6,n16,gk⟩:Nat×(List (Int×Int))×List dO×Int×Int×Bool×Nat×Hp×Option Addr×Nat×Hp)=>(jr.l0 ze goal fa v1 bd bg aS bf cm=some r/\cQ (Ky.int .i64 u3) (λx:Int=>Value.int .i64 x) bd jz dP/\aj fL 359 bg j6 n16 gk,[(7,(.map (some jz))),(9,(ii aS)),(10,(ii bf)),(11,(bb cm))],[dP,(cl b9 357 [(ll j6 bg n16)]),gk])) J J (fuel,([]:(List (Int×Int))),v5.2.2.2.l,v5.1,v5.2.1,v5.2.2.1,a8,H8,a12,n12,dz) [2,2,2,0,0,0,0,0] ⟨H,s8,dL⟩ J J ?_));rintro ze ⟨bd,bg,aS,bf,cm,jz,dP,j6,n16,gk⟩ ⟨Z8,dV,gd⟩;rw[jr.l0] at Z8;refine rc T 6 (cb J Z8 (λZ8=>?_) (λZ8=>?_))
 ·refine rc T 2 (mq Z8 [0,1,5,6,8] [0,0,0,0,0] (λE6 (⟨cZ,dw,a17,eF,iU,n18,fe⟩:(List (Int×Int))×List dO×Nat×Hp×Option Addr×Nat×Hp)=>((cZ,dw)=E6/\cQ (Ky.int .i64 u3) (λx:Int=>Value.int .i64 x) cZ a17 eF/\aj fL 359 dw iU n18 fe,[(7,(.map (some a17)))],[eF,(cl b9 357 [(ll iU dw n18)]),fe])) J J (λE6 lX _=>?_) ?_)
  ·refine rc T 6 (bz J (p9 (k:=bf) T (Ky.int .i64 u3) (λx:Int=>Value.int .i64 x) J J J J J (oE dV (j:=5) J)) (ro T 12 (cb J lX (λlX=>?_) (λlX=>?_))))
   ·refine rc T 4 (am (_,_,_,_,_,_,_) [0,0,0,0,0,0,0,0] ⟨oi lX,dV,gd⟩ J J)
   refine rc T 7 (aZ (pU (g:=5) (m:=bd) (k:=bf) (v:=aS) T (Ky.int .i64 u3) (λx:Int=>Value.int .i64 x) J J J J J J J dV (λkn gp=>ro T 8 (lq [0,1,5,6,7,8,9,10] [0,0,0,0,0,0] (λ(⟨py,bX,eh,a21,n21,lC⟩:Nat×List dO×Int×Option Addr×Nat×Hp)=>(jr.l1 py goal fa v1 bd bf aS bX eh=some E6/\aj fL 359 bX a21 n21 lC,[(14,(ii eh))],[(cl b9 357 [(ll a21 bX n21)]),lC])) J J (fuel,bg,0,j6,n16,gk) [0,0,0,0,0,0,0,0] ⟨lX,gd⟩ J J ?_))));rintro py ⟨bX,eh,a21,n21,lC⟩ ⟨bx,jY⟩;rw[jr.l1] at bx;refine rc T 7 (cd J bx (λbx=>?_) (λbx=>?_))
   ·refine rc T 10 (k [] J AA bx (mh.c ·) (λv25 bx=>ro T 4 (mq bx [0,1,5,6,7,8,9,10,14,15] [0,0,0,0,0,0,0,0] (λXD (j5:Bool)=>(j5=XD,[(90,(bb j5))],[])) J J (λXD dp _=>?_) ?_)))
    ·refine rc T 4 (ad 71 J dp (λdp=>?_) (λdp=>?_))
     ·refine ro T 21 (am _ [0,0,0,0,0,0,0,0] (oi dp) J J)
     refine ro T 3 (k [] J rI dp (gN.c ·) (λv28 dp=>ro T 3 (k [] J rI dp (gN.c ·) (λq_ dp=>ro T 3 (ab 82 J dp (λdp=>?_) (λdp=>?_))))))
     ·refine ro T 10 (am _ [0,0,0,0,0,0,0,0] (oi dp) J J)
     refine ro T 3 (lf T 1 J (ro T 1 (k [4] J vn dp (jh.c · pK) (λv30 dp=>ro T 4 (am _ [0,0,0,0,0,0,0,0] (oi dp) J J)))))
    rintro _ j5 rfl bx;refine cb J bx (λbx=>?_) (λbx=>?_)
    ·refine rc T 10 (ar (_,_,_,_,_) [0,0,0,0,0,0,0,0] ⟨bx,jY⟩ J J)
    refine rc T 8 (lf T 1 J (ro T 1 (k [4] J vn bx (jh.c · pK) (λv31 bx=>ro T 2 (kr (nJ.R b9) [] [6,6] J JD bx (nJ.c (h:=(eT.mk bX)) · jY) (λv32 bx=>?_))))));rintro _ _ ⟨a22,n22,mN,iO,rfl,rfl⟩;refine fz J (ro T 9 (ar (_,_,_,_,_) [0,0,0,0,0,0,0,0] ⟨bx,iO⟩ J J))
   refine rc T 6 (am (_,_,_,_,_,_,_) [0,0,0,0,0,0,0,0] ⟨oi bx,gp,jY⟩ J J)
  rintro _ ⟨cZ,dw,a17,eF,iU,n18,fe⟩ ⟨rfl,fq,ft⟩ Z8;refine rc T 2 (kr (nI.R b9) [] [6,6] J JE Z8 (nI.c (h:=(eT.mk dw)) · ft) (λv33 Z8=>?_));rintro _ _ ⟨a23,n23,jQ,g_,rfl,rfl⟩;refine fz J (ro T 9 (ar (_,_,_,_,_,_,_,_,_,_) [0,0,0,0,0,0,0,0] ⟨Z8,fq,g_⟩ J J))
 refine rc T 12 ?_
 cases Z8;refine dr [1,1] J kY (p1 T J [3,5,1,1,0] ⟨jz,dP,dV,J,J⟩ J)
def tf.f (ag:gZ) (node:Int) (key:Int):Option (Bool×gZ):=if(0<=node/\node<(List.length ag.aP:Int)) then(if key≥(aa (rd ag.aP node)) then(some (false,ag)) else(some (true,(gZ.mk ag.goal ag.bN (List.set ag.aP (Int.toNat node) (IntKind.i32.wrap key)))))) else none
def tf.R (aY:Nat) (r:(Bool×gZ)):bm:=λu G=> ∃a0 n0 H0,aj (Fl.int .i32) 21 r.2.aP a0 n0 H0/\u=(bb r.1)/\G=[(cl aY 235 [(ii r.2.goal),(ii r.2.bN),(ll a0 r.2.aP n0)]),H0]
theorem tf.c (H:tf.f ag node key=some r) (wc:aj (Fl.int .i32) 21 ag.aP wL xv zV):
 QR 216 [(pp aY),(ii node),(ii key)] [(cl aY 235 [(ii ag.goal),(ii ag.bN),(ll wL ag.aP xv)]),zV] [] F (tf.R aY r):=by
 unfold tf.f at H;refine aG Tryz.func216 J J (λW=>rc T 12 (lf T 0 J (ro T 1 ?_)));obtain⟨c1,H⟩:=aA H;obtain⟨q3,o3,e3⟩:=wc.r.addr c1.1 c1.2;refine ix T J e3 c1 (le T 0 (oO wc 1) e3 c1 J J (ro T 4 (cd J H (λH=>?_) (λH=>?_))))
 ·refine rc T 7 ?_
  cases H;exact p1 T J [0,0,0] ⟨wL,xv,zV,wc,J,J⟩ J
 refine rc T 7 (lf T 0 J (ro T 3 (ix T J e3 c1 (aZ (kU (k:=(Fl.int .i32)) T 1 0 (IntKind.i32.wrap key) J J J J J J wc e3 c1 J J J (λH4 s4=>kg [] [1,1] [1,1,0] [] [(cl aY 235 [(ii ag.goal),(ii ag.bN),(ll wL (List.set ag.aP (Int.toNat node) (IntKind.i32.wrap key)) xv)])] J J trivial dN (ro T 8 ?_)))))))
 cases H;exact p1 T J [2,0,0] ⟨wL,xv,H4,s4,J,J⟩ J
def f_.l2:Nat->Int->Int->(List ek)->Int->Int->List Int->List dO->Int->Option (Int×Int×(List Int)×(List dO))
 |0,_,_,_,_,_,_,_,_=>none
 |GP+1,goal,fI,r8,Dq,Dr,Bu,zO,ri=>if ri<(List.length r8:Int) then(if(0<=ri/\ri<(List.length r8:Int)) then((tf.f (gZ.mk Dq Dr Bu) ((rd r8 ri).To) (aa (fI+(rd r8 ri).kS))).bind λv64=>if v64.1=true then((nJ.f (eT.mk zO) (aa (fI+(rd r8 ri).kS)) ((rd r8 ri).To)).bind λXx=>f_.l2 GP goal fI r8 v64.2.goal v64.2.bN v64.2.aP Xx.l (aa (ri+1))) else(f_.l2 GP goal fI r8 v64.2.goal v64.2.bN v64.2.aP zO (aa (ri+1)))) else none) else(some (Dq,Dr,Bu,zO))
def f_.l1:Nat->Int->dJ->bA->Int->Int->List Int->List dO->Int->Int->Bool->Option (Option gZ)
 |0,_,_,_,_,_,_,_,_,_,_=>none
 |xm+1,goal,jV,fa,iQ,gu,hJ,iR,fI,iS,iu=>if iu=true then((if(0<=iS/\iS<(List.length hJ:Int)) then(if fI>(aa (rd hJ iS)) then(some (iQ,gu,hJ,iR)) else((gX.f jV iS fa).bind λr8=>f_.l2 fuel goal fI r8 iQ gu hJ iR 0)) else none).bind λ(Ic,Ie,E4,Dp)=>(nI.f (eT.mk Dp)).bind λv66=>f_.l1 xm goal jV fa Ic Ie E4 v66.2.2.2.l v66.1 v66.2.1 v66.2.2.1) else(some (some (gZ.mk iQ gu hJ)))
def f_.l0:Nat->Int->dJ->bA->(List (Int×Int))->(List Int)->Int->Int->List Int->List dO->Int->Option (Option gZ)
 |0,_,_,_,_,_,_,_,_,_,_=>none
 |Ka+1,goal,jV,fa,v5,v7,aS,bf,cm,dR,cZ=>if cZ<(List.length v7:Int) then((if(0<=cZ/\cZ<(List.length v7:Int)) then((if(bO v5 (rd v7 cZ))=true then((tf.f (gZ.mk aS bf cm) (rd v7 cZ) (aQ v5 (rd v7 cZ))).bind λq_=>some (q_.2.goal,q_.2.bN,q_.2.aP,q_.1)) else(some (aS,bf,cm,false))).bind λ(mi,lS,j5,mj)=>if mj=true then((nJ.f (eT.mk dR) (aQ v5 (rd v7 cZ)) (rd v7 cZ)).bind λv30=>some (mi,lS,j5,v30.l)) else(some (mi,lS,j5,dR))) else none).bind λ(dC,lA,dM,bX)=>f_.l0 Ka goal jV fa v5 v7 dC lA dM bX (aa (cZ+1))) else((nI.f (eT.mk dR)).bind λv31=>f_.l1 fuel goal jV fa aS bf cm v31.2.2.2.l v31.1 v31.2.1 v31.2.2.1)
def f_.f (ag:kc) (goal:Int) (jV:dJ) (fa:bA):Option (Option gZ):=(iJ.f fa).bind λv1=>(pk.f fa).bind λv2=>(pN.f [2147483647] (aa (v1.1*v1.2))).bind λv3=>(vu.f).bind λv4=>du v4 (none) (λwB=>(jr.f ag goal jV fa).bind λv5=>(gN.f v1.1 v1.2 goal).bind λv6=>(xu.f jV v6 fa).bind λv7=>f_.l0 fuel goal jV fa v5 v7 goal v2 v3 wB.l 0)
def f_.R (r:(Option gZ)):bm:=λu G=> ∃(u0:Value) (G0:List Hp),X5 r u0 G0/\u=u0/\G=G0
theorem f_.c (H:f_.f ag goal jV fa=some r) (cM:tN ag aY lY jR df) (zC:mO jV lY jR oR) (pK:iF fa jR mm):
 QR 182 [(pp aY),(ii goal)] [df,oR,mm] [df,oR,mm] F (f_.R r):=by
 unfold f_.f at H;refine aG Tryz.func182 J J (λW=>rc T 6 ?_);obtain⟨Br,H7,s7,kY⟩:=(λx=>x) cM;refine bS 0 (congrArg some kY) (fz J (rc T 4 (lf T 3 J (k [1] J tZ H (iJ.c · pK) (λv1 H=>ro T 13 (lf T 3 J (k [1] J B6 H (pk.c · pK) (λv2 H=>aZ (cV (k:=(Fl.int .i32)) T [2147483647] J J J J J J J J J (λa8 H8 s8=>ro T 3 (kr pN.R [] [] J ac5 H (pN.c · (oO s8 5) s8.bW) (λv3 H=>?_))))))))))));rintro _ _ ⟨a9,n9,H9,s9,rfl,rfl⟩;refine fz J (ro T 1 (nc T J (λfR=>ro T 5 (kr vu.R [] [] J Td H (vu.c ·) (λv4 H=>?_)))));rintro _ _ ⟨_,_,O5,rfl,rfl⟩;rcases v4 with _ |wB
 ·replace H:=fi J H
  cases H
 replace H:=fj J H;obtain⟨jC,a12,n12,dz,dL,rfl,rfl⟩:=O5;refine ro T 7 ?_;obtain⟨v5,V6,H⟩:=gx H;refine aZ (FB (As:=[(cl aY 233 [(pp lY),(pp jR),Br,(uu ag.count)]),H7,oR,mm]) (jr.R v5) [(cl aY 233 [(pp lY),(pp jR),Br,(uu ag.count)]),H7,oR,mm] [3,3,0,0] J J J J ac6 J J (I_ (A:=[df,oR,mm]) (A2:=[df,oR,mm]) (by simp only[kY,List.flatten_cons,List.flatten_append,List.flatten_nil,List.append_nil,List.append_assoc]) (by simp only[kY,List.flatten_cons,List.flatten_append,List.flatten_nil,List.append_nil,List.append_assoc]) (jr.c V6 cM zC pK)) ?_)
 rintro _ _ ⟨dH,eJ,dm,rfl,rfl⟩;refine fz J (ro T 2 (ke [0,1,5,6,7,8,9] [0,1,1,1,1,1,1,1,1,1] J J (rx T 3 (fz J (rg [] [0,0,0,0,0,0,0,0,0,0] mix (bM bL) (λhg pf=>ha T 8 [0,1,2] sz hg pf J (av 3 sz hg pf J (aw T J J J J (aI (j:=6) J J)) (ha T 3 [4,5,6,10] sz hg pf J (ao 7 (kh [] J rI H (gN.c ·) (λv6 H=>an sz (ao 8 (kR xu.R [8,8] [8,8] J ac7 H (xu.c · zC pK) (λv7 H=>?_))))))))))))));rintro _ _ ⟨iT,n14,fV,gC,rfl,rfl⟩;refine fz J (an (so [0,0,0,0,0,0,0,0,1,1]) (ha T 0 [9] (so [0,0,0,0,0,0,0,0,1,1]) hg pf J (ae (rx T 2 (lq [0,7,8,9,52,53] [0,5,5,6,6,4,4] (λ(⟨Ka,aS,bf,cm,dR,cZ,a17,n17,eF,iU,n18,fe⟩:Nat×Int×Int×List Int×List dO×Int×Option Addr×Nat×Hp×Option Addr×Nat×Hp)=>(f_.l0 Ka goal jV fa v5 v7 aS bf cm dR cZ=some r/\aj (Fl.int .i32) 21 cm a17 n17 eF/\aj fL 359 dR iU n18 fe,[(54,(ii cZ))],[(cl fR 235 [(ii aS),(ii bf),(ll a17 cm n17)]),eF,(cl jC 357 [(ll iU dR n18)]),fe])) J J (fuel,goal,v2,v3,wB.l,0,a9,n9,H9,a12,n12,dz) [0,5,5,6,6,4,4,1,0,0,0] ⟨H,s9,dL⟩ J J ?_)))));rintro Ka ⟨aS,bf,cm,dR,cZ,a17,n17,eF,iU,n18,fe⟩ ⟨Z9,fq,ft⟩;rw[f_.l0] at Z9;refine rc T 6 (cd J Z9 (λZ9=>?_) (λZ9=>?_))
 ·refine rc T 2 (mq Z9 [0,7,8,9,52,53,54] [0,0,0,0,0,0,0] (λz23 (⟨dC,lA,dM,bX,mr,n19,kn,a20,n20,oh⟩:Int×Int×List Int×List dO×Option Addr×Nat×Hp×Option Addr×Nat×Hp)=>((dC,lA,dM,bX)=z23/\aj (Fl.int .i32) 21 dM mr n19 kn/\aj fL 359 bX a20 n20 oh,[],[(cl fR 235 [(ii dC),(ii lA),(ll mr dM n19)]),kn,(cl jC 357 [(ll a20 bX n20)]),oh])) J J (λz23 aW _=>?_) ?_)
  ·refine rc T 3 ?_;obtain⟨fW,aW⟩:=aA aW;obtain⟨CX,Vs,Av⟩:=gC.r.addr fW.1 fW.2;refine ix T J Av fW (le T 0 (oO gC 6) Av fW J J (ro T 7 (bz J (p9 (k:=(rd v7 cZ)) T (Ky.int .i64 u3) (λx:Int=>Value.int .i64 x) J J J J J (oE dm (j:=5) J)) (ro T 7 (mq aW [0,7,8,9,11,12,52,53,54] [0,0,0,0,0,4,4,0,0] (λz28 (⟨mi,lS,j5,mj,a22,n22,mN⟩:Int×Int×List Int×Bool×Option Addr×Nat×Hp)=>((mi,lS,j5,mj)=z28/\aj (Fl.int .i32) 21 j5 a22 n22 mN,[(70,(bb mj))],[(cl fR 235 [(ii mi),(ii lS),(ll a22 j5 n22)]),mN])) J J (λz28 nq _=>?_) ?_)))))
   ·refine rc T 3 (ab 65 J nq (λnq=>?_) (λnq=>?_))
    ·refine ro T 3 (kr (tf.R fR) [] [7,7] J Te nq (tf.c (ag:=(gZ.mk aS bf cm)) · fq) (λq_ nq=>?_));rintro _ _ ⟨a23,n23,jQ,g_,rfl,rfl⟩;refine fz J (ro T 3 (am (_,_,_,_,_,_,_) [0,0,0,0,0,2,2,0,0,0,0] ⟨oi nq,g_⟩ J J))
    refine ro T 7 (am (_,_,_,_,_,_,_) [0,0,0,0,0,4,4,0,0,0,0] ⟨oi nq,fq⟩ J J)
   rintro _ ⟨mi,lS,j5,mj,a22,n22,mN⟩ ⟨rfl,iO⟩ aW;refine cb J aW (λaW=>?_) (λaW=>?_)
   ·refine rc T 4 (kr (nJ.R jC) [] [5,5] J JD aW (nJ.c (h:=(eT.mk dR)) · ft) (λv30 aW=>?_));rintro _ _ ⟨a24,n24,qx,lO,rfl,rfl⟩;refine fz J (ro T 3 (am (_,_,_,_,_,_,_,_,_,_) [0,0,0,0,0,0,0,0,0,0,0] ⟨oi aW,iO,lO⟩ J J))
   refine rc T 3 (am (_,_,_,_,_,_,_,_,_,_) [0,0,0,0,0,2,2,2,2,0,0] ⟨oi aW,iO,ft⟩ J J)
  rintro _ ⟨dC,lA,dM,bX,mr,n19,kn,a20,n20,oh⟩ ⟨rfl,gp,me⟩ Z9;refine rc T 5 (ar (_,_,_,_,_,_,_,_,_,_,_) [0,0,0,0,0,0,0,0,0,0,0] ⟨Z9,gp,me⟩ J J)
 refine rc T 9 (kr (nI.R jC) [] [9,9] J JE Z9 (nI.c (h:=(eT.mk dR)) · ft) (λv31 Z9=>?_));rintro _ _ ⟨a25,n25,gS,jt,rfl,rfl⟩;refine fz J (ro T 10 (lq [0,7,8] [0,0,0,0,0] (λ(⟨xm,iQ,gu,hJ,iR,fI,iS,iu,a28,n28,uH,yr,n29,rk⟩:Nat×Int×Int×List Int×List dO×Int×Int×Bool×Option Addr×Nat×Hp×Option Addr×Nat×Hp)=>(f_.l1 xm goal jV fa iQ gu hJ iR fI iS iu=some r/\aj (Fl.int .i32) 21 hJ a28 n28 uH/\aj fL 359 iR yr n29 rk,[(14,(ii fI)),(15,(ii iS)),(16,(bb iu))],[(cl fR 235 [(ii iQ),(ii gu),(ll a28 hJ n28)]),uH,(cl jC 357 [(ll yr iR n29)]),rk])) J J (fuel,aS,bf,cm,v31.2.2.2.l,v31.1,v31.2.1,v31.2.2.1,a17,n17,eF,a25,n25,gS) [0,0,0,0,0,2,2,2,2] ⟨Z9,fq,jt⟩ J J ?_));rintro xm ⟨iQ,gu,hJ,iR,fI,iS,iu,a28,n28,uH,yr,n29,rk⟩ ⟨c_,ki,qQ⟩;rw[f_.l1] at c_;refine rc T 6 (cb J c_ (λc_=>?_) (λc_=>?_))
 ·refine rc T 2 (mq c_ [0,7,8] [0,0,0,0,0] (λz51 (⟨Ic,Ie,E4,Dp,BH,n30,rl,a31,n31,BB⟩:Int×Int×List Int×List dO×Option Addr×Nat×Hp×Option Addr×Nat×Hp)=>((Ic,Ie,E4,Dp)=z51/\aj (Fl.int .i32) 21 E4 BH n30 rl/\aj fL 359 Dp a31 n31 BB,[],[(cl fR 235 [(ii Ic),(ii Ie),(ll BH E4 n30)]),rl,(cl jC 357 [(ll a31 Dp n31)]),BB])) J J (λz51 ss _=>?_) ?_)
  ·refine rc T 8 (lf T 5 J (ro T 1 ?_));obtain⟨Ai,ss⟩:=aA ss;obtain⟨q32,o32,Rq⟩:=ki.r.addr Ai.1 Ai.2;refine ix T J Rq Ai (le T 0 (oO ki 6) Rq Ai J J (ro T 4 (cd J ss (λss=>?_) (λss=>?_))))
   ·refine rc T 4 (am (_,_,_,_,_,_,_,_,_,_) [0,0,0,0,0,0,0,0,0] ⟨oi ss,ki,qQ⟩ J J)
   refine rc T 7 (lf T 1 J (ro T 1 (kr gX.R [3,3] [3,3] J ac8 ss (gX.c · zC pK) (λr8 ss=>?_))));rintro _ _ ⟨a33,n33,Iy,vY,rfl,rfl⟩;refine fz J (ro T 5 (lq [0,7,8,14,104,105] [0,0,0,5,5,4] (λ(⟨GP,Dq,Dr,Bu,zO,ri,z_,n36,zT,a37,n37,E_⟩:Nat×Int×Int×List Int×List dO×Int×Option Addr×Nat×Hp×Option Addr×Nat×Hp)=>(f_.l2 GP goal fI r8 Dq Dr Bu zO ri=some z51/\aj (Fl.int .i32) 21 Bu z_ n36 zT/\aj fL 359 zO a37 n37 E_,[(106,(ii ri))],[(cl fR 235 [(ii Dq),(ii Dr),(ll z_ Bu n36)]),zT,(cl jC 357 [(ll a37 zO n37)]),E_])) J J (fuel,iQ,gu,hJ,iR,0,a28,n28,uH,yr,n29,rk) [0,0,0,5,5,4,0,0,0,0] ⟨ss,ki,qQ⟩ J J ?_));rintro GP ⟨Dq,Dr,Bu,zO,ri,z_,n36,zT,a37,n37,E_⟩ ⟨kT,C3,C4⟩;rw[f_.l2] at kT;refine rc T 6 (cd J kT (λkT=>?_) (λkT=>?_))
   ·refine rc T 6 ?_;obtain⟨I7,kT⟩:=aA kT;obtain⟨q38,Vt,Rr⟩:=vY.r.addr I7.1 I7.2;refine ix T J Rr I7 (bz J (fX T (cs:=[(ii (rd r8 ri).To),(ii (rd r8 ri).kS)]) J J J J J J (ig (k:=pz) (oO vY 5) Rr I7 J)) (nc T J (λb39=>sg T 10 J (ro T 6 (lf T 10 J (ro T 2 (lf T 10 J (ro T 1 (kr (tf.R fR) [] [6,6] J Te kT (tf.c (ag:=(gZ.mk Dq Dr Bu)) · C3) (λv64 kT=>?_))))))))));rintro _ _ ⟨a40,n40,Lr,EG,rfl,rfl⟩;refine fz J (ro T 2 (cb J kT (λkT=>?_) (λkT=>?_)))
    ·refine rc T 4 (lf T 8 J (ro T 2 (lf T 8 J (kr (nJ.R jC) [] [6,6] J JD kT (nJ.c (h:=(eT.mk zO)) · C4) (λXx kT=>?_)))));rintro _ _ ⟨a41,n41,Fa,zA,rfl,rfl⟩;refine fz J (ro T 1 (ke [0,7,8,14,104,105,106] [0,0,0,0,0,0,1,1,1,1] J J (rx T 7 (ar (_,_,_,_,_,_,_,_,_,_,_) [0,0,0,0,0,0,0,0,0,0] ⟨kT,EG,zA⟩ J J))))
    refine rc T 8 (ar (_,_,_,_,_,_,_,_,_,_,_) [0,0,0,0,0,0,3,3,0,0] ⟨kT,EG,C4⟩ J J)
   refine rc T 6 (am (_,_,_,_,_,_,_,_,_,_) [0,0,0,0,0,1,1,1,1] ⟨oi kT,C3,C4⟩ J J)
  rintro _ ⟨Ic,Ie,E4,Dp,BH,n30,rl,a31,n31,BB⟩ ⟨rfl,pH,zx⟩ c_;refine rc T 2 (kr (nI.R jC) [] [7,7] J JE c_ (nI.c (h:=(eT.mk Dp)) · zx) (λv66 c_=>?_));rintro _ _ ⟨a42,n42,lD,Pg,rfl,rfl⟩;refine fz J (ro T 9 (ar (_,_,_,_,_,_,_,_,_,_,_,_,_) [0,0,0,0,0,0,0,0,0] ⟨c_,pH,Pg⟩ J J))
 refine rc T 12 ?_
 cases c_;refine dr [1,1] J kY (p1 T J [3,3,5,1,1,0] ⟨_,_,⟨fR,a28,n28,uH,ki,J,J⟩,J,J⟩ J)
def xJ.f (ag:kc) (goal:Int) (jV:dJ) (fa:bA):Option ((Option gZ)×kc×dJ):=(jh.f fa goal).bind λv1=>if(v1==0)=true then(some (none,ag,jV)) else((nP.f jV fa).bind λv2=>(du ag.kept (some true) (λx5=>if(x5.goal !=goal)=true then(some true) else((pk.f fa).bind λv6=>some (x5.bN !=v6)))).bind λx3=>if x3=true then((f_.f ag goal v2.2 fa).bind λv7=>du v7 (none) (λrj=>(rZ.f ag.count 1).bind λv8=>some ((some rj),(kc.mk (some rj) v8),v2.2))) else(du ag.kept (some (none,ag,v2.2)) (λx9=>some ((some x9),ag,v2.2))))
def xJ.R (nz:Nat) (Oi:Nat) (Oj:Nat) (aaw:Nat) (afB:Nat) (r:((Option gZ)×kc×dJ)):bm:=λu G=> ∃(u0:Value) (H1:Hp) (H2:Hp),X9 r.1 r.2.1 nz Oi Oj u0 H1/\mO r.2.2 aaw afB H2/\u=u0/\G=[H1,H2]
theorem xJ.c (H:xJ.f ag goal jV fa=some r) (cM:tN ag aY lY jR df) (zC:mO jV lY jR oR) (pK:iF fa jR mm):
 QR 143 [(pp aY),(ii goal)] [df,oR,mm] [mm] F (xJ.R aY lY jR lY jR r):=by
 unfold xJ.f at H;refine aG Tryz.func143 J J (λW=>rc T 7 ?_);obtain⟨Br,H7,s7,kY⟩:=(λx=>x) cM;refine bS 0 (congrArg some kY) (fz J (rc T 7 (lf T 3 J (ro T 1 (k [1] J vn H (jh.c · pK) (λv1 H=>ro T 4 (cb J H (λH=>?_) (λH=>?_))))))))
 ·refine rc T 7 ?_
  cases H;refine dr [3,3] J kY (p1 T J [3,0,0,0] ⟨_,df,oR,⟨J,cM⟩,zC,J,J⟩ J)
 refine rc T 7 (lf T 3 J (kr (nP.R lY jR) [1] [0,0] J acO H (nP.c · zC pK) (λv2 H=>?_)));rintro _ _ ⟨H8,s8,rfl,rfl⟩;refine fz J (ro T 3 (mq H [0,1] [0,0,0,0,0] (λz4 (x3:Bool)=>(x3=z4,[(51,(bb x3))],[])) J J (λz4 Z4 _=>?_) ?_))
 ·rcases q5:ag.kept with _ |x5
  ·replace Z4:=fi q5 Z4;rw[q5] at s7;obtain⟨rfl,rfl⟩:=s7;refine dD mix az (au T J (au T J (au T J (aO J J J (aw T J J J J (aI (j:=1) J J)) ?_))))
   iterate 27 refine au T J ?_
   refine dg (rx T 1 (am _ [0,0,0,0,0] (oi Z4) J J))
  replace Z4:=fj q5 Z4;rw[q5] at s7;obtain⟨fR,dA,n11,cB,dj,rfl,MZ⟩:=s7;refine bS 2 (congrArg some MZ) (fz J (dD mix az (au T J (au T J (au T J (aO J J J (aw T J J J J (aI (j:=1) J J)) ?_))))))
  iterate 5 refine au T J ?_
  refine aO J J J (aw T J J J J (aI (j:=1) J J)) (au T J (au T J (aO J J J (aw T J J J J (aI (j:=4) J J)) ?_)))
  iterate 4 refine au T J ?_
  refine qb 37 J Z4 (λZ4=>?_) (λZ4=>?_)
  ·iterate 14 refine au T J ?_
   refine dg (rx T 1 (dr [4,4] J MZ (am _ [0,0,2,0,0] (oi Z4) J J)))
  refine au T J (au T J (au T J (aO J J J (aw T J J J J (aI (j:=1) J J)) (au T J (au T J (aO J J J (aw T J J J J (aI (j:=4) J J)) (au T J (au T J (au T J (aO J J J (aw T J J J J (aI (j:=1) J J)) ?_))))))))));obtain⟨v6,V7,Z4⟩:=gx Z4;refine wO [3] J J J J J J B6 J (pk.c V7 pK) (au T J (au T J (dg (rx T 1 (dr [4,4] J MZ (am _ [0,0,2,0,0] (oi Z4) J J))))))
 rintro _ x3 rfl H;refine cb J H (λH=>?_) (λH=>?_)
 ·refine rc T 5 ?_;obtain⟨v7,V9,H⟩:=gx H;refine aZ (FB (As:=[(cl aY 233 [(pp lY),(pp jR),Br,(uu ag.count)]),H7,H8,mm]) (f_.R v7) [(cl aY 233 [(pp lY),(pp jR),Br,(uu ag.count)]),H7,H8,mm] [1,1,1,1] J J J J acP J J (I_ (A:=[df,H8,mm]) (A2:=[df,H8,mm]) (by simp only[kY,List.flatten_cons,List.flatten_append,List.flatten_nil,List.append_nil,List.append_assoc]) (by simp only[kY,List.flatten_cons,List.flatten_append,List.flatten_nil,List.append_nil,List.append_assoc]) (f_.c V9 cM s8 pK)) ?_)
  rintro _ _ ⟨_,_,Lt,rfl,rfl⟩;rcases v7 with _ |rj
  ·replace H:=fi J H
   cases H
  replace H:=fj J H;obtain⟨kz,dH,n13,eJ,dm,rfl,rfl⟩:=Lt;refine ro T 2 (sg T 3 J (ro T 7 (lf T 3 J (k [] J Jy H (rZ.c ·) (λv8 H=>ro T 2 (sg T 3 J (ro T 7 (lf T 3 J (ro T 4 ?_)))))))))
  cases H;refine gw [1,1] J (gw [1,4] J (p1 T J [4,2,2,0] ⟨_,(List.flatten [(cl aY 233 [(pp lY),(pp jR),(pp kz),(uu v8)]),(List.flatten [(cl kz 235 [(ii rj.goal),(ii rj.bN),(ll dH rj.aP n13)]),eJ])]),H8,⟨J,kz,dH,n13,eJ,dm,J,J⟩,s8,J,J⟩ J))
 refine rc T 3 ?_;rcases vQ:ag.kept with _ |x9
 ·replace H:=fi vQ H;rw[vQ] at s7;obtain⟨rfl,rfl⟩:=s7;refine rc T 4 (lf T 1 J (ro T 4 ?_))
  cases H;refine dr [1,1] J kY (p1 T J [3,1,1,0] ⟨_,df,H8,⟨J,cM⟩,s8,J,J⟩ J)
 replace H:=fj vQ H;rw[vQ] at s7;obtain⟨pV,a17,n17,eF,fq,rfl,MX⟩:=s7;refine bS 2 (congrArg some MX) (fz J (rc T 4 (lf T 1 J (ro T 4 ?_))))
 cases H;refine dr [4,4] J MX (dr [1,3] J kY (p1 T J [3,1,1,0] ⟨_,df,H8,⟨vQ,pV,a17,n17,eF,fq,J,(by rw[kY,MX])⟩,s8,J,J⟩ J))
def Hz.f (ag:gZ):Option Int:=some ag.bN
theorem Hz.c (H:Hz.f ag=some r) (wc:aj (Fl.int .i32) 21 ag.aP wL xv zV):
 QU 174 [(pp aY)] [(cl aY 235 [(ii ag.goal),(ii ag.bN),(ll wL ag.aP xv)]),zV] F (ii r):=by
 unfold Hz.f at H;refine aG Tryz.func174 J J (λW=>rc T 12 (eY J (rc T 7 (lf T 0 J (ro T 4 ?_)))))
 cases H;exact p0 T J [0,0,0] J
def C0.f (ag:gZ) (cell:Int):Option Int:=(if cell<0 then(some true) else(if cell≥(List.length ag.aP:Int) then(some true) else(if(0<=cell/\cell<(List.length ag.aP:Int)) then(some ((rd ag.aP cell)==2147483647)) else none))).bind λx1=>if x1=true then(some 1099511627776) else(if(0<=cell/\cell<(List.length ag.aP:Int)) then(some (aa (rd ag.aP cell))) else none)
theorem C0.c (H:C0.f ag cell=some r) (wc:aj (Fl.int .i32) 21 ag.aP wL xv zV):
 QU 177 [(pp aY),(ii cell)] [(cl aY 235 [(ii ag.goal),(ii ag.bN),(ll wL ag.aP xv)]),zV] F (ii r):=by
 unfold C0.f at H;refine aG Tryz.func177 J J (λW=>rc T 6 (mq H [0,1] [2,0,0] (λz2 (x1:Bool)=>(x1=z2,[(29,(bb x1))],[])) J J (λz2 Z1 _=>?_) ?_))
 ·refine rc T 8 (ad 11 J Z1 (λZ1=>?_) (λZ1=>?_))
  ·refine ro T 20 (am _ [2,0,0] (oi Z1) J J)
  refine ro T 4 (lf T 0 J (ro T 4 (ad 20 J Z1 (λZ1=>?_) (λZ1=>?_))))
  ·refine ro T 11 (am _ [2,0,0] (oi Z1) J J)
  refine ro T 3 (lf T 0 J (ro T 1 ?_));obtain⟨c4,Z1⟩:=aA Z1;obtain⟨q3,o3,e3⟩:=wc.r.addr c4.1 c4.2;refine ix T J e3 c4 (le T 0 (oO wc 1) e3 c4 J J (ro T 4 (am _ [2,0,0] (oi Z1) J J)))
 rintro _ x1 rfl H;refine cb J H (λH=>?_) (λH=>?_)
 ·refine rc T 7 ?_
  cases H;exact p0 T J [1,1,0] J
 refine rc T 7 (lf T 1 J (ro T 1 ?_));obtain⟨c6,H⟩:=aA H;obtain⟨q4,o4,e4⟩:=wc.r.addr c6.1 c6.2;refine ix T J e4 c6 (le T 0 (oO wc 2) e4 c6 J J (ro T 5 ?_))
 cases H;exact p0 T J [1,1,0] J
def HA.f (ag:gZ):Option Int:=some ag.goal
theorem HA.c (H:HA.f ag=some r) (wc:aj (Fl.int .i32) 21 ag.aP wL xv zV):
 QU 179 [(pp aY)] [(cl aY 235 [(ii ag.goal),(ii ag.bN),(ll wL ag.aP xv)]),zV] F (ii r):=by
 unfold HA.f at H;refine aG Tryz.func179 J J (λW=>rc T 12 (eY J (rc T 7 (lf T 0 J (ro T 4 ?_)))))
 cases H;exact p0 T J [0,0,0] J
end
noncomputable section
def AQ.f (g:bA) (bG:Int):Option (List ba):=(iJ.f g).bind λv1=>some []
def AQ.R (r:(List ba)):bm:=λu G=> ∃a0 n0 H0,aj cH 285 r a0 n0 H0/\u=(ll a0 r n0)/\G=[H0]
theorem AQ.c (H:AQ.f g bG=some r) (fN:iF g fg gm):
 QR 142 [(pp fg),(.pointer none),(ii bG)] [gm] [gm] F (AQ.R r):=by
 unfold AQ.f at H;refine aG Tryz.func142 J J (λW=>rc T 8 (k [0] J tZ H (iJ.c · fN) (λv1 H=>ro T 21 (ov J (rc T 7 ?_)))))
 cases H;refine bC (p1 T J [2,0,0] ⟨none,0,[],aj.nil,J,J⟩ J)
def ik.l1:Nat->gZ->(Int×Int)->(List Int)->Int->(List ek)->List ba->Int->Option (List ba)
 |0,_,_,_,_,_,_,_=>none
 |GM+1,ai,v1,v4,x8,v12,cm,dR=>if dR<(List.length v12:Int) then(if(0<=dR/\dR<(List.length v12:Int)) then((C0.f ai ((rd v12 dR).To)).bind λfG=>if(fG !=1099511627776)=true then((ra.f v1.1 v1.2 (rd v4 x8)).bind λnj=>(qv.f v1.1 v1.2 (rd v4 x8) ((rd v12 dR).To)).bind λv20=>if(List.length cm+1<=1099511627776) then(ik.l1 GM ai v1 v4 x8 v12 (cm++[(ba.mk nj v20 (aa ((rd v12 dR).kS+fG)))]) (aa (dR+1))) else none) else(ik.l1 GM ai v1 v4 x8 v12 cm (aa (dR+1)))) else none) else(some cm)
def ik.l0:Nat->bA->gZ->Int->(Int×Int)->(List Int)->List ba->Int->Option (List ba)
 |0,_,_,_,_,_,_,_=>none
 |k9+1,g,ai,bG,v1,v4,x7,x8=>if x8<(List.length v4:Int) then((if(0<=x8/\x8<(List.length v4:Int)) then((nu.f g (rd v4 x8)).bind λv12=>ik.l1 fuel ai v1 v4 x8 v12 x7 0) else none).bind λaN=>ik.l0 k9 g ai bG v1 v4 aN (aa (x8+1))) else((HA.f ai).bind λv21=>((gN.f v1.1 v1.2 v21).bind λv24=>if(v24==bG)=true then((jh.f g v21).bind λv25=>some (v25 !=255)) else(some false)).bind λbX=>if bX=true then((ra.f v1.1 v1.2 v21).bind λv26=>if(List.length x7+1<=1099511627776) then((nf.f (x7++[(ba.mk v26 4 0)])).bind λLc=>some Lc) else none) else((nf.f x7).bind λv28=>some v28))
def ik.f (g:bA) (ai:gZ) (bG:Int):Option (List ba):=(iJ.f g).bind λv1=>(Hz.f ai).bind λv2=>(pk.f g).bind λv3=>if(v2 !=v3)=true then(some []) else((j8.f g bG).bind λv4=>ik.l0 fuel g ai bG v1 v4 [] 0)
def ik.R (r:(List ba)):bm:=λu G=> ∃a0 n0 H0,aj cH 285 r a0 n0 H0/\u=(ll a0 r n0)/\G=[H0]
theorem ik.c (H:ik.f g ai bG=some r) (fN:iF g fg gm) (Pl:aj (Fl.int .i32) 21 ai.aP P_ Vh P1):
 QR 142 [(pp fg),(pp tQ),(ii bG)] [gm,(cl tQ 235 [(ii ai.goal),(ii ai.bN),(ll P_ ai.aP Vh)]),P1] [gm,(cl tQ 235 [(ii ai.goal),(ii ai.bN),(ll P_ ai.aP Vh)]),P1] F (ik.R r):=by
 unfold ik.f at H;refine aG Tryz.func142 J J (λW=>rc T 8 (k [0] J tZ H (iJ.c · fN) (λv1 H=>ro T 14 (k [1,1] J acI H (Hz.c · Pl) (λv2 H=>ro T 1 (k [0] J B6 H (pk.c · fN) (λv3 H=>ro T 4 (cb J H (λH=>?_) (λH=>?_)))))))))
 ·refine rc T 7 ?_
  cases H;refine bC (p1 T J [4,0,0,0,0] ⟨none,0,[],aj.nil,J,J⟩ J)
 refine rc T 12 (kr j8.R [0] [0] J JB H (j8.c · fN) (λv4 H=>?_));rintro _ _ ⟨a5,n5,H5,s5,rfl,rfl⟩;refine fz J (ro T 5 (bC (lq [0,1,2,7,8,32,33] [2,3,0,0,0] (λ(⟨k9,x7,x8,a7,n7,H7⟩:Nat×List ba×Int×Option Addr×Nat×Hp)=>(ik.l0 k9 g ai bG v1 v4 x7 x8=some r/\aj cH 285 x7 a7 n7 H7,[(9,(ll a7 x7 n7)),(34,(ii x8))],[H7])) J J (fuel,[],0,none,0,[]) [2,3,0,0,0,0] ⟨H,aj.nil⟩ J J ?_)));rintro k9 ⟨x7,x8,a7,n7,H7⟩ ⟨Z6,s7⟩;rw[ik.l0] at Z6;refine rc T 6 (cd J Z6 (λZ6=>?_) (λZ6=>?_))
 ·refine rc T 2 (mq Z6 [0,1,2,7,8,32,33,34] [0,0,0,0,0] (λlT (⟨aN,a8,n8,H8⟩:List ba×Option Addr×Nat×Hp)=>(aN=lT/\aj cH 285 aN a8 n8 H8,[(9,(ll a8 aN n8))],[H8])) J J (λlT Z8 _=>?_) ?_)
  ·refine rc T 3 ?_;obtain⟨c9,Z8⟩:=aA Z8;obtain⟨q9,o9,e9⟩:=s5.r.addr c9.1 c9.2;refine ix T J e9 c9 (le T 0 (oO s5 4) e9 c9 J J (ro T 7 (kr nu.R [1] [1] J acJ Z8 (nu.c · fN) (λv12 Z8=>?_))));rintro _ _ ⟨cw,n10,bZ,bU,rfl,rfl⟩;refine fz J (ro T 5 (lq [0,1,2,7,8,11,32,33,34,40,41] [0,5,0,0,0,1] (λ(⟨GM,cm,dR,a12,n12,dz⟩:Nat×List ba×Int×Option Addr×Nat×Hp)=>(ik.l1 GM ai v1 v4 x8 v12 cm dR=some lT/\aj cH 285 cm a12 n12 dz,[(9,(ll a12 cm n12)),(42,(ii dR))],[dz])) J J (fuel,x7,0,a7,n7,H7) [0,5,0,0,0,1,0] ⟨Z8,s7⟩ J J ?_));rintro GM ⟨cm,dR,a12,n12,dz⟩ ⟨aW,dL⟩;rw[ik.l1] at aW;refine rc T 6 (cd J aW (λaW=>?_) (λaW=>?_))
   ·refine rc T 6 ?_;obtain⟨jg,aW⟩:=aA aW;obtain⟨VT,Vq,wW⟩:=bU.r.addr jg.1 jg.2;refine ix T J wW jg (bz J (fX T (cs:=[(ii (rd v12 dR).To),(ii (rd v12 dR).kS)]) J J J J J J (ig (k:=pz) (oO bU 5) wW jg J)) (nc T J (λFG=>sg T 7 J (ro T 6 (lf T 7 J (k [2,2] J acK aW (C0.c · Pl) (λfG aW=>ro T 9 (cb J aW (λaW=>?_) (λaW=>?_)))))))))
    ·refine ks [0,1,2,7,8,9,11,13,14,32,33,34,40,41,42] J (fz J (rg [17] [0,0,0,0,0,0,0,0] mix (bM bL) (λhg pf=>ha T 11 [0,1,2,3,5,6,7,8] sz hg pf J (av 9 sz hg pf J (aw T J J J J (aI (j:=7) J J)) (ha T 9 [11] sz hg pf J (av 12 sz hg pf J (aw T J J J J (aI (j:=7) J J)) (ha T 6 [13,14] sz hg pf J (ao 4 (kh [] J F9 aW (ra.c ·) (λnj aW=>an sz (ao 10 (kh [] J acL aW (qv.c ·) (λv20 aW=>an sz (ha T 3 [15] sz hg pf J (ao 16 (cV (k:=cH) T [(ba.mk nj v20 (aa ((rd v12 dR).kS+fG)))] J J J J J J J J J (λjz dP dV=>an (so [0,0,0,0,0,0,0,0]) (ao 17 ?_))))))))))))))))));obtain⟨lI,aW⟩:=aA aW;refine ez (k:=cH) (xs:=cm) T (g:=6) J J J J J J J J J J dL (oO dV 8) lI J (λj6 n16 gk gd=>an sl (hb T 18 sl hg pf J (ae (rx T 7 (ar (_,_,_,_,_) [0,0,0,0,0,0,0] ⟨aW,gd⟩ J J)))))
    refine rc T 8 (ar (_,_,_,_,_) [0,0,0,0,0,0,0] ⟨aW,dL⟩ J J)
   refine rc T 6 (am (_,_,_,_) [0,0,0,0,0,1] ⟨oi aW,dL⟩ J J)
  rintro _ ⟨aN,a8,n8,H8⟩ ⟨rfl,s8⟩ Z6;refine rc T 5 (ar (_,_,_,_,_) [0,0,0,0,0,0] ⟨Z6,s8⟩ J J)
 refine rc T 9 (k [2,2] J acM Z6 (HA.c · Pl) (λv21 Z6=>ro T 3 (mq Z6 [7,8,9,15] [0,4,0,0,0] (λz23 (bX:Bool)=>(bX=z23,[(85,(bb bX))],[])) J J (λz23 yq _=>?_) ?_)))
 ·refine rc T 4 (k [] J rI yq (gN.c ·) (λv24 yq=>ro T 3 (ab 80 J yq (λyq=>?_) (λyq=>?_))))
  ·refine ro T 2 (k [1] J vn yq (jh.c · fN) (λv25 yq=>ro T 4 (am _ [0,4,0,0,0] (oi yq) J J)))
  refine ro T 7 (am _ [0,4,0,0,0] (oi yq) J J)
 rintro _ bX rfl Z6;refine cb J Z6 (λZ6=>?_) (λZ6=>?_)
 ·refine rc T 5 (k [] J F9 Z6 (ra.c ·) (λv26 Z6=>ro T 1 (aZ (cV (k:=cH) T [(ba.mk v26 4 0)] J J J J J J J J J (λa17 eF fq=>?_)))));obtain⟨DL,Z6⟩:=aA Z6;refine aZ (ez (k:=cH) (xs:=x7) T (g:=1) J J J J J J J J J J s7 (oO fq 5) DL J (λiU n18 fe ft=>ro T 6 (kr nf.R [] [] J Ga Z6 (nf.c (l:=(x7++[(ba.mk v26 4 0)])) · (oO ft 1) ft.bW) (λLc Z6=>?_))));rintro _ _ ⟨mr,n19,kn,gp,rfl,rfl⟩;refine fz J (ro T 4 ?_)
  cases Z6;exact p1 T J [6,2,2,2,0] ⟨mr,n19,kn,gp,J,J⟩ J
 refine rc T 5 (kr nf.R [] [] J Ga Z6 (nf.c · (oO s7 1) s7.bW) (λv28 Z6=>?_));rintro _ _ ⟨a20,n20,oh,me,rfl,rfl⟩;refine fz J (ro T 4 ?_)
 cases Z6;exact p1 T J [5,2,2,2,0] ⟨a20,n20,oh,me,J,J⟩ J
end
noncomputable section
def zg.f (l:fT):Option fT:=some (fT.mk l.k [] ([]:(List ((Int×Int)×Int))) (-1) (-1))
def zg.R (gG:Nat) (r:fT):bm:=λu G=> ∃(a0 n0 H0:_) (a1:Nat) (H1:Hp),aj kH 278 r.ak a0 n0 H0/\cQ (Ky.pair T .i64 J J J lQ u3) (λx:Int=>Value.int .i64 x) r.eP a1 H1/\u=(.tuple #[])/\G=[(cl gG 238 [(ii r.k),(ll a0 r.ak n0),(.map (some a1)),(ii r.cA),(ii r.di)]),H0,H1]
theorem zg.c (H:zg.f l=some r) (tk:aj kH 278 l.ak mu mD ym):
 QR 145 [(pp gG)] [(cl gG 238 [(ii l.k),(ll mu l.ak mD),(.map none),(ii l.cA),(ii l.di)]),ym] [] F (zg.R gG r):=by
 unfold zg.f at H;refine aG Tryz.func145 J J (λW=>rc T 6 (ov J (rc T 5 (aZ (uU T (Ky.pair T .i64 J J J lQ u3) (λx:Int=>Value.int .i64 x) J J J trivial (λa3 H3 s3=>ro T 2 (sg T 0 J (ro T 2 (sg T 0 J (ro T 2 (sg T 0 J (ro T 2 (sg T 0 J (ro T 1 (jf ?_)))))))))))))))
 cases H;refine bC (p1 T J [0,3,2,1] ⟨none,0,[],a3,H3,aj.nil,s3,J,J⟩ J)
def xp.f (ag:Int):Option (Option fT):=if ag<1 then(some none) else((zg.f (fT.mk ag ([]:List br) [] 0 0)).bind λv1=>some (some v1))
def xp.R (r:(Option fT)):bm:=λu G=> ∃(u0:Value) (G0:List Hp),XY r u0 G0/\u=u0/\G=G0
theorem xp.c (H:xp.f ag=some r):
 QR 105 [(ii ag)] [] [] F (xp.R r):=by
 unfold xp.f at H;refine aG Tryz.func105 J J (λW=>rc T 12 (cd J H (λH=>?_) (λH=>?_)))
 ·refine rc T 7 ?_
  cases H;exact p1 T J [0] ⟨_,_,⟨J,J⟩,J,J⟩ J
 refine rc T 6 (nc T J (λb1=>ro T 6 (bC (kr (zg.R b1) [] [1,1] J SQ H (zg.c (l:=(fT.mk ag ([]:List br) [] 0 0)) · (aj.nil (k:=kH) (E:=278))) (λv1 H=>?_)))));rintro _ _ ⟨a3,n3,H3,a4,H4,s3,s4,rfl,rfl⟩;refine fz J (ro T 9 ?_)
 cases H;exact p1 T J [1,1,1,0] ⟨_,_,⟨b1,a3,n3,H3,a4,H4,s3,s4,J,J⟩,J,J⟩ J
def zh.f (l:fT):Option fT:=some (fT.mk l.k [] ([]:(List ((Int×Int)×Int))) (-1) (-1))
def zh.R (gG:Nat) (r:fT):bm:=λu G=> ∃(a0 n0 H0:_) (a1:Nat) (H1:Hp),aj kH 278 r.ak a0 n0 H0/\cQ (Ky.pair T .i64 J J J lQ u3) (λx:Int=>Value.int .i64 x) r.eP a1 H1/\u=(.tuple #[])/\G=[(cl gG 238 [(ii r.k),(ll a0 r.ak n0),(.map (some a1)),(ii r.cA),(ii r.di)]),H0,H1]
theorem zh.c (H:zh.f l=some r) (tk:aj kH 278 l.ak mu mD ym) (wb:cQ (Ky.pair T .i64 J J J lQ u3) (λx:Int=>Value.int .i64 x) l.eP oW uL):
 QR 145 [(pp gG)] [(cl gG 238 [(ii l.k),(ll mu l.ak mD),(.map (some oW)),(ii l.cA),(ii l.di)]),ym,uL] [] F (zh.R gG r):=by
 unfold zh.f at H;refine aG Tryz.func145 J J (λW=>rc T 6 (ov J (rc T 5 (aZ (uU T (Ky.pair T .i64 J J J lQ u3) (λx:Int=>Value.int .i64 x) J J J trivial (λa4 H4 s4=>ro T 2 (sg T 0 J (ro T 2 (sg T 0 J (ro T 2 (sg T 0 J (ro T 2 (sg T 0 J (ro T 1 (jf ?_)))))))))))))))
 cases H;refine bC (p1 T J [0,4,3,2] ⟨none,0,[],a4,H4,aj.nil,s4,J,J⟩ J)
def sO.f (l:fT) (ai:Int):Option fT:=if(0<=ai/\ai<(List.length l.ak:Int)) then((if((rd l.ak ai).cJ==(-1))=true then(some (l.ak,(rd l.ak ai).a_)) else(if(0<=(rd l.ak ai).cJ/\(rd l.ak ai).cJ<(List.length l.ak:Int)) then(some ((List.set l.ak (Int.toNat ((rd l.ak ai).cJ)) (br.mk ((rd l.ak ((rd l.ak ai).cJ)).key) ((rd l.ak ((rd l.ak ai).cJ)).cJ) ((rd l.ak ai).a_))),l.cA)) else none)).bind λ(x1,x2)=>if((rd l.ak ai).a_==(-1))=true then(some (fT.mk l.k x1 l.eP x2 ((rd l.ak ai).cJ))) else(if(0<=(rd l.ak ai).a_/\(rd l.ak ai).a_<(List.length x1:Int)) then(some (fT.mk l.k (List.set x1 (Int.toNat ((rd l.ak ai).a_)) (br.mk ((rd x1 ((rd l.ak ai).a_)).key) ((rd l.ak ai).cJ) ((rd x1 ((rd l.ak ai).a_)).a_))) l.eP x2 l.di)) else none)) else none
def sO.R (gG:Nat) (r:fT):bm:=λu G=> ∃(a0 n0 H0:_) (a1:Nat) (H1:Hp),aj kH 278 r.ak a0 n0 H0/\cQ (Ky.pair T .i64 J J J lQ u3) (λx:Int=>Value.int .i64 x) r.eP a1 H1/\u=(.tuple #[])/\G=[(cl gG 238 [(ii r.k),(ll a0 r.ak n0),(.map (some a1)),(ii r.cA),(ii r.di)]),H0,H1]
theorem sO.c (H:sO.f l ai=some r) (tk:aj kH 278 l.ak mu mD ym) (wb:cQ (Ky.pair T .i64 J J J lQ u3) (λx:Int=>Value.int .i64 x) l.eP oW uL):
 QR 224 [(pp gG),(ii ai)] [(cl gG 238 [(ii l.k),(ll mu l.ak mD),(.map (some oW)),(ii l.cA),(ii l.di)]),ym,uL] [] F (sO.R gG r):=by
 unfold sO.f at H;refine aG Tryz.func224 J J (λW=>rc T 5 (lf T 0 J (ro T 1 ?_)));obtain⟨c1,H⟩:=aA H;obtain⟨q4,o4,e4⟩:=tk.r.addr c1.1 c1.2;refine ix T J e4 c1 (bz J (fX T (cs:=[(ii (rd l.ak ai).key.1),(ii (rd l.ak ai).key.2),(ii (rd l.ak ai).cJ),(ii (rd l.ak ai).a_)]) J J J J J J (ig (k:=kH) (oO tk 1) e4 c1 J)) (nc T J (λb5=>sg T 4 J (ro T 2 (mq H [0,4] [3,2,2] (λz3 (⟨x1,x2,a6,n6,H6⟩:List br×Int×Option Addr×Nat×Hp)=>((x1,x2)=z3/\aj kH 278 x1 a6 n6 H6,[],[(cl gG 238 [(ii l.k),(ll a6 x1 n6),(.map (some oW)),(ii x2),(ii l.di)]),H6])) J J (λz3 Z2 _=>?_) ?_)))))
 ·refine rc T 3 (lf T 4 J (ro T 3 (cb J Z2 (λZ2=>?_) (λZ2=>?_))))
  ·refine rc T 3 (lf T 4 J (ro T 2 (sg T 0 J (ro T 2 (am (_,_,_,_,_) [3,2,2,0,0] ⟨oi Z2,tk⟩ J J)))))
  refine ks [0,4] J (fz J (rz [10] mix (bM bL) (λhg pf=>ha T 8 [0,1,2] sz hg pf J (av 3 sz hg pf J (aw T J J J J (aI (j:=0) J J)) (ha T 6 [4] sz hg pf J (av 5 sz hg pf J (aw T J J J J (aI (j:=4) J J)) (ha T 4 [6] sz hg pf J (av 7 sz hg pf J (aw T J J J J (aI (j:=4) J J)) ?_))))))));obtain⟨c4,Z2⟩:=aA Z2;refine av 8 sz hg pf J (cT T J J J J J e4 c4.1 c4.2) (ha T 1 [9] sz hg pf J (ao 10 (kU (k:=kH) T 1 3 (br.mk ((rd l.ak ((rd l.ak ai).cJ)).key) ((rd l.ak ((rd l.ak ai).cJ)).cJ) ((rd l.ak ai).a_)) J J J J J J tk e4 c4 J J J (λH7 s7=>kg [0,4,20,21,22,24,25,26,27,28,29] [1,1,1,1] [1,1,1,1,0] [(23,(ll mu (List.set l.ak (Int.toNat ((rd l.ak ai).cJ)) (br.mk ((rd l.ak ((rd l.ak ai).cJ)).key) ((rd l.ak ((rd l.ak ai).cJ)).cJ) ((rd l.ak ai).a_))) mD))] [(cl gG 238 [(ii l.k),(ll mu (List.set l.ak (Int.toNat ((rd l.ak ai).cJ)) (br.mk ((rd l.ak ((rd l.ak ai).cJ)).key) ((rd l.ak ((rd l.ak ai).cJ)).cJ) ((rd l.ak ai).a_))) mD),(.map (some oW)),(ii l.cA),(ii l.di)])] J J ⟨dN,trivial⟩ dN (an sl (ae (rx T 1 (am (_,_,_,_,_) [2,1,1,1,0] ⟨oi Z2,s7⟩ J J))))))))
 rintro _ ⟨x1,x2,a6,n6,H6⟩ ⟨rfl,s6⟩ H;refine rc T 3 (lf T 2 J (ro T 3 (cb J H (λH=>?_) (λH=>?_))))
 ·refine rc T 3 (lf T 2 J (ro T 2 (sg T 3 J (ro T 1 (jf ?_)))))
  cases H;exact p1 T J [3,3,1,0] ⟨a6,n6,H6,oW,uL,s6,wb,J,J⟩ J
 refine fz J (rz [10] mix (bM bL) (λhg pf=>ha T 8 [0,1,2] sz hg pf J (av 3 sz hg pf J (aw T J J J J (aI (j:=3) J J)) (ha T 6 [4] sz hg pf J (av 5 sz hg pf J (aw T J J J J (aI (j:=2) J J)) (ha T 4 [6] sz hg pf J (av 7 sz hg pf J (aw T J J J J (aI (j:=2) J J)) ?_)))))));obtain⟨c6,H⟩:=aA H;obtain⟨q8,o8,e8⟩:=s6.r.addr c6.1 c6.2;refine av 8 sz hg pf J (cT T J J J J J e8 c6.1 c6.2) (ha T 1 [9] sz hg pf J (ao 10 (kU (k:=kH) T 4 2 (br.mk ((rd x1 ((rd l.ak ai).a_)).key) ((rd l.ak ai).cJ) ((rd x1 ((rd l.ak ai).a_)).a_)) J J J J J J s6 e8 c6 J J J (λH9 s9=>kg [0,4,32,38,39,40,42,43,44,45,46,47] [0,0,0,1] [0,0,0,1,0] [(41,(ll a6 (List.set x1 (Int.toNat ((rd l.ak ai).a_)) (br.mk ((rd x1 ((rd l.ak ai).a_)).key) ((rd l.ak ai).cJ) ((rd x1 ((rd l.ak ai).a_)).a_))) n6))] [(cl gG 238 [(ii l.k),(ll a6 (List.set x1 (Int.toNat ((rd l.ak ai).a_)) (br.mk ((rd x1 ((rd l.ak ai).a_)).key) ((rd l.ak ai).cJ) ((rd x1 ((rd l.ak ai).a_)).a_))) n6),(.map (some oW)),(ii x2),(ii l.di)])] J J ⟨dN,trivial⟩ dN (an sl (ae (jf ?_)))))))
 cases H;exact p1 T J [4,3,1,0] ⟨a6,n6,H9,oW,uL,s9,wb,J,J⟩ J
def xo.f (l:fT) (ai:Int):Option fT:=if(0<=ai/\ai<(List.length l.ak:Int)) then(if(0<=ai/\ai<(List.length (List.set l.ak (Int.toNat ai) (br.mk ((rd l.ak ai).key) (-1) ((rd l.ak ai).a_))):Int)) then(if(l.cA==(-1))=true then(some (fT.mk l.k (List.set (List.set l.ak (Int.toNat ai) (br.mk ((rd l.ak ai).key) (-1) ((rd l.ak ai).a_))) (Int.toNat ai) (br.mk ((rd (List.set l.ak (Int.toNat ai) (br.mk ((rd l.ak ai).key) (-1) ((rd l.ak ai).a_))) ai).key) ((rd (List.set l.ak (Int.toNat ai) (br.mk ((rd l.ak ai).key) (-1) ((rd l.ak ai).a_))) ai).cJ) l.cA)) l.eP ai ai)) else(if(0<=l.cA/\l.cA<(List.length (List.set (List.set l.ak (Int.toNat ai) (br.mk ((rd l.ak ai).key) (-1) ((rd l.ak ai).a_))) (Int.toNat ai) (br.mk ((rd (List.set l.ak (Int.toNat ai) (br.mk ((rd l.ak ai).key) (-1) ((rd l.ak ai).a_))) ai).key) ((rd (List.set l.ak (Int.toNat ai) (br.mk ((rd l.ak ai).key) (-1) ((rd l.ak ai).a_))) ai).cJ) l.cA)):Int)) then(some (fT.mk l.k (List.set (List.set (List.set l.ak (Int.toNat ai) (br.mk ((rd l.ak ai).key) (-1) ((rd l.ak ai).a_))) (Int.toNat ai) (br.mk ((rd (List.set l.ak (Int.toNat ai) (br.mk ((rd l.ak ai).key) (-1) ((rd l.ak ai).a_))) ai).key) ((rd (List.set l.ak (Int.toNat ai) (br.mk ((rd l.ak ai).key) (-1) ((rd l.ak ai).a_))) ai).cJ) l.cA)) (Int.toNat l.cA) (br.mk ((rd (List.set (List.set l.ak (Int.toNat ai) (br.mk ((rd l.ak ai).key) (-1) ((rd l.ak ai).a_))) (Int.toNat ai) (br.mk ((rd (List.set l.ak (Int.toNat ai) (br.mk ((rd l.ak ai).key) (-1) ((rd l.ak ai).a_))) ai).key) ((rd (List.set l.ak (Int.toNat ai) (br.mk ((rd l.ak ai).key) (-1) ((rd l.ak ai).a_))) ai).cJ) l.cA)) l.cA).key) ai ((rd (List.set (List.set l.ak (Int.toNat ai) (br.mk ((rd l.ak ai).key) (-1) ((rd l.ak ai).a_))) (Int.toNat ai) (br.mk ((rd (List.set l.ak (Int.toNat ai) (br.mk ((rd l.ak ai).key) (-1) ((rd l.ak ai).a_))) ai).key) ((rd (List.set l.ak (Int.toNat ai) (br.mk ((rd l.ak ai).key) (-1) ((rd l.ak ai).a_))) ai).cJ) l.cA)) l.cA).a_))) l.eP ai l.di)) else none)) else none) else none
def xo.R (gG:Nat) (r:fT):bm:=λu G=> ∃(a0 n0 H0:_) (a1:Nat) (H1:Hp),aj kH 278 r.ak a0 n0 H0/\cQ (Ky.pair T .i64 J J J lQ u3) (λx:Int=>Value.int .i64 x) r.eP a1 H1/\u=(.tuple #[])/\G=[(cl gG 238 [(ii r.k),(ll a0 r.ak n0),(.map (some a1)),(ii r.cA),(ii r.di)]),H0,H1]
theorem xo.c (H:xo.f l ai=some r) (tk:aj kH 278 l.ak mu mD ym) (wb:cQ (Ky.pair T .i64 J J J lQ u3) (λx:Int=>Value.int .i64 x) l.eP oW uL):
 QR 225 [(pp gG),(ii ai)] [(cl gG 238 [(ii l.k),(ll mu l.ak mD),(.map (some oW)),(ii l.cA),(ii l.di)]),ym,uL] [] F (xo.R gG r):=by
 unfold xo.f at H;refine aG Tryz.func225 J J (λW=>rc T 1 (fz J (rz [16,19] mix (bM bL) (λhg pf=>ha T 17 [0,1,2] sz hg pf J (av 3 sz hg pf J (aw T J J J J (aI (j:=0) J J)) (ha T 12 [4,5,6,7] sz hg pf J (av 8 sz hg pf J (aw T J J J J (aI (j:=0) J J)) (ha T 7 [9,10,11,12] sz hg pf J (av 13 sz hg pf J (aw T J J J J (aI (j:=0) J J)) ?_)))))))));obtain⟨c1,H⟩:=aA H;obtain⟨q4,o4,e4⟩:=tk.r.addr c1.1 c1.2;refine av 14 sz hg pf J (cT T J J J J J e4 c1.1 c1.2) (ha T 4 [15] sz hg pf J (ao 16 (kU (k:=kH) T 1 2 (br.mk ((rd l.ak ai).key) (-1) ((rd l.ak ai).a_)) J J J J J J tk e4 c1 J J J (λH5 s5=>kg [0,1,4,5,6,8,9,10,11,13,14,15,16,17,18,19] [1,1,1] [1,1,1,0] [(7,(ll mu (List.set l.ak (Int.toNat ai) (br.mk ((rd l.ak ai).key) (-1) ((rd l.ak ai).a_))) mD)),(12,(ll mu (List.set l.ak (Int.toNat ai) (br.mk ((rd l.ak ai).key) (-1) ((rd l.ak ai).a_))) mD))] [(cl gG 238 [(ii l.k),(ll mu (List.set l.ak (Int.toNat ai) (br.mk ((rd l.ak ai).key) (-1) ((rd l.ak ai).a_))) mD),(.map (some oW)),(ii l.cA),(ii l.di)])] J J ⟨dN,dN,trivial⟩ dN (an sl (ao 17 ?_))))));obtain⟨c2,H⟩:=aA H;refine lF J (cT T J J J J J e4 c2.1 c2.2) (an sl (hb T 18 sl hg pf J (ao 19 (kU (k:=kH) T 0 3 (br.mk ((rd (List.set l.ak (Int.toNat ai) (br.mk ((rd l.ak ai).key) (-1) ((rd l.ak ai).a_))) ai).key) ((rd (List.set l.ak (Int.toNat ai) (br.mk ((rd l.ak ai).key) (-1) ((rd l.ak ai).a_))) ai).cJ) l.cA) J J J J J J s5 e4 c2 J J J (λH6 s6=>kg [0,1,4,5,6,8,9,10,11,13,14,15,16,17,18,19,20,21] [0,0,0] [0,0,0,0] [(7,(ll mu (List.set (List.set l.ak (Int.toNat ai) (br.mk ((rd l.ak ai).key) (-1) ((rd l.ak ai).a_))) (Int.toNat ai) (br.mk ((rd (List.set l.ak (Int.toNat ai) (br.mk ((rd l.ak ai).key) (-1) ((rd l.ak ai).a_))) ai).key) ((rd (List.set l.ak (Int.toNat ai) (br.mk ((rd l.ak ai).key) (-1) ((rd l.ak ai).a_))) ai).cJ) l.cA)) mD)),(12,(ll mu (List.set (List.set l.ak (Int.toNat ai) (br.mk ((rd l.ak ai).key) (-1) ((rd l.ak ai).a_))) (Int.toNat ai) (br.mk ((rd (List.set l.ak (Int.toNat ai) (br.mk ((rd l.ak ai).key) (-1) ((rd l.ak ai).a_))) ai).key) ((rd (List.set l.ak (Int.toNat ai) (br.mk ((rd l.ak ai).key) (-1) ((rd l.ak ai).a_))) ai).cJ) l.cA)) mD))] [(cl gG 238 [(ii l.k),(ll mu (List.set (List.set l.ak (Int.toNat ai) (br.mk ((rd l.ak ai).key) (-1) ((rd l.ak ai).a_))) (Int.toNat ai) (br.mk ((rd (List.set l.ak (Int.toNat ai) (br.mk ((rd l.ak ai).key) (-1) ((rd l.ak ai).a_))) ai).key) ((rd (List.set l.ak (Int.toNat ai) (br.mk ((rd l.ak ai).key) (-1) ((rd l.ak ai).a_))) ai).cJ) l.cA)) mD),(.map (some oW)),(ii l.cA),(ii l.di)])] J J ⟨dN,dN,trivial⟩ dN (an sl (ae (rx T 7 (lf T 3 J (ro T 3 (cb J H (λH=>?_) (λH=>?_))))))))))))
 ·refine rc T 5 (sg T 3 J (ro T 7 (sg T 3 J (ro T 1 (ks [] J (jf ?_))))))
  cases H;exact p1 T J [3,0,0,0] ⟨mu,mD,H6,oW,uL,s6,wb,J,J⟩ J
 refine ks [0,1] J (fz J (rz [11] mix (bM bL) (λhg pf=>ha T 9 [0,1,2] sz hg pf J (av 3 sz hg pf J (aw T J J J J (aI (j:=3) J J)) (ha T 5 [4,5,6] sz hg pf J (av 7 sz hg pf J (aw T J J J J (aI (j:=3) J J)) (ha T 3 [8] sz hg pf J ?_)))))));obtain⟨c4,H⟩:=aA H;refine av 9 sz hg pf J (cT T J J J J J e4 c4.1 c4.2) (ha T 1 [10] sz hg pf J (ao 11 (kU (k:=kH) T 0 2 (br.mk ((rd (List.set (List.set l.ak (Int.toNat ai) (br.mk ((rd l.ak ai).key) (-1) ((rd l.ak ai).a_))) (Int.toNat ai) (br.mk ((rd (List.set l.ak (Int.toNat ai) (br.mk ((rd l.ak ai).key) (-1) ((rd l.ak ai).a_))) ai).key) ((rd (List.set l.ak (Int.toNat ai) (br.mk ((rd l.ak ai).key) (-1) ((rd l.ak ai).a_))) ai).cJ) l.cA)) l.cA).key) ai ((rd (List.set (List.set l.ak (Int.toNat ai) (br.mk ((rd l.ak ai).key) (-1) ((rd l.ak ai).a_))) (Int.toNat ai) (br.mk ((rd (List.set l.ak (Int.toNat ai) (br.mk ((rd l.ak ai).key) (-1) ((rd l.ak ai).a_))) ai).key) ((rd (List.set l.ak (Int.toNat ai) (br.mk ((rd l.ak ai).key) (-1) ((rd l.ak ai).a_))) ai).cJ) l.cA)) l.cA).a_)) J J J J J J s6 e4 c4 J J J (λH7 s7=>kg [0,1,31,32,33,35,36,37,38,39,40,41] [0,0,0] [0,0,0,0] [(34,(ll mu (List.set (List.set (List.set l.ak (Int.toNat ai) (br.mk ((rd l.ak ai).key) (-1) ((rd l.ak ai).a_))) (Int.toNat ai) (br.mk ((rd (List.set l.ak (Int.toNat ai) (br.mk ((rd l.ak ai).key) (-1) ((rd l.ak ai).a_))) ai).key) ((rd (List.set l.ak (Int.toNat ai) (br.mk ((rd l.ak ai).key) (-1) ((rd l.ak ai).a_))) ai).cJ) l.cA)) (Int.toNat l.cA) (br.mk ((rd (List.set (List.set l.ak (Int.toNat ai) (br.mk ((rd l.ak ai).key) (-1) ((rd l.ak ai).a_))) (Int.toNat ai) (br.mk ((rd (List.set l.ak (Int.toNat ai) (br.mk ((rd l.ak ai).key) (-1) ((rd l.ak ai).a_))) ai).key) ((rd (List.set l.ak (Int.toNat ai) (br.mk ((rd l.ak ai).key) (-1) ((rd l.ak ai).a_))) ai).cJ) l.cA)) l.cA).key) ai ((rd (List.set (List.set l.ak (Int.toNat ai) (br.mk ((rd l.ak ai).key) (-1) ((rd l.ak ai).a_))) (Int.toNat ai) (br.mk ((rd (List.set l.ak (Int.toNat ai) (br.mk ((rd l.ak ai).key) (-1) ((rd l.ak ai).a_))) ai).key) ((rd (List.set l.ak (Int.toNat ai) (br.mk ((rd l.ak ai).key) (-1) ((rd l.ak ai).a_))) ai).cJ) l.cA)) l.cA).a_))) mD))] [(cl gG 238 [(ii l.k),(ll mu (List.set (List.set (List.set l.ak (Int.toNat ai) (br.mk ((rd l.ak ai).key) (-1) ((rd l.ak ai).a_))) (Int.toNat ai) (br.mk ((rd (List.set l.ak (Int.toNat ai) (br.mk ((rd l.ak ai).key) (-1) ((rd l.ak ai).a_))) ai).key) ((rd (List.set l.ak (Int.toNat ai) (br.mk ((rd l.ak ai).key) (-1) ((rd l.ak ai).a_))) ai).cJ) l.cA)) (Int.toNat l.cA) (br.mk ((rd (List.set (List.set l.ak (Int.toNat ai) (br.mk ((rd l.ak ai).key) (-1) ((rd l.ak ai).a_))) (Int.toNat ai) (br.mk ((rd (List.set l.ak (Int.toNat ai) (br.mk ((rd l.ak ai).key) (-1) ((rd l.ak ai).a_))) ai).key) ((rd (List.set l.ak (Int.toNat ai) (br.mk ((rd l.ak ai).key) (-1) ((rd l.ak ai).a_))) ai).cJ) l.cA)) l.cA).key) ai ((rd (List.set (List.set l.ak (Int.toNat ai) (br.mk ((rd l.ak ai).key) (-1) ((rd l.ak ai).a_))) (Int.toNat ai) (br.mk ((rd (List.set l.ak (Int.toNat ai) (br.mk ((rd l.ak ai).key) (-1) ((rd l.ak ai).a_))) ai).key) ((rd (List.set l.ak (Int.toNat ai) (br.mk ((rd l.ak ai).key) (-1) ((rd l.ak ai).a_))) ai).cJ) l.cA)) l.cA).a_))) mD),(.map (some oW)),(ii l.cA),(ii l.di)])] J J ⟨dN,trivial⟩ dN (an sl (ae (rx T 6 (sg T 3 J (ro T 1 (jf ?_))))))))))
 cases H;exact p1 T J [3,0,0,0] ⟨mu,mD,H7,oW,uL,s7,wb,J,J⟩ J
def xn.f (l:fT) (a:Int) (b:Int):Option (Int×Bool×Bool×fT):=(if(bO l.eP (a,b))=true then((sO.f l (aQ l.eP (a,b))).bind λv9=>some (v9.k,v9.ak,v9.eP,v9.cA,v9.di,(aQ l.eP (a,b)),false)) else(if(List.length l.ak:Int)<l.k then(if(List.length l.ak+1<=1099511627776) then(some (l.k,(l.ak++[(br.mk (a,b) 0 0)]),l.eP,l.cA,l.di,(List.length l.ak:Int),false)) else none) else((sO.f l l.di).bind λv10=>if(0<=l.di/\l.di<(List.length v10.ak:Int)) then(some (v10.k,(List.set v10.ak (Int.toNat l.di) (br.mk (a,b) ((rd v10.ak l.di).cJ) ((rd v10.ak l.di).a_))),(dU v10.eP ((rd v10.ak l.di).key.1,(rd v10.ak l.di).key.2)),v10.cA,v10.di,l.di,true)) else none))).bind λ(x1,x2,x3,x4,x5,x6,x7)=>(xo.f (fT.mk x1 x2 (cE x3 (a,b) x6) x4 x5) x6).bind λv11=>some (x6,(bO l.eP (a,b)),x7,v11)
def xn.R (gG:Nat) (r:(Int×Bool×Bool×fT)):bm:=λu G=> ∃(a0 n0 H0:_) (a1:Nat) (H1:Hp),aj kH 278 r.2.2.2.ak a0 n0 H0/\cQ (Ky.pair T .i64 J J J lQ u3) (λx:Int=>Value.int .i64 x) r.2.2.2.eP a1 H1/\u=(.tuple #[(ii r.1),(bb r.2.1),(bb r.2.2.1)])/\G=[(cl gG 238 [(ii r.2.2.2.k),(ll a0 r.2.2.2.ak n0),(.map (some a1)),(ii r.2.2.2.cA),(ii r.2.2.2.di)]),H0,H1]
theorem xn.c (H:xn.f l a b=some r) (tk:aj kH 278 l.ak mu mD ym) (wb:cQ (Ky.pair T .i64 J J J lQ u3) (λx:Int=>Value.int .i64 x) l.eP oW uL):
 QR 184 [(pp gG),(ii a),(ii b)] [(cl gG 238 [(ii l.k),(ll mu l.ak mD),(.map (some oW)),(ii l.cA),(ii l.di)]),ym,uL] [] F (xn.R gG r):=by
 unfold xn.f at H;refine aG Tryz.func184 J J (λW=>rc T 14 (eY J (rc T 6 (bz J (Jk T J J J J J J) (nc T J (λb4=>sg T 4 J (ro T 3 (dD mix az (au T J (au T J (au T J (aO J J J (aw T J J J J (aI (j:=0) J J)) (aO J J J (gA T 4 J J J J J J J) (aO J J J (p9 (k:=(a,b)) T (Ky.pair T .i64 J J J lQ u3) (λx:Int=>Value.int .i64 x) J J J J J (oE wb (j:=2) J)) ?_))))))))))))))
 iterate 5 refine au T J ?_
 refine dg (rx T 1 (mq H [0,7,9] [3,3] (λz8 (⟨x1,x2,x3,x4,x5,x6,x7,a5,n5,H5,a6,H6⟩:Int×List br×(List ((Int×Int)×Int))×Int×Int×Int×Bool×Option Addr×Nat×Hp×Nat×Hp)=>((x1,x2,x3,x4,x5,x6,x7)=z8/\aj kH 278 x2 a5 n5 H5/\cQ (Ky.pair T .i64 J J J lQ u3) (λx:Int=>Value.int .i64 x) x3 a6 H6,[(6,(ii x6)),(8,(bb x7))],[(cl gG 238 [(ii x1),(ll a5 x2 n5),(.map (some a6)),(ii x4),(ii x5)]),H5,H6])) J J (λz8 Z1 _=>?_) ?_))
 ·refine rc T 7 (cb J Z1 (λZ1=>?_) (λZ1=>?_))
  ·refine rc T 3 (kr (sO.R gG) [] [0,0,0] J Tf Z1 (sO.c · tk wb) (λv9 Z1=>?_));rintro _ _ ⟨a7,n7,H7,a8,H8,s7,s8,rfl,rfl⟩;refine fz J (ro T 3 (am (_,_,_,_,_,_,_,_,_,_,_,_) [0,0,0,0,0] ⟨oi Z1,s7,s8⟩ J J))
  refine rc T 1 (dD mix az (au T J (au T J (au T J (aO J J J (aw T J J J J (aI (j:=0) J J)) ?_)))))
  iterate 4 refine au T J ?_
  refine aO J J J (aw T J J J J (aI (j:=0) J J)) (au T J (au T J (dg (rx T 1 (cd J Z1 (λZ1=>?_) (λZ1=>?_))))))
  ·refine rc T 5 (lf T 0 J (ro T 4 (ks [0,6,7,8,9] J (fz J (rg [8,11] [0,0,0,0,0] mix (bM bL) (λhg pf=>ha T 8 [0,1,2,3] sz hg pf J (av 4 sz hg pf J (aw T J J J J (aI (j:=0) J J)) (av 5 sz hg pf J (gA T 4 J J J J J J J) (ha T 5 [6] sz hg pf J (ao 7 (cV (k:=kH) T [(br.mk (a,b) 0 0)] J J J J J J J J J (λa9 H9 s9=>an (so [0,0,0,0,0]) (ao 8 ?_)))))))))))));obtain⟨c5,Z1⟩:=aA Z1;refine ez (k:=kH) (xs:=l.ak) T (g:=1) J J J J J J J J J J tk (oO s9 5) c5 J (λcw n10 bZ bU=>an sl (hb T 9 sl hg pf J (hb T 10 sl hg pf J (ao 11 (sf T 0 J (an sl (ae (rx T 1 (rx T 1 (am (_,_,_,_,_,_,_,_,_,_,_,_) [3,3,0,0,0] ⟨oi Z1,bU,wb⟩ J J))))))))))
  refine rc T 5 (lf T 0 J (ro T 8 (kr (sO.R gG) [] [0,0,0] J Tf Z1 (sO.c · tk wb) (λv10 Z1=>?_))));rintro _ _ ⟨dA,n11,cB,a12,dz,dj,dL,rfl,rfl⟩;refine fz J (ro T 3 (ks [0,6,7,8,9] J (fz J (rz [12] mix (bM bL) (λhg pf=>ha T 10 [0,1,2] sz hg pf J (av 3 sz hg pf J (aw T J J J J (aI (j:=2) J J)) (ha T 6 [4,5,6] sz hg pf J (av 7 sz hg pf J (aw T J J J J (aI (j:=2) J J)) (ha T 4 [8] sz hg pf J ?_)))))))));obtain⟨c7,Z1⟩:=aA Z1;obtain⟨VT,Vq,wW⟩:=dj.r.addr c7.1 c7.2;refine av 9 sz hg pf J (cT T J J J J J wW c7.1 c7.2) (ha T 2 [10] sz hg pf J (av 11 sz hg pf J (fX T (cs:=[(ii (rd v10.ak l.di).key.1),(ii (rd v10.ak l.di).key.2)]) J J J J J J (aeS (k:=kH) (oO dj 3) wW c7 0 J)) (ao 12 (DF (g:=4) (m:=v10.eP) (k:=((rd v10.ak l.di).key.1,(rd v10.ak l.di).key.2)) T (Ky.pair T .i64 J J J lQ u3) (λx:Int=>Value.int .i64 x) J J J J J J J J dL (λfV gC=>an sl (ae (rx T 1 (ks [0,6,7,8,9] J (fz J (rz [8] mix (bM bL) (λhg pf=>ha T 6 [0,1,2] sz hg pf J (av 3 sz hg pf J (aw T J J J J (aI (j:=2) J J)) (ha T 4 [4] sz hg pf J (av 5 sz hg pf J (gA T 1 J J J J J J J) (av 6 sz hg pf J (cT T J J J J J wW c7.1 c7.2) (ha T 1 [7] sz hg pf J (ao 8 (kU (k:=kH) T 3 0 (br.mk (a,b) ((rd v10.ak l.di).cJ) ((rd v10.ak l.di).a_)) J J J J J J dj wW c7 J J J (λdP dV=>kg [0,6,7,8,9,43,44,45,47,48,49,50] [0,0,1,1] [0,0,1,1,0] [(46,(ll dA (List.set v10.ak (Int.toNat l.di) (br.mk (a,b) ((rd v10.ak l.di).cJ) ((rd v10.ak l.di).a_))) n11))] [(cl gG 238 [(ii v10.k),(ll dA (List.set v10.ak (Int.toNat l.di) (br.mk (a,b) ((rd v10.ak l.di).cJ) ((rd v10.ak l.di).a_))) n11),(.map (some a12)),(ii v10.cA),(ii v10.di)])] J J ⟨dN,trivial⟩ dN (an sl (ae (rx T 2 (am (_,_,_,_,_,_,_,_,_,_,_,_) [0,0,2,0,0] ⟨oi Z1,dV,gC⟩ J J)))))))))))))))))))))))
 rintro _ ⟨x1,x2,x3,x4,x5,x6,x7,a5,n5,H5,a6,H6⟩ ⟨rfl,s5,s6⟩ H;refine rc T 1 (fz J (rz [6] mix (bM bL) (λhg pf=>ha T 4 [0,1,2] sz hg pf J (av 3 sz hg pf J (aw T J J J J (aI (j:=2) J J)) (av 4 sz hg pf J (gA T 1 J J J J J J J) (ha T 1 [5] sz hg pf J (ao 6 (pU (g:=4) (m:=x3) (k:=(a,b)) (v:=x6) T (Ky.pair T .i64 J J J lQ u3) (λx:Int=>Value.int .i64 x) J J J J J J J s6 (λgk gd=>an sl (ae (rx T 5 (kr (xo.R gG) [] [2,2,2] J ada H (xo.c (l:=(fT.mk x1 x2 (cE x3 (a,b) x6) x4 x5)) · s5 gd) (λv11 H=>?_)))))))))))));rintro _ _ ⟨a17,n17,eF,iU,fe,fq,ft,rfl,rfl⟩;refine fz J (ro T 13 ?_)
 cases H;exact p1 T J [2,2,2,0] ⟨a17,n17,eF,iU,fe,fq,ft,J,J⟩ J
end
noncomputable section
def Dg.f (h:De) (ai:Int) (side:Int):Option Int:=if(¬h.t.W=0) then(if(¬h.t.W=0) then(if((side==0)&&(decide ((aa (Int.tdiv ai h.t.W))>0)))=true then(some (aa (ai-h.t.W))) else((if(side==1)=true then(some (decide ((Int.tmod ai h.t.W)<(aa (h.t.W-1))))) else(some false)).bind λx1=>if x1=true then(some (aa (ai+1))) else((if(side==2)=true then(some (decide ((aa (Int.tdiv ai h.t.W))<(aa (h.t.H-1))))) else(some false)).bind λx3=>if x3=true then(some (aa (ai+h.t.W))) else(if((side==3)&&(decide ((Int.tmod ai h.t.W)>0)))=true then(some (aa (ai-1))) else(some (-1)))))) else none) else none
theorem Dg.c (H:Dg.f h ai side=some r) (jm:(fy,Obj.cells #[(ii h.t.W),(ii h.t.H),(ll BJ h.t.C CE),(ll ku h.l kK),(ll BI h.aP CD)] 337 (0,0))∈F) (oC:aU (Fl.int .u8) h.t.C BJ F) (qB:List.length h.t.C<=CE) (pn:aU cH h.l ku F) (pe:List.length h.l<=kK) (l8:aU (Fl.int .i64) h.aP BI F) (qA:List.length h.aP<=CD):
 QU 295 [(pp fy),(ii ai),(ii side)] [] F (ii r):=by
 unfold Dg.f at H;refine aG Tryz.func295 J J (λW=>rc T 6 (dD mix az ?_))
 iterate 5 refine au T J ?_
 refine aO J J J (aw T J J J J (nM (j:=0) jm J J)) ?_;obtain⟨c1,H⟩:=aA H;refine aO J J J (vi J J J c1) ?_
 iterate 5 refine au T J ?_
 refine aO J J J (aw T J J J J (nM (j:=0) jm J J)) ?_;obtain⟨c2,H⟩:=aA H;refine aO J J J (vh J J J c2) (au T J (au T J (dg (rx T 8 (ga T [3,4,5] 26 [0,1,2,7,8] 29 J J J J J J J (ro T 3 (cb J H (λH=>?_) (λH=>?_))))))))
 ·refine rc T 7 (lg T J (nM (j:=0) jm J J) (ro T 7 ?_))
  cases H;exact p0 T J [0] J
 refine mq H [0,1,2,7,8] [0] (λz2 (x1:Bool)=>(x1=z2,[(37,(bb x1))],[])) J J (λz2 Z4 _=>?_) ?_
 ·refine rc T 4 (ab 40 J Z4 (λZ4=>?_) (λZ4=>?_))
  ·refine ro T 5 (lg T J (nM (j:=0) jm J J) (ro T 6 (am _ [0] (oi Z4) J J)))
  refine ro T 12 (am _ [0] (oi Z4) J J)
 rintro _ x1 rfl H;refine cb J H (λH=>?_) (λH=>?_)
 ·refine rc T 10 ?_
  cases H;exact p0 T J [0] J
 refine mq H [0,1,2,7] [0] (λz4 (x3:Bool)=>(x3=z4,[(52,(bb x3))],[])) J J (λz4 Z7 _=>?_) ?_
 ·refine rc T 4 (ab 55 J Z7 (λZ7=>?_) (λZ7=>?_))
  ·refine ro T 5 (lg T J (nM (j:=0) jm J J) (ro T 6 (am _ [0] (oi Z7) J J)))
  refine ro T 12 (am _ [0] (oi Z7) J J)
 rintro _ x3 rfl H;refine cb J H (λH=>?_) (λH=>?_)
 ·refine rc T 7 (lg T J (nM (j:=0) jm J J) (ro T 7 ?_))
  cases H;exact p0 T J [0] J
 refine rc T 5 (ga T [3,4,5] 75 [1] 78 J J J J J J J (ro T 3 (cb J H (λH=>?_) (λH=>?_))))
 ·refine rc T 10 ?_
  cases H;exact p0 T J [0] J
 refine rc T 9 ?_
 cases H;exact p0 T J [0] J
def kO.f (h:De) (ai:Int) (side:Int):Option Bool:=(Dg.f h ai side).bind λv1=>if v1<0 then((kN.f h.l ai side).bind λv2=>if(0<=ai/\ai<(List.length h.aP:Int)) then(some (v2==(rd h.aP ai))) else none) else((if(0<=v1/\v1<(List.length h.t.C:Int)) then(if((rd h.t.C v1)!=255)=true then(if(0<=v1/\v1<(List.length h.aP:Int)) then(if(0<=ai/\ai<(List.length h.aP:Int)) then(some ((aa ((aa (rd h.t.C v1))+(rd h.aP v1)))==(rd h.aP ai))) else none) else none) else(some false)) else none).bind λx3=>some x3)
theorem kO.c (H:kO.f h ai side=some r) (jm:(fy,Obj.cells #[(ii h.t.W),(ii h.t.H),(ll BJ h.t.C CE),(ll ku h.l kK),(ll BI h.aP CD)] 337 (0,0))∈F) (oC:aU (Fl.int .u8) h.t.C BJ F) (qB:List.length h.t.C<=CE) (pn:aU cH h.l ku F) (pe:List.length h.l<=kK) (l8:aU (Fl.int .i64) h.aP BI F) (qA:List.length h.aP<=CD):
 QU 277 [(pp fy),(ii ai),(ii side)] [] F (bb r):=by
 unfold kO.f at H;refine aG Tryz.func277 J J (λW=>rc T 10 (k [] J adL H (Dg.c · (qe jm (j:=0) J) (rO oC 0) qB (rO pn 0) pe (rO l8 0) qA) (λv1 H=>ro T 10 (cd J H (λH=>?_) (λH=>?_)))))
 ·refine rc T 1 (dD mix az (au T J (au T J (au T J (aO J J J (aw T J J J J (nM (j:=0) jm J J)) (au T J (au T J ?_)))))));obtain⟨v2,V3,H⟩:=gx H;refine uV J J J J J J Tm J (kN.c V3 (rO pn 0) pe) (au T J (au T J (au T J (aO J J J (aw T J J J J (nM (j:=0) jm J J)) (au T J ?_)))));obtain⟨c4,H⟩:=aA H;obtain⟨q1,o1,e1⟩:=l8.addr c4.1 c4.2;refine aO J J J (cT T J J J J J e1 c4.1 c4.2) (aO J J J (aw T J J J J (iY (k:=(Fl.int .i64)) (rO l8 0) e1 c4 0 J)) (au T J (au T J (dg (rx T 3 ?_)))))
  cases H;exact p0 T J [0] J
 refine rc T 2 (mq H [] [0] (λz4 (x3:Bool)=>(x3=z4,[(6,(bb x3))],[])) J J (λz4 Z5 _=>?_) ?_)
 ·refine dD mix az ?_
  iterate 4 refine au T J ?_
  refine aO J J J (aw T J J J J (nM (j:=0) jm J J)) (au T J ?_);obtain⟨c6,Z5⟩:=aA Z5;obtain⟨q2,o2,e2⟩:=oC.addr c6.1 c6.2;refine aO J J J (cT T J J J J J e2 c6.1 c6.2) (aO J J J (aw T J J J J (iY (k:=(Fl.int .u8)) (rO oC 0) e2 c6 0 J)) (au T J (au T J (qb 38 J Z5 (λZ5=>?_) (λZ5=>?_)))))
  ·iterate 4 refine au T J ?_
   refine aO J J J (aw T J J J J (nM (j:=0) jm J J)) (au T J (aO J J J (cT T J J J J J e2 c6.1 c6.2) (aO J J J (aw T J J J J (iY (k:=(Fl.int .u8)) (rO oC 0) e2 c6 0 J)) ?_)))
   iterate 4 refine au T J ?_
   refine aO J J J (aw T J J J J (nM (j:=0) jm J J)) (au T J ?_);obtain⟨c8,Z5⟩:=aA Z5;obtain⟨q3,o3,e3⟩:=l8.addr c8.1 c8.2;refine aO J J J (cT T J J J J J e3 c8.1 c8.2) (aO J J J (aw T J J J J (iY (k:=(Fl.int .i64)) (rO l8 0) e3 c8 0 J)) ?_)
   iterate 4 refine au T J ?_
   refine aO J J J (aw T J J J J (nM (j:=0) jm J J)) (au T J ?_);obtain⟨c9,Z5⟩:=aA Z5;refine aO J J J (cT T J J J J J e3 c9.1 c9.2) (aO J J J (aw T J J J J (iY (k:=(Fl.int .i64)) (rO l8 0) e3 c9 0 J)) (au T J (au T J (au T J (dg (rx T 1 (am _ [0] (oi Z5) J J)))))))
  iterate 27 refine au T J ?_
  refine dg (rx T 1 (am _ [0] (oi Z5) J J))
 rintro _ x3 rfl H;refine rc T 1 ?_
 cases H;exact p0 T J [0] J
def ES.f (h:De) (ai:Int) (side:Int):Option Int:=if(side==0)=true then((kO.f h ai 0).bind λv1=>if v1=true then(some 0) else((kO.f h ai 1).bind λv2=>if v2=true then(some 1) else((kO.f h ai 2).bind λv3=>if v3=true then(some 2) else((kO.f h ai 3).bind λv4=>if v4=true then(some 3) else(some 5))))) else(if(side==1)=true then((kO.f h ai 1).bind λv5=>if v5=true then(some 1) else((kO.f h ai 2).bind λv6=>if v6=true then(some 2) else((kO.f h ai 3).bind λv7=>if v7=true then(some 3) else(some 5)))) else(if(side==2)=true then((kO.f h ai 2).bind λv8=>if v8=true then(some 2) else((kO.f h ai 3).bind λv9=>if v9=true then(some 3) else(some 5))) else(if(side==3)=true then((kO.f h ai 3).bind λv10=>if v10=true then(some 3) else(some 5)) else(some 5))))
theorem ES.c (H:ES.f h ai side=some r) (jm:(fy,Obj.cells #[(ii h.t.W),(ii h.t.H),(ll BJ h.t.C CE),(ll ku h.l kK),(ll BI h.aP CD)] 337 (0,0))∈F) (oC:aU (Fl.int .u8) h.t.C BJ F) (qB:List.length h.t.C<=CE) (pn:aU cH h.l ku F) (pe:List.length h.l<=kK) (l8:aU (Fl.int .i64) h.aP BI F) (qA:List.length h.aP<=CD):
 QU 251 [(pp fy),(ii ai),(ii side)] [] F (ii r):=by
 unfold ES.f at H;refine aG Tryz.func251 J J (λW=>rc T 28 (cb J H (λH=>?_) (λH=>?_)))
 ·refine rc T 9 (k [] J xd H (kO.c · (qe jm (j:=0) J) (rO oC 0) qB (rO pn 0) pe (rO l8 0) qA) (λv1 H=>ro T 2 (cb J H (λH=>?_) (λH=>?_))))
  ·refine rc T 14 ?_
   cases H;exact p0 T J [0] J
  refine rc T 7 (k [] J xd H (kO.c · (qe jm (j:=0) J) (rO oC 0) qB (rO pn 0) pe (rO l8 0) qA) (λv2 H=>ro T 2 (cb J H (λH=>?_) (λH=>?_))))
  ·refine rc T 12 ?_
   cases H;exact p0 T J [0] J
  refine rc T 7 (k [] J xd H (kO.c · (qe jm (j:=0) J) (rO oC 0) qB (rO pn 0) pe (rO l8 0) qA) (λv3 H=>ro T 2 (cb J H (λH=>?_) (λH=>?_))))
  ·refine rc T 10 ?_
   cases H;exact p0 T J [0] J
  refine rc T 8 (k [] J xd H (kO.c · (qe jm (j:=0) J) (rO oC 0) qB (rO pn 0) pe (rO l8 0) qA) (λv4 H=>ro T 2 (cb J H (λH=>?_) (λH=>?_))))
  ·refine rc T 9 ?_
   cases H;exact p0 T J [0] J
  refine rc T 11 ?_
  cases H;exact p0 T J [0] J
 refine rc T 9 (cb J H (λH=>?_) (λH=>?_))
 ·refine rc T 11 (k [] J xd H (kO.c · (qe jm (j:=0) J) (rO oC 0) qB (rO pn 0) pe (rO l8 0) qA) (λv5 H=>ro T 2 (cb J H (λH=>?_) (λH=>?_))))
  ·refine rc T 12 ?_
   cases H;exact p0 T J [0] J
  refine rc T 7 (k [] J xd H (kO.c · (qe jm (j:=0) J) (rO oC 0) qB (rO pn 0) pe (rO l8 0) qA) (λv6 H=>ro T 2 (cb J H (λH=>?_) (λH=>?_))))
  ·refine rc T 10 ?_
   cases H;exact p0 T J [0] J
  refine rc T 8 (k [] J xd H (kO.c · (qe jm (j:=0) J) (rO oC 0) qB (rO pn 0) pe (rO l8 0) qA) (λv7 H=>ro T 2 (cb J H (λH=>?_) (λH=>?_))))
  ·refine rc T 9 ?_
   cases H;exact p0 T J [0] J
  refine rc T 11 ?_
  cases H;exact p0 T J [0] J
 refine rc T 9 (cb J H (λH=>?_) (λH=>?_))
 ·refine rc T 13 (k [] J xd H (kO.c · (qe jm (j:=0) J) (rO oC 0) qB (rO pn 0) pe (rO l8 0) qA) (λv8 H=>ro T 2 (cb J H (λH=>?_) (λH=>?_))))
  ·refine rc T 10 ?_
   cases H;exact p0 T J [0] J
  refine rc T 8 (k [] J xd H (kO.c · (qe jm (j:=0) J) (rO oC 0) qB (rO pn 0) pe (rO l8 0) qA) (λv9 H=>ro T 2 (cb J H (λH=>?_) (λH=>?_))))
  ·refine rc T 9 ?_
   cases H;exact p0 T J [0] J
  refine rc T 11 ?_
  cases H;exact p0 T J [0] J
 refine rc T 8 (cb J H (λH=>?_) (λH=>?_))
 ·refine rc T 15 (k [] J xd H (kO.c · (qe jm (j:=0) J) (rO oC 0) qB (rO pn 0) pe (rO l8 0) qA) (λv10 H=>ro T 2 (cb J H (λH=>?_) (λH=>?_))))
  ·refine rc T 9 ?_
   cases H;exact p0 T J [0] J
  refine rc T 11 ?_
  cases H;exact p0 T J [0] J
 refine rc T 19 ?_
 cases H;exact p0 T J [0] J
def Df.f (h:De) (ai:Int):Option Int:=if(0<=ai/\ai<(List.length h.aP:Int)) then(if((rd h.aP ai)==1099511627776)=true then(some 5) else((kN.f h.l ai 4).bind λv1=>if((rd h.aP ai)==v1)=true then(some 4) else((ES.f h ai 0).bind λv2=>some v2))) else none
theorem Df.c (H:Df.f h ai=some r) (jm:(fy,Obj.cells #[(ii h.t.W),(ii h.t.H),(ll BJ h.t.C CE),(ll ku h.l kK),(ll BI h.aP CD)] 337 (0,0))∈F) (oC:aU (Fl.int .u8) h.t.C BJ F) (qB:List.length h.t.C<=CE) (pn:aU cH h.l ku F) (pe:List.length h.l<=kK) (l8:aU (Fl.int .i64) h.aP BI F) (qA:List.length h.aP<=CD):
 QU 229 [(pp fy),(ii ai)] [] F (ii r):=by
 unfold Df.f at H;refine aG Tryz.func229 J J (λW=>rc T 11 (lg T J (nM (j:=0) jm J J) (ro T 1 ?_)));obtain⟨c1,H⟩:=aA H;obtain⟨q1,o1,e1⟩:=l8.addr c1.1 c1.2;refine ix T J e1 c1 (le T 0 (rO l8 0) e1 c1 J J (ro T 9 (cb J H (λH=>?_) (λH=>?_))))
 ·refine rc T 8 ?_
  cases H;exact p0 T J [0] J
 refine rc T 5 (lg T J (nM (j:=0) jm J J) (ro T 1 (k [] J Tm H (kN.c · (rO pn 0) pe) (λv1 H=>ro T 4 (cb J H (λH=>?_) (λH=>?_))))))
 ·refine rc T 8 ?_
  cases H;exact p0 T J [0] J
 refine rc T 7 (k [] J adt H (ES.c · (qe jm (j:=0) J) (rO oC 0) qB (rO pn 0) pe (rO l8 0) qA) (λv2 H=>ro T 4 ?_))
 cases H;exact p0 T J [0] J
def nY.l0:Nat->aM->(List ba)->((List Int)×Int)->List Int->Int->Option (fQ×Int)
 |0,_,_,_,_,_=>none
 |k6+1,t,l,v1,x4,x5=>if x5<(List.length v1.1:Int) then((Df.f (De.mk t l v1.1) x5).bind λv7=>if(List.length x4+1<=1099511627776) then(nY.l0 k6 t l v1 (x4++[v7]) (aa (x5+1))) else none) else(some ((fQ.mk v1.1 x4),0))
def nY.f (t:aM) (l:(List ba)):Option (fQ×Int):=(tD.f t l).bind λv1=>if(v1.2 !=0)=true then(some ((fQ.mk [] []),v1.2)) else(nY.l0 fuel t l v1 [] 0)
def nY.R (r:(fQ×Int)):bm:=λu G=> ∃a0 n0 H0 a1 n1 H1,aj (Fl.int .i64) 3 r.1.eW a0 n0 H0/\aj (Fl.int .i64) 3 r.1.cx a1 n1 H1/\u=(.tuple #[(.agg #[(ll a0 r.1.eW n0),(ll a1 r.1.cx n1)]),(ii r.2)])/\G=[H0,H1]
theorem nY.c (H:nY.f t l=some r) (dS:aU (Fl.int .u8) t.C iz F) (fo:List.length t.C<=iC) (dh:aU cH l iy F) (gz:List.length l<=iq):
 QR 188 [(.agg #[(ii t.W),(ii t.H),(ll iz t.C iC)]),(ll iy l iq)] [] [] F (nY.R r):=by
 unfold nY.f at H;refine aG Tryz.func188 J J (λW=>rc T 2 (nc T J (λb1=>nc T J (λb2=>ro T 5 (lm T 1 J (ro T 1 (kr tD.R [] [] J Tg H (tD.c · (rO dS 0) fo (rO dh 0) gz) (λv1 H=>?_))))))));rintro _ _ ⟨a3,n3,H3,s3,rfl,rfl⟩;refine fz J (ro T 14 (cb J H (λH=>?_) (λH=>?_)))
 ·refine rc T 4 (sg T 2 J (ro T 5 ?_))
  cases H;refine bC (bC (pb T J (.cN (j:=2) [nl,nl] J J J J J J J (.tmp J .nil)) [4,4,0] ⟨(_,_),none,0,[],none,0,[],aj.nil,aj.nil,J,J⟩ J J))
 refine rc T 4 (lm T 1 J (ro T 3 (nc T J (λb6=>ro T 2 (ke [4,6,8] [0,1,1,1] J J (rx T 5 (nc T J (λb7=>sg T 4 J (ro T 11 (bC (lq [4,8,9,29] [0,0,1,0] (λ(⟨k6,x4,x5,a9,n9,H9⟩:Nat×List Int×Int×Option Addr×Nat×Hp)=>(nY.l0 k6 t l v1 x4 x5=some r/\aj (Fl.int .i64) 3 x4 a9 n9 H9,[(30,(ii x5))],[(cl b7 79 [(ll a3 v1.1 n3),(ll a9 x4 n9)]),H9])) J J (fuel,[],0,none,0,[]) [0,0,1,0,0,0] ⟨H,aj.nil⟩ J J ?_)))))))))));rintro k6 ⟨x4,x5,a9,n9,H9⟩ ⟨Z3,s9⟩;rw[nY.l0] at Z3;refine rc T 6 (cd J Z3 (λZ3=>?_) (λZ3=>?_))
 ·refine rc T 10 (fz J (rg [6,8] [0,0,0,0,0,0] mix (bM bL) (λhg pf=>ha T 8 [0] sz hg pf J (av 1 sz hg pf J (aw T J J J J (aI (j:=4) J J)) (ha T 5 [2,3] sz hg pf J (ao 4 (kh [] J ade Z3 (Df.c (h:=(De.mk t l v1.1)) · (Cz (j:=2) J) (rO dS 0) fo (rO dh 0) gz (oO s3 3) s3.bW) (λv7 Z3=>an sz (ao 5 (cV (k:=(Fl.int .i64)) T [v7] J J J J J J J J J (λcw bZ bU=>an (so [0,0,0,0,0,0]) (ao 6 ?_))))))))))));obtain⟨c6,Z3⟩:=aA Z3;refine ez (k:=(Fl.int .i64)) (xs:=x4) T (g:=5) J J J J J J J J J J s9 (oO bU 6) c6 J (λdA n11 cB dj=>an sl (hb T 7 sl hg pf J (ao 8 (sf T 4 J (an sl (ae (rx T 7 (ar (_,_,_,_,_) [0,0,0,0,0,0] ⟨Z3,dj⟩ J J))))))))
 refine rc T 7 (lm T 4 J (sg T 1 J (ro T 4 ?_)))
 cases Z3;exact pb T J (.cN (j:=1) [(ll a3 v1.1 n3),(ll a9 x4 n9)] J J J J J J J (.tmp J .nil)) [3,4,0] ⟨(_,_),a3,n3,H3,a9,n9,H9,s3,s9,J,J⟩ J J
end
noncomputable section
def xM.f (ag:Int):Option (Option ju):=if ag<1 then(some none) else((xp.f ag).bind λv1=>du v1 (none) (λfc=>some (some (ju.mk fc [] (fx.mk 0 0 0 0 0 0)))))
def xM.R (r:(Option ju)):bm:=λu G=> ∃(u0:Value) (G0:List Hp),X6 r u0 G0/\u=u0/\G=G0
theorem xM.c (H:xM.f ag=some r):
 QR 77 [(ii ag)] [] [] F (xM.R r):=by
 unfold xM.f at H;refine aG Tryz.func77 J J (λW=>rc T 12 (cd J H (λH=>?_) (λH=>?_)))
 ·refine rc T 7 ?_
  cases H;exact p1 T J [0] ⟨_,_,⟨J,J⟩,J,J⟩ J
 refine rc T 5 (kr xp.R [] [] J acg H (xp.c ·) (λv1 H=>?_));rintro _ _ ⟨_,_,O3,rfl,rfl⟩;rcases v1 with _ |fc
 ·replace H:=fi J H
  cases H
 replace H:=fj J H;obtain⟨b1,a2,n2,H2,a3,H3,s2,s3,rfl,rfl⟩:=O3;refine ro T 1 (nc T J (λb4=>ro T 4 ?_))
 cases H;refine bC (gw [4,1,1,1,1] J (p1 T J [1,0] ⟨_,_,⟨b4,(List.flatten [(cl b4 173 [(pp b1),nl,(uu 0),(uu 0),(uu 0),(uu 0),(uu 0),(uu 0)]),(cl b1 238 [(ii fc.k),(ll a2 fc.ak n2),(.map (some a3)),(ii fc.cA),(ii fc.di)]),H2,H3,[]]),(show sk (ju.mk fc [] (fx.mk 0 0 0 0 0 0)) b4 (List.flatten [(cl b4 173 [(pp b1),nl,(uu 0),(uu 0),(uu 0),(uu 0),(uu 0),(uu 0)]),(cl b1 238 [(ii fc.k),(ll a2 fc.ak n2),(.map (some a3)),(ii fc.cA),(ii fc.di)]),H2,H3,[]]) from⟨b1,a2,n2,H2,a3,H3,none,0,[],s2,s3,(gF.nil (kd:=EB) (E:=291)),J⟩),J,J⟩,J,J⟩ J))
def EO.f (s:ju):Option fx:=some s.count
theorem EO.c (H:EO.f s=some r) (cX:sk s bj eG):
 QU 80 [(pp bj)] [eG] F (.agg #[(uu r.bB),(uu r.bw),(uu r.bk),(uu r.bn),(uu r.bF),(uu r.bE)]):=by
 unfold EO.f at H;refine aG Tryz.func80 J J (λW=>rc T 2 (nc T J (λb2=>ro T 9 (eY J (rc T 3 ?_)))));obtain⟨b4,a5,n5,H5,a6,H6,a7,n7,H7,s5,s6,s7,dt⟩:=(λx=>x) cX;refine bS 0 (congrArg some dt) (fz J (rc T 4 (lm T 2 J (sg T 1 J (ro T 3 ?_)))))
 cases H;refine dr [2,2,2,2,2] J dt (pb T J (.cN (j:=1) [(uu s.count.bB),(uu s.count.bw),(uu s.count.bk),(uu s.count.bn),(uu s.count.bF),(uu s.count.bE)] J J J J J J J .nil) [2,0] () J J)
def pM.f (s:ju):Option ju:=(zh.f s.keys).bind λv1=>some (ju.mk v1 [] s.count)
def pM.R (nC:Nat) (r:ju):bm:=λu G=> ∃(H0:Hp),sk r nC H0/\u=(.tuple #[])/\G=[H0]
theorem pM.c (H:pM.f s=some r) (cX:sk s bj eG):
 QR 117 [(pp bj)] [eG] [] F (pM.R bj r):=by
 unfold pM.f at H;refine aG Tryz.func117 J J (λW=>rc T 6 (ov J (rc T 1 ?_)));obtain⟨b3,a4,n4,H4,a5,H5,a6,n6,H6,s4,s5,s6,cy⟩:=(λx=>x) cX;refine bS 0 (congrArg some cy) (fz J (rc T 4 (lf T 1 J (kr (zh.R b3) [] [2,2,2] J SQ H (zh.c · s4 s5) (λv1 H=>?_)))));rintro _ _ ⟨a7,n7,H7,a8,H8,s7,s8,rfl,rfl⟩;refine fz J (ro T 6 (sg T 1 J (ro T 1 (jf ?_))))
 cases H;refine bC (gw [1,2,2,2,2] J (p1 T J [2,0] ⟨(List.flatten [(cl bj 173 [(pp b3),nl,(uu s.count.bB),(uu s.count.bw),(uu s.count.bk),(uu s.count.bn),(uu s.count.bF),(uu s.count.bE)]),(cl b3 238 [(ii v1.k),(ll a7 v1.ak n7),(.map (some a8)),(ii v1.cA),(ii v1.di)]),H7,H8,[]]),(show sk (ju.mk v1 [] s.count) bj (List.flatten [(cl bj 173 [(pp b3),nl,(uu s.count.bB),(uu s.count.bw),(uu s.count.bk),(uu s.count.bn),(uu s.count.bF),(uu s.count.bE)]),(cl b3 238 [(ii v1.k),(ll a7 v1.ak n7),(.map (some a8)),(ii v1.cA),(ii v1.di)]),H7,H8,[]]) from⟨b3,a7,n7,H7,a8,H8,none,0,[],s7,s8,(gF.nil (kd:=EB) (E:=291)),J⟩),J,J⟩ J))
def mJ.f (count:Int):Option Int:=(rZ.f count 1).bind λv1=>some v1
def mJ.R (aat:Nat) (aai:TypeId) (aaS aaT:List Value) (r:Int) (u:Value) (G:List Hp):Prop:=u=(.tuple #[])/\G=[[(aat,Obj.cells (aaS++(Value.int .u64 r)::aaT).toArray aai (0,0))]]
theorem mJ.c (H:mJ.f count=some r):
 QR 186 [(.pointer (some ⟨QQ,List.length pre_count,none⟩))] [[(QQ,Obj.cells (pre_count++(uu count)::post_count).toArray Yb (0,0))]] [] F (mJ.R QQ Yb pre_count post_count r):=by
 unfold mJ.f at H;refine aG Tryz.func186 J J (λW=>rc T 4 (lg T J (aeT (j:=0) J) (k [] J Jy H (rZ.c ·) (λv1 H=>ro T 1 (aZ (Zt T 0 J J J J J J ?_))))));refine ro T 1 (jf ?_)
 cases H;exact p1 T J [0,0] ⟨J,J⟩ J
def tx.f (ag:fQ):Option fQ:=(qo.f ag.eW).bind λv1=>(qo.f ag.cx).bind λv2=>some (fQ.mk v1 v2)
def tx.R (r:fQ):bm:=λu G=> ∃a0 n0 H0 a1 n1 H1,aj (Fl.int .i64) 3 r.eW a0 n0 H0/\aj (Fl.int .i64) 3 r.cx a1 n1 H1/\u=(.agg #[(ll a0 r.eW n0),(ll a1 r.cx n1)])/\G=[H0,H1]
theorem tx.c (H:tx.f ag=some r) (acd:aU (Fl.int .i64) ag.eW Yj F) (aam:List.length ag.eW<=agd) (acb:aU (Fl.int .i64) ag.cx Yi F) (aal:List.length ag.cx<=agc):
 QR 187 [(.agg #[(ll Yj ag.eW agd),(ll Yi ag.cx agc)])] [] [] F (tx.R r):=by
 unfold tx.f at H;refine aG Tryz.func187 J J (λW=>rc T 2 (nc T J (λb1=>nc T J (λb2=>ro T 3 (ks [1,2] J (fz J (rg [7] [0,0,0] mix (bM bL) (λhg pf=>ha T 7 [0] sz hg pf J (av 1 sz hg pf J (aw T J J J J (aI (j:=1) J J)) (ha T 5 [3] sz hg pf J (av 4 sz hg pf J (aw T J J J J (aI (j:=1) J J)) (ao 2 (kR qo.R [] [] J Nh H (qo.c · (rO acd 0) aam) (λv1 H=>?_))))))))))))));rintro _ _ ⟨a3,n3,H3,s3,rfl,rfl⟩;refine fz J (an (so [0,0,0]) (ao 5 (kR qo.R [] [] J Nh H (qo.c · (rO acb 0) aal) (λv2 H=>?_))));rintro _ _ ⟨a4,n4,H4,s4,rfl,rfl⟩;refine fz J (an (so [0,0,0]) (ha T 1 [6] (so [0,0,0]) hg pf J (ao 7 (sf T 2 J (an sl (ae (rx T 1 (rc T 1 ?_))))))))
 cases H;exact pb T J (.cN (j:=2) [(ll a3 v1 n3),(ll a4 v2 n4)] J J J J J J J .nil) [3,3,0] ⟨(_,_),a3,n3,H3,a4,n4,H4,s3,s4,J,J⟩ J J
def mH.f (s:ju) (goal:Int) (bG:Int) (version:Int) (t:aM) (l:(List ba)):Option (fQ×Int×ju):=(zG.f t l).bind λv1=>if(!v1)=true then(some ((fQ.mk [] []),1,s)) else((xn.f s.keys goal bG).bind λv2=>(if(v2.1==(List.length s.fields:Int))=true then(if(List.length s.fields+1<=1099511627776) then(some (s.fields++[(qm.mk 0 [] (fQ.mk [] []))])) else none) else(some s.fields)).bind λx3=>if(0<=v2.1/\v2.1<(List.length x3:Int)) then((if v2.2.1=true then(if((rd x3 v2.1).version==version)=true then((Bb.f ((rd x3 v2.1).tv) l).bind λv7=>some v7) else(some false)) else(some false)).bind λx5=>if x5=true then((mJ.f s.count.bn).bind λv8=>(tx.f ((rd x3 v2.1).field)).bind λv9=>some (v9,0,(ju.mk v2.2.2.2 x3 (fx.mk s.count.bB s.count.bw s.count.bk v8 s.count.bF s.count.bE)))) else((if v2.2.1=true then((mJ.f s.count.bF).bind λv12=>some v12) else(some s.count.bF)).bind λaN=>(if v2.2.2.1=true then((mJ.f s.count.bE).bind λcD=>some cD) else(some s.count.bE)).bind λaS=>(mJ.f s.count.bk).bind λdG=>(nY.f t l).bind λv17=>(rV.f l).bind λfG=>(tx.f v17.1).bind λnj=>some (nj,0,(ju.mk v2.2.2.2 (List.set x3 (Int.toNat v2.1) (qm.mk version fG v17.1)) (fx.mk s.count.bB s.count.bw dG s.count.bn aN aS))))) else none)
def mH.R (nC:Nat) (r:(fQ×Int×ju)):bm:=λu G=> ∃(a0 n0 H0:_) (a1 n1 H1:_) (H2:Hp),aj (Fl.int .i64) 3 r.1.eW a0 n0 H0/\aj (Fl.int .i64) 3 r.1.cx a1 n1 H1/\sk r.2.2 nC H2/\u=(.tuple #[(.agg #[(ll a0 r.1.eW n0),(ll a1 r.1.cx n1)]),(ii r.2.1)])/\G=[H0,H1,H2]
theorem mH.c (H:mH.f s goal bG version t l=some r) (cX:sk s bj eG) (dS:aU (Fl.int .u8) t.C iz F) (fo:List.length t.C<=iC) (dh:aU cH l iy F) (gz:List.length l<=iq):
 QR 144 [(pp bj),(ii goal),(ii bG),(ii version),(.agg #[(ii t.W),(ii t.H),(ll iz t.C iC)]),(ll iy l iq)] [eG] [] F (mH.R bj r):=by
 unfold mH.f at H;refine aG Tryz.func144 J J (λW=>rc T 2 (nc T J (λb2=>nc T J (λb3=>ro T 9 (lm T 2 J (ro T 1 (k [] J S4 H (zG.c · (rO dS 1) fo (rO dh 1) gz) (λv1 H=>ro T 4 (cb J H (λH=>?_) (λH=>?_))))))))))
 ·refine rc T 3 (sg T 3 J (ro T 5 ?_))
  cases H;refine bC (bC (pb T J (.cN (j:=3) [nl,nl] J J J J J J J (.tmp J .nil)) [4,4,0,0] ⟨(_,_),none,0,[],none,0,[],eG,aj.nil,aj.nil,cX,J,J⟩ J J))
 refine rc T 3 ?_;obtain⟨b7,a8,n8,H8,a9,H9,cw,n10,bZ,s8,s9,bU,hH6⟩:=(λx=>x) cX;refine bS 0 (congrArg some hH6) (fz J (rc T 4 (lf T 3 J (ro T 2 (kr (xn.R b7) [] [4,4,4] J acQ H (xn.c · s8 s9) (λv2 H=>?_))))));rintro _ _ ⟨dA,n11,cB,a12,dz,dj,dL,rfl,rfl⟩;refine fz J (ro T 9 (mq H [0,3,5,10,12,14,15,16] [0,4,4,4,0,0] (λz4 (⟨x3,dH,n13,eJ⟩:List qm×Option Addr×Nat×Hp)=>(x3=z4/\gF EB 291 x3 dH n13 eJ,[],[(cl bj 173 [(pp b7),(ll dH x3 n13),(uu s.count.bB),(uu s.count.bw),(uu s.count.bk),(uu s.count.bn),(uu s.count.bF),(uu s.count.bE)]),eJ])) J J (λz4 Z4 _=>?_) ?_))
 ·refine rc T 6 (lf T 3 J (ro T 4 (cb J Z4 (λZ4=>?_) (λZ4=>?_))))
  ·refine rc T 5 (lf T 3 J (ro T 1 (bC (bC (bC (gw [8,8,8] J (aZ (FD (kd:=EB) (E:=291) (q:=8) (c:=[(ii 0),nl,nl,nl]) T (qm.mk 0 [] (fQ.mk [] [])) J J J J J J J J J J ⟨none,0,[],none,0,[],none,0,[],(aj.nil (k:=cH) (E:=285)),(aj.nil (k:=(Fl.int .i64)) (E:=3)),(aj.nil (k:=(Fl.int .i64)) (E:=3)),J,J⟩ (λiU fe ft=>?_)))))))));obtain⟨c6,Z4⟩:=aA Z4;refine aZ (FC (kd:=EB) (xs:=s.fields) (ys:=[(qm.mk 0 [] (fQ.mk [] []))]) T (g:=4) (q:=9) J J J J J J J J J J bU J J ft c6 J (λmr n19 kn gp=>ro T 2 (sg T 3 J (ro T 1 (ke [0,3,5,10,12,14,15,16] [0,0,0,0,0,0,0,0] J J (rx T 1 (am (_,_,_,_) [0,4,4,4,0,0,0,0] ⟨oi Z4,gp⟩ J J)))))))
  refine rc T 2 (am (_,_,_,_) [0,4,4,4,0,0,0,0] ⟨oi Z4,bU⟩ J J)
 rintro _ ⟨x3,dH,n13,eJ⟩ ⟨rfl,dm⟩ H;refine rc T 5 (lf T 6 J (ro T 1 ?_));obtain⟨c7,H⟩:=aA H;obtain⟨q20,o20,Au⟩:=dm.r.addr c7.1 c7.2;refine ix T J Au c7 (ro T 4 (mq H [0,3,5,10,12,15,16,17] [0,5,0,0,0,2,0,0] (λz6 (x5:Bool)=>(x5=z6,[(79,(bb x5))],[])) J J (λz6 Z8 _=>?_) ?_))
 ·refine rc T 3 (ab 64 J Z8 (λZ8=>?_) (λZ8=>?_))
  ·refine ro T 3 ?_;obtain⟨_,Xy,⟨a21,n21,a22,n22,a23,n23,⟨r21,m21⟩,⟨r22,m22⟩,⟨r23,m23⟩,rfl⟩⟩:=mo.view dm.r c7;refine lg T J (zb (j:=7) J Xy Au 0 J) (ro T 4 (ab 72 J Z8 (λZ8=>?_) (λZ8=>?_)))
   ·refine ro T 3 (lg T J (zb (j:=7) J Xy Au 1 J) (ro T 1 (k [] J acR Z8 (Bb.c · (rO r21 7) m21 (rO dh 0) gz) (λv7 Z8=>ro T 3 (am _ [0,5,0,0,0,2,0,0] (oi Z8) J J)))))
   refine ro T 9 (am _ [0,5,0,0,0,2,0,0] (oi Z8) J J)
  refine ro T 17 (am _ [0,5,0,0,0,2,0,0] (oi Z8) J J)
 rintro _ x5 rfl H;refine cb J H (λH=>?_) (λH=>?_)
 ·refine rc T 6 (kr (mJ.R bj 173 [(pp b7),(ll dH x3 n13),(uu s.count.bB),(uu s.count.bw),(uu s.count.bk)] [(uu s.count.bF),(uu s.count.bE)]) [] [1] J JC H (mJ.c (pre_count:=[(pp b7),(ll dH x3 n13),(uu s.count.bB),(uu s.count.bw),(uu s.count.bk)]) (post_count:=[(uu s.count.bF),(uu s.count.bE)]) ·) (λv8 H=>?_));rintro _ _ ⟨rfl,rfl⟩;refine fz J (ro T 7 ?_);obtain⟨_,w28,⟨a25,n25,a26,n26,IL,n27,⟨r25,m25⟩,⟨r26,m26⟩,⟨r27,m27⟩,rfl⟩⟩:=mo.view dm.r c7;refine bz J (fX T (cs:=[(ll a26 (rd x3 v2.1).field.eW n26),(ll IL (rd x3 v2.1).field.cx n27)]) J J J J J J (Oc (j:=4) J w28 Au 2 J)) (kr tx.R [] [] J S5 H (tx.c · (rO r26 4) m26 (rO r27 4) m27) (λv9 H=>?_));rintro _ _ ⟨yr,n29,rk,BH,n30,rl,qQ,pH,rfl,rfl⟩;refine fz J (sg T 6 J (ro T 5 ?_))
  cases H;refine gw [7,1,1,1,1] J (pb T J (.cN (j:=2) [(ll yr v9.eW n29),(ll BH v9.cx n30)] J J J J J J J (.tmp J .nil)) [3,3,3,0] ⟨(_,_),yr,n29,rk,BH,n30,rl,(List.flatten [(cl bj 173 [(pp b7),(ll dH x3 n13),(uu s.count.bB),(uu s.count.bw),(uu s.count.bk),(uu v8),(uu s.count.bF),(uu s.count.bE)]),(cl b7 238 [(ii v2.2.2.2.k),(ll dA v2.2.2.2.ak n11),(.map (some a12)),(ii v2.2.2.2.cA),(ii v2.2.2.2.di)]),cB,dz,eJ]),qQ,pH,(show sk (ju.mk v2.2.2.2 x3 (fx.mk s.count.bB s.count.bw s.count.bk v8 s.count.bF s.count.bE)) bj (List.flatten [(cl bj 173 [(pp b7),(ll dH x3 n13),(uu s.count.bB),(uu s.count.bw),(uu s.count.bk),(uu v8),(uu s.count.bF),(uu s.count.bE)]),(cl b7 238 [(ii v2.2.2.2.k),(ll dA v2.2.2.2.ak n11),(.map (some a12)),(ii v2.2.2.2.cA),(ii v2.2.2.2.di)]),cB,dz,eJ]) from⟨b7,dA,n11,cB,a12,dz,dH,n13,eJ,dj,dL,dm,J⟩),J,J⟩ J J)
 refine rc T 2 (mq H [0,3,5,10,12,16,17] [0,1,1,1,1,1,1] (λlT (aN:Int)=>(aN=lT,[],[(cl bj 173 [(pp b7),(ll dH x3 n13),(uu s.count.bB),(uu s.count.bw),(uu s.count.bk),(uu s.count.bn),(uu aN),(uu s.count.bE)])])) J J (λlT dp _=>?_) ?_)
 ·refine rc T 5 (cb J dp (λdp=>?_) (λdp=>?_))
  ·refine rc T 5 (kr (mJ.R bj 173 [(pp b7),(ll dH x3 n13),(uu s.count.bB),(uu s.count.bw),(uu s.count.bk),(uu s.count.bn)] [(uu s.count.bE)]) [] [1] J JC dp (mJ.c (pre_count:=[(pp b7),(ll dH x3 n13),(uu s.count.bB),(uu s.count.bw),(uu s.count.bk),(uu s.count.bn)]) (post_count:=[(uu s.count.bE)]) ·) (λv12 dp=>?_));rintro _ _ ⟨rfl,rfl⟩;refine fz J (ro T 2 (am _ [0,0,0,0,0,0,0,0] (oi dp) J J))
  refine rc T 2 (am _ [0,1,1,1,1,1,1,0] (oi dp) J J)
 rintro _ aN rfl H;refine mq H [0,3,5,10,12,17] [0,0,0,0,0,0,0] (λBw (aS:Int)=>(aS=Bw,[],[(cl bj 173 [(pp b7),(ll dH x3 n13),(uu s.count.bB),(uu s.count.bw),(uu s.count.bk),(uu s.count.bn),(uu aN),(uu aS)])])) J J (λBw fw _=>?_) ?_
 ·refine rc T 5 (cb J fw (λfw=>?_) (λfw=>?_))
  ·refine rc T 5 (kr (mJ.R bj 173 [(pp b7),(ll dH x3 n13),(uu s.count.bB),(uu s.count.bw),(uu s.count.bk),(uu s.count.bn),(uu aN)] []) [] [7] J JC fw (mJ.c (pre_count:=[(pp b7),(ll dH x3 n13),(uu s.count.bB),(uu s.count.bw),(uu s.count.bk),(uu s.count.bn),(uu aN)]) (post_count:=[]) ·) (λcD fw=>?_));rintro _ _ ⟨rfl,rfl⟩;refine fz J (ro T 2 (am _ [0,0,0,0,0,0,0,0] (oi fw) J J))
  refine rc T 2 (am _ [0,0,0,0,0,0,0,0] (oi fw) J J)
 rintro _ aS rfl H;refine rc T 6 (kr (mJ.R bj 173 [(pp b7),(ll dH x3 n13),(uu s.count.bB),(uu s.count.bw)] [(uu s.count.bn),(uu aN),(uu aS)]) [] [7] J JC H (mJ.c (pre_count:=[(pp b7),(ll dH x3 n13),(uu s.count.bB),(uu s.count.bw)]) (post_count:=[(uu s.count.bn),(uu aN),(uu aS)]) ·) (λdG H=>?_));rintro _ _ ⟨rfl,rfl⟩;refine fz J (ro T 4 (lm T 5 J (ro T 1 (kr nY.R [] [] J acS H (nY.c · (rO dS 0) fo (rO dh 0) gz) (λv17 H=>?_)))));rintro _ _ ⟨a31,n31,BB,a32,n32,Ix,zx,zy,rfl,rfl⟩;refine fz J (ro T 3 (nc T J (λb33=>sg T 10 J (ro T 4 (ke [3,5,12,17,18] [0,0,0,0,0,1,1,1,1,1] J J (fz J (rg [7] [0,0,0,0,0,0,0,0,0,0] mix (bM bL) (λhg pf=>ha T 5 [0,1,2] sz hg pf J (av 4 sz hg pf J (gA T 9 J J J J J J J) (ao 3 (kR rV.R [] [] J S6 H (rV.c · (rO dh 0) gz) (λfG H=>?_))))))))))));rintro _ _ ⟨Fk,n34,uI,xK,rfl,rfl⟩;refine fz J (an (so [0,0,0,0,0,0,0,0,0,0]) (ha T 1 [5,6] (so [0,0,0,0,0,0,0,0,0,0]) hg pf J (ao 7 (LQ (j:=4) J dm c7 (λ_ _ zU Vt A9=>?_)))));obtain⟨a35,n35,Iz,z_,n36,zT,a37,n37,E_,KQ,C3,C4,rfl,rfl⟩:=Vt;refine LU (LR T 4 0 [(ii version),(ll Fk fG n34),(ll a31 v17.1.eW n31),(ll a32 v17.1.cx n32)] J J J J J J A9 Au J J J J (λLq A_=>an sl (ae (rx T 3 (lm T 9 J (kr tx.R [] [] J S5 H (tx.c · (oO zx 7) zx.bW (oO zy 8) zy.bW) (λnj H=>?_)))))));rintro _ _ ⟨a40,n40,Lr,a41,n41,Fa,EG,zA,rfl,rfl⟩;refine fz J (sg T 5 J (ro T 2 (gw [10,7,7] J (LP (j:=4) (q:=13) (qm.mk version fG v17.1) J A_ J J ⟨Fk,n34,uI,a31,n31,BB,a32,n32,Ix,xK,zx,zy,J,J⟩ (λgD tg=>kg [12,13] [0,0,0,0,0,0,5,5] [0,0,0,0,0,0,5,5,0] [] [(cl bj 173 [(pp b7),(ll dH (List.set x3 (Int.toNat v2.1) (qm.mk version fG v17.1)) n13),(uu s.count.bB),(uu s.count.bw),(uu dG),(uu s.count.bn),(uu aN),(uu aS)])] J J trivial dN (rx T 2 ?_))))))
 cases H;refine gw [8,1,1,1,1] J (pb T J (.cN (j:=1) [(ll a40 nj.eW n40),(ll a41 nj.cx n41)] J J J J J J J (.tmp J .nil)) [2,2,2,0] ⟨(_,_),a40,n40,Lr,a41,n41,Fa,(List.flatten [(cl bj 173 [(pp b7),(ll dH (List.set x3 (Int.toNat v2.1) (qm.mk version fG v17.1)) n13),(uu s.count.bB),(uu s.count.bw),(uu dG),(uu s.count.bn),(uu aN),(uu aS)]),(cl b7 238 [(ii v2.2.2.2.k),(ll dA v2.2.2.2.ak n11),(.map (some a12)),(ii v2.2.2.2.cA),(ii v2.2.2.2.di)]),cB,dz,gD]),EG,zA,(show sk (ju.mk v2.2.2.2 (List.set x3 (Int.toNat v2.1) (qm.mk version fG v17.1)) (fx.mk s.count.bB s.count.bw dG s.count.bn aN aS)) bj (List.flatten [(cl bj 173 [(pp b7),(ll dH (List.set x3 (Int.toNat v2.1) (qm.mk version fG v17.1)) n13),(uu s.count.bB),(uu s.count.bw),(uu dG),(uu s.count.bn),(uu aN),(uu aS)]),(cl b7 238 [(ii v2.2.2.2.k),(ll dA v2.2.2.2.ak n11),(.map (some a12)),(ii v2.2.2.2.cA),(ii v2.2.2.2.di)]),cB,dz,gD]) from⟨b7,dA,n11,cB,a12,dz,dH,n13,gD,dj,dL,tg,J⟩),J,J⟩ J J)
end
end Go.Proofs.YthodkonhneebbaaGreatDoor
