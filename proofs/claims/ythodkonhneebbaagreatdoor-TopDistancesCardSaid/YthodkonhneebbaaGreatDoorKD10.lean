/- What the functions of some packages compute, each as a function of plain Lean, with its contract. No condition. -/
import Derived.Test.YthodkonhneebbaaGreatDoorKDT
import Derived.Test.YthodkonhneebbaaGreatDoorKD7
import Derived.Test.YthodkonhneebbaaGreatDoorKD9
import Derived.Test.YthodkonhneebbaaGreatDoorKD5
import Derived.Test.YthodkonhneebbaaGreatDoorKD6
namespace Go.Proofs.YthodkonhneebbaaGreatDoor
open Go.Hx
open Int renaming tmod->fy,tdiv->cZ,toNat->ax
open List renaming length->aa,set->aD,flatten_cons->vC,flatten_append->vB,flatten_nil->vD,append_nil->sY,append_assoc->uz
set_option maxRecDepth 100000
set_option linter.unusedSimpArgs false
set_option linter.unusedVariables false
set_option maxHeartbeats 4000000
set_option autoImplicit true
set_option relaxedAutoImplicit true
noncomputable section
def Hz.f:Option Int:=some 0
theorem Hz.c (H:Hz.f=some r):
 QU 108 [(.pointer none)] [] F (uu r):=by
 unfold Hz.f at H;refine aG Tryz.func108 J J (λW=>rc T 12 (nL J (rc T 7 ?_)))
 cases H;exact p0 T J [0] J
def HA.f (ag:jY) (jW:dK) (fh:bw):Option Int:=some ag.count
theorem HA.c (H:HA.f ag jW fh=some r) (cS:uw ag aW l7 jP dp) (zX:mZ jW l7 jP pe) (pS:iH fh jP mu):
 QU 108 [(pp aW)] [dp,pe,mu] F (uu r):=by
 unfold HA.f at H;refine aG Tryz.func108 J J (λW=>rc T 12 (e_ J (rc T 3 ?_)));obtain⟨BA,H7,s7,lz⟩:=(λx=>x) cS;refine bX 0 (congrArg some lz) (fz J (rc T 4 (lf T 3 J (ro T 4 ?_))))
 cases H;refine dz [3,3] J lz (p0 T J [3,0,0,0] J)
def tS.f (m:dK) (g:bw):Option (Option jY):=some (some (jY.mk none 0))
def tS.R (w0:Nat) (w1:Nat) (r:(Option jY)):bk:=λu G=> ∃(u0:Value) (G0:List Hp),XS w0 w1 r u0 G0/\u=u0/\G=G0
theorem tS.c (H:tS.f m g=some r) (sJ:mZ m iJ fk ny) (fO:iH g fk gn):
 QR 151 [(pp iJ),(pp fk)] [ny,gn] [ny,gn] F (tS.R iJ fk r):=by
 unfold tS.f at H;refine aG Tryz.func151 J J (λW=>rc T 16 (e_ J (rc T 7 (nc T J (λb3=>ro T 4 ?_)))))
 cases H;refine bA (gD [3,3] J (p1 T J [3,0,0,0] ⟨_,_,⟨b3,(List.flatten [(cl b3 233 [(pp iJ),(pp fk),(.pointer none),(uu 0)]),[]]),(show uw (jY.mk none 0) b3 iJ fk (List.flatten [(cl b3 233 [(pp iJ),(pp fk),(.pointer none),(uu 0)]),[]]) from⟨(.pointer none),[],(show Lt none iJ fk (.pointer none) [] from⟨J,J⟩),J⟩),J,J⟩,J,J⟩ J))
def HB.f:Option Unit:=some ()
theorem HB.c (H:HB.f=some r):
 QU 118 [(.pointer none)] [] F (.tuple #[]):=by
 unfold HB.f at H;refine aG Tryz.func118 J J (λW=>rc T 6 (e_ J (rc T 1 (jk ?_))))
 cases H;exact p0 T J [0] J
def A'.f (ag:jY) (jW:dK) (fh:bw):Option jY:=some (jY.mk none ag.count)
def A'.R (nO:Nat) (Oa:Nat) (Ob:Nat) (r:jY):bk:=λu G=> ∃(H0:Hp),uw r nO Oa Ob H0/\u=(.tuple #[])/\G=[H0]
theorem A'.c (H:A'.f ag jW fh=some r) (cS:uw ag aW l7 jP dp) (zX:mZ jW l7 jP pe) (pS:iH fh jP mu):
 QR 118 [(pp aW)] [dp,pe,mu] [pe,mu] F (A'.R aW l7 jP r):=by
 unfold A'.f at H;refine aG Tryz.func118 J J (λW=>rc T 6 (nL J ?_));obtain⟨BA,H7,s7,lz⟩:=(λx=>x) cS;refine bX 0 (congrArg some lz) (fz J (rc T 4 (sg T 3 J (ro T 1 (jk ?_)))))
 cases H;refine bA (gD [3,4] J (p1 T J [4,0,0,0] ⟨(List.flatten [(cl aW 233 [(pp l7),(pp jP),(.pointer none),(uu ag.count)]),[]]),(show uw (jY.mk none ag.count) aW l7 jP (List.flatten [(cl aW 233 [(pp l7),(pp jP),(.pointer none),(uu ag.count)]),[]]) from⟨(.pointer none),[],(show Lt none l7 jP (.pointer none) [] from⟨J,J⟩),J⟩),J,J⟩ J))
def fW.l1:Nat->Int->bw->(Int×Int)->(List (Int×Int))->Int->Int->List cN->Int->Option ((List (Int×Int))×(List cN))
 |0,_,_,_,_,_,_,_,_=>none
 |pG+1,goal,fh,v1,bf,a_,aO,bV,dG=>if dG<=3 then((mY.f v1.1 v1.2 a_ dG).bind λv25=>(if v25<0 then(some true) else((gy.f v1.1 v1.2 v25).bind λv28=>(gy.f v1.1 v1.2 goal).bind λqG=>if(v28 !=qG)=true then(some true) else((i_.f fh v25).bind λv30=>some (v30==255)))).bind λj8=>if j8=true then(fW.l1 pG goal fh v1 bf a_ aO bV (af (dG+1))) else((i_.f fh a_).bind λv31=>(mJ.f (eJ.mk bV) (af (aO+v31)) v25).bind λv32=>fW.l1 pG goal fh v1 bf a_ aO v32.l (af (dG+1)))) else(some ((cO bf a_ aO),bV))
def fW.l0:Nat->Int->bw->(Int×Int)->(List (Int×Int))->List cN->Int->Int->Bool->Option (List (Int×Int))
 |0,_,_,_,_,_,_,_,_=>none
 |zA+1,goal,fh,v1,bf,bt,aO,a_,cA=>if cA=true then((if(cj bf a_)=true then(some (bf,bt)) else(fW.l1 fuel goal fh v1 bf a_ aO bt 0)).bind λ(dh,dm)=>(mH.f (eJ.mk dm)).bind λv33=>fW.l0 zA goal fh v1 dh v33.2.2.2.l v33.1 v33.2.1 v33.2.2.1) else(some bf)
def fW.f (ag:jY) (goal:Int) (jW:dK) (fh:bw):Option (List (Int×Int)):=(iL.f fh).bind λv1=>(i_.f fh goal).bind λv2=>if(v2==255)=true then(some ([]:(List (Int×Int)))) else((wa.f).bind λv3=>dF v3 (none) (λsQ=>(mJ.f sQ 0 goal).bind λv4=>(mH.f v4).bind λv5=>fW.l0 fuel goal fh v1 ([]:(List (Int×Int))) v5.2.2.2.l v5.1 v5.2.1 v5.2.2.1))
def fW.R (r:(List (Int×Int))):bk:=λu G=> ∃(a0:Nat) (H0:Hp),cU (Ky.int .i64 u3) (λx:Int=>Value.int .i64 x) r a0 H0/\u=(.map (some a0))/\G=[H0]
theorem fW.c (H:fW.f ag goal jW fh=some r) (cS:uw ag aW l7 jP dp) (zX:mZ jW l7 jP pe) (pS:iH fh jP mu):
 QR 214 [(pp aW),(ii goal)] [dp,pe,mu] [dp,pe,mu] F (fW.R r):=by
 unfold fW.f at H;refine aG Tryz.func214 J J (λW=>rc T 6 ?_);obtain⟨BA,H7,s7,lz⟩:=(λx=>x) cS;refine bX 0 (congrArg some lz) (fz J (rc T 4 (lf T 3 J (k [1] J uR H (iL.c · pS) (λv1 H=>ro T 9 (aV (vK T (Ky.int .i64 u3) (λx:Int=>Value.int .i64 x) J J J trivial (λa8 H8 s8=>ro T 9 (lf T 3 J (ro T 1 (k [1] J vX H (i_.c · pS) (λv2 H=>ro T 3 (cb J H (λH=>?_) (λH=>?_))))))))))))))
 ·refine rc T 8 ?_
  cases H;refine dz [3,3] J lz (p1 T J [3,3,0,0,0] ⟨a8,H8,s8,J,J⟩ J)
 refine rc T 4 (kr wa.R [] [] J SS H (wa.c ·) (λv3 H=>?_));rintro _ _ ⟨_,_,O5,rfl,rfl⟩;rcases v3 with _ |sQ
 ·replace H:=ff J H
  cases H
 replace H:=fg J H;obtain⟨b9,cz,n10,bZ,bT,rfl,rfl⟩:=O5;refine ro T 7 (kr (mJ.R b9) [] [6,6] J JG H (mJ.c · bT) (λv4 H=>?_));rintro _ _ ⟨de,n11,cE,cW,rfl,rfl⟩;refine fz J (ro T 1 (ks [0,1,5,6,7,8] J (rx T 5 (kr (mH.R b9) [] [6,6] J JH H (mH.c · cW) (λv5 H=>?_)))));rintro _ _ ⟨a12,n12,dH,dN,rfl,rfl⟩;refine fz J (ro T 10 (lq [0,1,5,6,8] [2,2,2,0,0] (λ(⟨zA,bf,bt,aO,a_,cA,kc,dO,ik,n16,fx⟩:Nat×(List (Int×Int))×List cN×Int×Int×Bool×Nat×Hp×Option Addr×Nat×Hp)=>(fW.l0 zA goal fh v1 bf bt aO a_ cA=some r/\cU (Ky.int .i64 u3) (λx:Int=>Value.int .i64 x) bf kc dO/\ak fN 359 bt ik n16 fx,[(7,(.map (some kc))),(9,(ii aO)),(10,(ii a_)),(11,(bb cA))],[dO,(cl b9 357 [(ll ik bt n16)]),fx])) J J (fuel,([]:(List (Int×Int))),v5.2.2.2.l,v5.1,v5.2.1,v5.2.2.1,a8,H8,a12,n12,dH) [2,2,2,0,0,0,0,0] ⟨H,s8,dN⟩ J J ?_));rintro zA ⟨bf,bt,aO,a_,cA,kc,dO,ik,n16,fx⟩ ⟨Z8,dW,eK⟩;rw[fW.l0] at Z8;refine rc T 6 (cb J Z8 (λZ8=>?_) (λZ8=>?_))
 ·refine rc T 2 (mq Z8 [0,1,5,6,8] [0,0,0,0,0] (λPS (⟨dh,dm,a17,eP,jj,n18,fo⟩:(List (Int×Int))×List cN×Nat×Hp×Option Addr×Nat×Hp)=>((dh,dm)=PS/\cU (Ky.int .i64 u3) (λx:Int=>Value.int .i64 x) dh a17 eP/\ak fN 359 dm jj n18 fo,[(7,(.map (some a17)))],[eP,(cl b9 357 [(ll jj dm n18)]),fo])) J J (λPS iV _=>?_) ?_)
  ·refine rc T 6 (bx J (qi (k:=a_) T (Ky.int .i64 u3) (λx:Int=>Value.int .i64 x) J J J J J (oS dW (j:=5) J)) (ro T 12 (cb J iV (λiV=>?_) (λiV=>?_))))
   ·refine rc T 4 (am (_,_,_,_,_,_,_) [0,0,0,0,0,0,0,0] ⟨oi iV,dW,eK⟩ J J)
   refine rc T 7 (aV (p_ (g:=5) (m:=bf) (k:=a_) (v:=aO) T (Ky.int .i64 u3) (λx:Int=>Value.int .i64 x) J J J J J J J dW (λlh hJ=>ro T 8 (lq [0,1,5,6,7,8,9,10] [0,0,0,0,0,0] (λ(⟨pG,bV,dG,a21,n21,lJ⟩:Nat×List cN×Int×Option Addr×Nat×Hp)=>(fW.l1 pG goal fh v1 bf a_ aO bV dG=some PS/\ak fN 359 bV a21 n21 lJ,[(14,(ii dG))],[(cl b9 357 [(ll a21 bV n21)]),lJ])) J J (fuel,bt,0,ik,n16,fx) [0,0,0,0,0,0,0,0] ⟨iV,eK⟩ J J ?_))));rintro pG ⟨bV,dG,a21,n21,lJ⟩ ⟨bp,j4⟩;rw[fW.l1] at bp;refine rc T 7 (cd J bp (λbp=>?_) (λbp=>?_))
   ·refine rc T 10 (k [] J AR bp (mY.c ·) (λv25 bp=>ro T 4 (mq bp [0,1,5,6,7,8,9,10,14,15] [0,0,0,0,0,0,0,0] (λXu (j8:Bool)=>(j8=Xu,[(90,(bb j8))],[])) J J (λXu dx _=>?_) ?_)))
    ·refine rc T 4 (ad 71 J dx (λdx=>?_) (λdx=>?_))
     ·refine ro T 21 (am _ [0,0,0,0,0,0,0,0] (oi dx) J J)
     refine ro T 3 (k [] J sb dx (gy.c ·) (λv28 dx=>ro T 3 (k [] J sb dx (gy.c ·) (λqG dx=>ro T 3 (ab 82 J dx (λdx=>?_) (λdx=>?_))))))
     ·refine ro T 10 (am _ [0,0,0,0,0,0,0,0] (oi dx) J J)
     refine ro T 3 (lf T 1 J (ro T 1 (k [4] J vX dx (i_.c · pS) (λv30 dx=>ro T 4 (am _ [0,0,0,0,0,0,0,0] (oi dx) J J)))))
    rintro _ j8 rfl bp;refine cb J bp (λbp=>?_) (λbp=>?_)
    ·refine rc T 10 (ar (_,_,_,_,_) [0,0,0,0,0,0,0,0] ⟨bp,j4⟩ J J)
    refine rc T 8 (lf T 1 J (ro T 1 (k [4] J vX bp (i_.c · pS) (λv31 bp=>ro T 2 (kr (mJ.R b9) [] [6,6] J JG bp (mJ.c (h:=(eJ.mk bV)) · j4) (λv32 bp=>?_))))));rintro _ _ ⟨a22,n22,mr,iv,rfl,rfl⟩;refine fz J (ro T 9 (ar (_,_,_,_,_) [0,0,0,0,0,0,0,0] ⟨bp,iv⟩ J J))
   refine rc T 6 (am (_,_,_,_,_,_,_) [0,0,0,0,0,0,0,0] ⟨oi bp,hJ,j4⟩ J J)
  rintro _ ⟨dh,dm,a17,eP,jj,n18,fo⟩ ⟨rfl,fF,fG⟩ Z8;refine rc T 2 (kr (mH.R b9) [] [6,6] J JH Z8 (mH.c (h:=(eJ.mk dm)) · fG) (λv33 Z8=>?_));rintro _ _ ⟨a23,n23,jL,hU,rfl,rfl⟩;refine fz J (ro T 9 (ar (_,_,_,_,_,_,_,_,_,_) [0,0,0,0,0,0,0,0] ⟨Z8,fF,hU⟩ J J))
 refine rc T 12 ?_
 cases Z8;refine dz [1,1] J lz (p1 T J [3,5,1,1,0] ⟨kc,dO,dW,J,J⟩ J)
def tU.f (ag:gI) (node:Int) (key:Int):Option (Bool×gI):=if(0<=node/\node<(aa ag.aN:Int)) then(if key≥(af (rd ag.aN node)) then(some (false,ag)) else(some (true,(gI.mk ag.goal ag.bS (aD ag.aN (ax node) (IntKind.i32.wrap key)))))) else none
def tU.R (aW:Nat) (r:(Bool×gI)):bk:=λu G=> ∃a0 n0 H0,ak (Fl.int .i32) 21 r.2.aN a0 n0 H0/\u=(bb r.1)/\G=[(cl aW 235 [(ii r.2.goal),(ii r.2.bS),(ll a0 r.2.aN n0)]),H0]
theorem tU.c (H:tU.f ag node key=some r) (wM:ak (Fl.int .i32) 21 ag.aN xf xX Aq):
 QR 216 [(pp aW),(ii node),(ii key)] [(cl aW 235 [(ii ag.goal),(ii ag.bS),(ll xf ag.aN xX)]),Aq] [] F (tU.R aW r):=by
 unfold tU.f at H;refine aG Tryz.func216 J J (λW=>rc T 12 (lf T 0 J (ro T 1 ?_)));obtain⟨c1,H⟩:=az H;obtain⟨q3,o3,e3⟩:=wM.r.addr c1.1 c1.2;refine ix T J e3 c1 (le T 0 (oO wM 1) e3 c1 J J (ro T 4 (cd J H (λH=>?_) (λH=>?_))))
 ·refine rc T 7 ?_
  cases H;exact p1 T J [0,0,0] ⟨xf,xX,Aq,wM,J,J⟩ J
 refine rc T 7 (lf T 0 J (ro T 3 (ix T J e3 c1 (aV (jN (k:=(Fl.int .i32)) T 1 0 (IntKind.i32.wrap key) J J J J J J wM e3 c1 J J J (λH4 s4=>kg [] [1,1] [1,1,0] [] [(cl aW 235 [(ii ag.goal),(ii ag.bS),(ll xf (aD ag.aN (ax node) (IntKind.i32.wrap key)) xX)])] J J trivial dw (ro T 8 ?_)))))))
 cases H;exact p1 T J [2,0,0] ⟨xf,xX,H4,s4,J,J⟩ J
def gh.l2:Nat->Int->Int->(List d_)->Int->Int->List Int->List cN->Int->Option (Int×Int×(List Int)×(List cN))
 |0,_,_,_,_,_,_,_,_=>none
 |GP+1,goal,fJ,sO,Dz,DA,BC,yJ,rI=>if rI<(aa sO:Int) then(if(0<=rI/\rI<(aa sO:Int)) then((tU.f (gI.mk Dz DA BC) ((rd sO rI).To) (af (fJ+(rd sO rI).kE))).bind λv64=>if v64.1=true then((mJ.f (eJ.mk yJ) (af (fJ+(rd sO rI).kE)) ((rd sO rI).To)).bind λXa=>gh.l2 GP goal fJ sO v64.2.goal v64.2.bS v64.2.aN Xa.l (af (rI+1))) else(gh.l2 GP goal fJ sO v64.2.goal v64.2.bS v64.2.aN yJ (af (rI+1)))) else none) else(some (Dz,DA,BC,yJ))
def gh.l1:Nat->Int->dK->bw->Int->Int->List Int->List cN->Int->Int->Bool->Option (Option gI)
 |0,_,_,_,_,_,_,_,_,_,_=>none
 |xQ+1,goal,jW,fh,iR,gC,ie,iS,fJ,iT,iw=>if iw=true then((if(0<=iT/\iT<(aa ie:Int)) then(if fJ>(af (rd ie iT)) then(some (iR,gC,ie,iS)) else((gZ.f jW iT fh).bind λsO=>gh.l2 fuel goal fJ sO iR gC ie iS 0)) else none).bind λ(H_,Ia,E8,Dy)=>(mH.f (eJ.mk Dy)).bind λv66=>gh.l1 xQ goal jW fh H_ Ia E8 v66.2.2.2.l v66.1 v66.2.1 v66.2.2.1) else(some (some (gI.mk iR gC ie)))
def gh.l0:Nat->Int->dK->bw->(List (Int×Int))->(List Int)->Int->Int->List Int->List cN->Int->Option (Option gI)
 |0,_,_,_,_,_,_,_,_,_,_=>none
 |Ki+1,goal,jW,fh,v5,v7,aO,a_,cA,dS,dh=>if dh<(aa v7:Int) then((if(0<=dh/\dh<(aa v7:Int)) then((if(cj v5 (rd v7 dh))=true then((tU.f (gI.mk aO a_ cA) (rd v7 dh) (aT v5 (rd v7 dh))).bind λqG=>some (qG.2.goal,qG.2.bS,qG.2.aN,qG.1)) else(some (aO,a_,cA,false))).bind λ(qK,eZ,j8,mm)=>if mm=true then((mJ.f (eJ.mk dS) (aT v5 (rd v7 dh)) (rd v7 dh)).bind λv30=>some (qK,eZ,j8,v30.l)) else(some (qK,eZ,j8,dS))) else none).bind λ(du,h_,eN,bV)=>gh.l0 Ki goal jW fh v5 v7 du h_ eN bV (af (dh+1))) else((mH.f (eJ.mk dS)).bind λv31=>gh.l1 fuel goal jW fh aO a_ cA v31.2.2.2.l v31.1 v31.2.1 v31.2.2.1)
def gh.f (ag:jY) (goal:Int) (jW:dK) (fh:bw):Option (Option gI):=(iL.f fh).bind λv1=>(pz.f fh).bind λv2=>(pW.f [2147483647] (af (v1.1*v1.2))).bind λv3=>(wa.f).bind λv4=>dF v4 (none) (λwZ=>(fW.f ag goal jW fh).bind λv5=>(gy.f v1.1 v1.2 goal).bind λv6=>(xW.f jW v6 fh).bind λv7=>gh.l0 fuel goal jW fh v5 v7 goal v2 v3 wZ.l 0)
def gh.R (r:(Option gI)):bk:=λu G=> ∃(u0:Value) (G0:List Hp),XT r u0 G0/\u=u0/\G=G0
theorem gh.c (H:gh.f ag goal jW fh=some r) (cS:uw ag aW l7 jP dp) (zX:mZ jW l7 jP pe) (pS:iH fh jP mu):
 QR 182 [(pp aW),(ii goal)] [dp,pe,mu] [dp,pe,mu] F (gh.R r):=by
 unfold gh.f at H;refine aG Tryz.func182 J J (λW=>rc T 6 ?_);obtain⟨BA,H7,s7,lz⟩:=(λx=>x) cS;refine bX 0 (congrArg some lz) (fz J (rc T 4 (lf T 3 J (k [1] J uR H (iL.c · pS) (λv1 H=>ro T 13 (lf T 3 J (k [1] J Ch H (pz.c · pS) (λv2 H=>aV (c_ (k:=(Fl.int .i32)) T [2147483647] J J J J J J J J J (λa8 H8 s8=>ro T 3 (kr pW.R [] [] J acv H (pW.c · (oO s8 5) s8.b_) (λv3 H=>?_))))))))))));rintro _ _ ⟨a9,n9,H9,s9,rfl,rfl⟩;refine fz J (ro T 1 (nc T J (λfZ=>ro T 5 (kr wa.R [] [] J SS H (wa.c ·) (λv4 H=>?_)))));rintro _ _ ⟨_,_,O5,rfl,rfl⟩;rcases v4 with _ |wZ
 ·replace H:=ff J H
  cases H
 replace H:=fg J H;obtain⟨jO,a12,n12,dH,dN,rfl,rfl⟩:=O5;refine ro T 7 ?_;obtain⟨v5,V6,H⟩:=gu H;refine aV (FF (As:=[(cl aW 233 [(pp l7),(pp jP),BA,(uu ag.count)]),H7,pe,mu]) (fW.R v5) [(cl aW 233 [(pp l7),(pp jP),BA,(uu ag.count)]),H7,pe,mu] [3,3,0,0] J J J J acw J J (I_ (A:=[dp,pe,mu]) (A2:=[dp,pe,mu]) (by simp only[lz,vC,vB,vD,sY,uz]) (by simp only[lz,vC,vB,vD,sY,uz]) (fW.c V6 cS zX pS)) ?_)
 rintro _ _ ⟨dy,dT,dg,rfl,rfl⟩;refine fz J (ro T 2 (ke [0,1,5,6,7,8,9] [0,1,1,1,1,1,1,1,1,1] J J (rx T 3 (fz J (rg [] [0,0,0,0,0,0,0,0,0,0] mix (bR bQ) (λhg pf=>ha T 8 [0,1,2] sz hg pf J (al T 3 6 sz hg pf J J J (ha T 3 [4,5,6,10] sz hg pf J (ao 7 (kh [] J sb H (gy.c ·) (λv6 H=>an sz (ao 8 (kR xW.R [8,8] [8,8] J acx H (xW.c · zX pS) (λv7 H=>?_))))))))))))));rintro _ _ ⟨gU,n14,fm,gi,rfl,rfl⟩;refine fz J (an (so [0,0,0,0,0,0,0,0,1,1]) (ha T 0 [9] (so [0,0,0,0,0,0,0,0,1,1]) hg pf J (ae (rx T 2 (lq [0,7,8,9,52,53] [0,5,5,6,6,4,4] (λ(⟨Ki,aO,a_,cA,dS,dh,a17,n17,eP,jj,n18,fo⟩:Nat×Int×Int×List Int×List cN×Int×Option Addr×Nat×Hp×Option Addr×Nat×Hp)=>(gh.l0 Ki goal jW fh v5 v7 aO a_ cA dS dh=some r/\ak (Fl.int .i32) 21 cA a17 n17 eP/\ak fN 359 dS jj n18 fo,[(54,(ii dh))],[(cl fZ 235 [(ii aO),(ii a_),(ll a17 cA n17)]),eP,(cl jO 357 [(ll jj dS n18)]),fo])) J J (fuel,goal,v2,v3,wZ.l,0,a9,n9,H9,a12,n12,dH) [0,5,5,6,6,4,4,1,0,0,0] ⟨H,s9,dN⟩ J J ?_)))));rintro Ki ⟨aO,a_,cA,dS,dh,a17,n17,eP,jj,n18,fo⟩ ⟨Z9,fF,fG⟩;rw[gh.l0] at Z9;refine rc T 6 (cd J Z9 (λZ9=>?_) (λZ9=>?_))
 ·refine rc T 2 (mq Z9 [0,7,8,9,52,53,54] [0,0,0,0,0,0,0] (λz23 (⟨du,h_,eN,bV,my,n19,lh,a20,n20,oA⟩:Int×Int×List Int×List cN×Option Addr×Nat×Hp×Option Addr×Nat×Hp)=>((du,h_,eN,bV)=z23/\ak (Fl.int .i32) 21 eN my n19 lh/\ak fN 359 bV a20 n20 oA,[],[(cl fZ 235 [(ii du),(ii h_),(ll my eN n19)]),lh,(cl jO 357 [(ll a20 bV n20)]),oA])) J J (λz23 aY _=>?_) ?_)
  ·refine rc T 3 ?_;obtain⟨gv,aY⟩:=az aY;obtain⟨C4,Vc,AN⟩:=gi.r.addr gv.1 gv.2;refine ix T J AN gv (le T 0 (oO gi 6) AN gv J J (ro T 7 (bx J (qi (k:=(rd v7 dh)) T (Ky.int .i64 u3) (λx:Int=>Value.int .i64 x) J J J J J (oS dg (j:=5) J)) (ro T 7 (mq aY [0,7,8,9,11,12,52,53,54] [0,0,0,0,0,4,4,0,0] (λz28 (⟨qK,eZ,j8,mm,a22,n22,mr⟩:Int×Int×List Int×Bool×Option Addr×Nat×Hp)=>((qK,eZ,j8,mm)=z28/\ak (Fl.int .i32) 21 j8 a22 n22 mr,[(70,(bb mm))],[(cl fZ 235 [(ii qK),(ii eZ),(ll a22 j8 n22)]),mr])) J J (λz28 lM _=>?_) ?_)))))
   ·refine rc T 3 (ab 65 J lM (λlM=>?_) (λlM=>?_))
    ·refine ro T 3 (kr (tU.R fZ) [] [7,7] J SU lM (tU.c (ag:=(gI.mk aO a_ cA)) · fF) (λqG lM=>?_));rintro _ _ ⟨a23,n23,jL,hU,rfl,rfl⟩;refine fz J (ro T 3 (am (_,_,_,_,_,_,_) [0,0,0,0,0,2,2,0,0,0,0] ⟨oi lM,hU⟩ J J))
    refine ro T 7 (am (_,_,_,_,_,_,_) [0,0,0,0,0,4,4,0,0,0,0] ⟨oi lM,fF⟩ J J)
   rintro _ ⟨qK,eZ,j8,mm,a22,n22,mr⟩ ⟨rfl,iv⟩ aY;refine cb J aY (λaY=>?_) (λaY=>?_)
   ·refine rc T 4 (kr (mJ.R jO) [] [5,5] J JG aY (mJ.c (h:=(eJ.mk dS)) · fG) (λv30 aY=>?_));rintro _ _ ⟨a24,n24,rK,mj,rfl,rfl⟩;refine fz J (ro T 3 (am (_,_,_,_,_,_,_,_,_,_) [0,0,0,0,0,0,0,0,0,0,0] ⟨oi aY,iv,mj⟩ J J))
   refine rc T 3 (am (_,_,_,_,_,_,_,_,_,_) [0,0,0,0,0,2,2,2,2,0,0] ⟨oi aY,iv,fG⟩ J J)
  rintro _ ⟨du,h_,eN,bV,my,n19,lh,a20,n20,oA⟩ ⟨rfl,hJ,mi⟩ Z9;refine rc T 5 (ar (_,_,_,_,_,_,_,_,_,_,_) [0,0,0,0,0,0,0,0,0,0,0] ⟨Z9,hJ,mi⟩ J J)
 refine rc T 9 (kr (mH.R jO) [] [9,9] J JH Z9 (mH.c (h:=(eJ.mk dS)) · fG) (λv31 Z9=>?_));rintro _ _ ⟨a25,n25,ig,jG,rfl,rfl⟩;refine fz J (ro T 10 (lq [0,7,8] [0,0,0,0,0] (λ(⟨xQ,iR,gC,ie,iS,fJ,iT,iw,a28,n28,vu,yV,n29,rL⟩:Nat×Int×Int×List Int×List cN×Int×Int×Bool×Option Addr×Nat×Hp×Option Addr×Nat×Hp)=>(gh.l1 xQ goal jW fh iR gC ie iS fJ iT iw=some r/\ak (Fl.int .i32) 21 ie a28 n28 vu/\ak fN 359 iS yV n29 rL,[(14,(ii fJ)),(15,(ii iT)),(16,(bb iw))],[(cl fZ 235 [(ii iR),(ii gC),(ll a28 ie n28)]),vu,(cl jO 357 [(ll yV iS n29)]),rL])) J J (fuel,aO,a_,cA,v31.2.2.2.l,v31.1,v31.2.1,v31.2.2.1,a17,n17,eP,a25,n25,ig) [0,0,0,0,0,2,2,2,2] ⟨Z9,fF,jG⟩ J J ?_));rintro xQ ⟨iR,gC,ie,iS,fJ,iT,iw,a28,n28,vu,yV,n29,rL⟩ ⟨fc,ky,rp⟩;rw[gh.l1] at fc;refine rc T 6 (cb J fc (λfc=>?_) (λfc=>?_))
 ·refine rc T 2 (mq fc [0,7,8] [0,0,0,0,0] (λz51 (⟨H_,Ia,E8,Dy,BQ,n30,rM,a31,n31,BG⟩:Int×Int×List Int×List cN×Option Addr×Nat×Hp×Option Addr×Nat×Hp)=>((H_,Ia,E8,Dy)=z51/\ak (Fl.int .i32) 21 E8 BQ n30 rM/\ak fN 359 Dy a31 n31 BG,[],[(cl fZ 235 [(ii H_),(ii Ia),(ll BQ E8 n30)]),rM,(cl jO 357 [(ll a31 Dy n31)]),BG])) J J (λz51 s_ _=>?_) ?_)
  ·refine rc T 8 (lf T 5 J (ro T 1 ?_));obtain⟨AF,s_⟩:=az s_;obtain⟨q32,o32,Rm⟩:=ky.r.addr AF.1 AF.2;refine ix T J Rm AF (le T 0 (oO ky 6) Rm AF J J (ro T 4 (cd J s_ (λs_=>?_) (λs_=>?_))))
   ·refine rc T 4 (am (_,_,_,_,_,_,_,_,_,_) [0,0,0,0,0,0,0,0,0] ⟨oi s_,ky,rp⟩ J J)
   refine rc T 7 (lf T 1 J (ro T 1 (kr gZ.R [3,3] [3,3] J acy s_ (gZ.c · zX pS) (λsO s_=>?_))));rintro _ _ ⟨a33,n33,Iv,wI,rfl,rfl⟩;refine fz J (ro T 5 (lq [0,7,8,14,104,105] [0,0,0,5,5,4] (λ(⟨GP,Dz,DA,BC,yJ,rI,Az,n36,Ao,a37,n37,Fc⟩:Nat×Int×Int×List Int×List cN×Int×Option Addr×Nat×Hp×Option Addr×Nat×Hp)=>(gh.l2 GP goal fJ sO Dz DA BC yJ rI=some z51/\ak (Fl.int .i32) 21 BC Az n36 Ao/\ak fN 359 yJ a37 n37 Fc,[(106,(ii rI))],[(cl fZ 235 [(ii Dz),(ii DA),(ll Az BC n36)]),Ao,(cl jO 357 [(ll a37 yJ n37)]),Fc])) J J (fuel,iR,gC,ie,iS,0,a28,n28,vu,yV,n29,rL) [0,0,0,5,5,4,0,0,0,0] ⟨s_,ky,rp⟩ J J ?_));rintro GP ⟨Dz,DA,BC,yJ,rI,Az,n36,Ao,a37,n37,Fc⟩ ⟨p9,Dc,Dd⟩;rw[gh.l2] at p9;refine rc T 6 (cd J p9 (λp9=>?_) (λp9=>?_))
   ·refine rc T 6 ?_;obtain⟨I7,p9⟩:=az p9;obtain⟨q38,Vd,Rn⟩:=wI.r.addr I7.1 I7.2;refine ix T J Rn I7 (bx J (gd T (cs:=[(ii (rd sO rI).To),(ii (rd sO rI).kE)]) J J J J J J (iu (k:=pH) (oO wI 5) Rn I7 J)) (nc T J (λb39=>sg T 10 J (ro T 6 (lf T 10 J (ro T 2 (lf T 10 J (ro T 1 (kr (tU.R fZ) [] [6,6] J SU p9 (tU.c (ag:=(gI.mk Dz DA BC)) · Dc) (λv64 p9=>?_))))))))));rintro _ _ ⟨a40,n40,Lq,EG,rfl,rfl⟩;refine fz J (ro T 2 (cb J p9 (λp9=>?_) (λp9=>?_)))
    ·refine rc T 4 (lf T 8 J (ro T 2 (lf T 8 J (kr (mJ.R jO) [] [6,6] J JG p9 (mJ.c (h:=(eJ.mk yJ)) · Dd) (λXa p9=>?_)))));rintro _ _ ⟨a41,n41,Fe,zV,rfl,rfl⟩;refine fz J (ro T 1 (ke [0,7,8,14,104,105,106] [0,0,0,0,0,0,1,1,1,1] J J (rx T 7 (ar (_,_,_,_,_,_,_,_,_,_,_) [0,0,0,0,0,0,0,0,0,0] ⟨p9,EG,zV⟩ J J))))
    refine rc T 8 (ar (_,_,_,_,_,_,_,_,_,_,_) [0,0,0,0,0,0,3,3,0,0] ⟨p9,EG,Dd⟩ J J)
   refine rc T 6 (am (_,_,_,_,_,_,_,_,_,_) [0,0,0,0,0,1,1,1,1] ⟨oi p9,Dc,Dd⟩ J J)
  rintro _ ⟨H_,Ia,E8,Dy,BQ,n30,rM,a31,n31,BG⟩ ⟨rfl,pQ,zT⟩ fc;refine rc T 2 (kr (mH.R jO) [] [7,7] J JH fc (mH.c (h:=(eJ.mk Dy)) · zT) (λv66 fc=>?_));rintro _ _ ⟨a42,n42,lK,O1,rfl,rfl⟩;refine fz J (ro T 9 (ar (_,_,_,_,_,_,_,_,_,_,_,_,_) [0,0,0,0,0,0,0,0,0] ⟨fc,pQ,O1⟩ J J))
 refine rc T 12 ?_
 cases fc;refine dz [1,1] J lz (p1 T J [3,3,5,1,1,0] ⟨_,_,⟨fZ,a28,n28,vu,ky,J,J⟩,J,J⟩ J)
def yq.f (ag:jY) (goal:Int) (jW:dK) (fh:bw):Option ((Option gI)×jY×dK):=(i_.f fh goal).bind λv1=>if(v1==0)=true then(some (none,ag,jW)) else((nY.f jW fh).bind λv2=>(dF ag.kept (some true) (λx5=>if(x5.goal !=goal)=true then(some true) else((pz.f fh).bind λv6=>some (x5.bS !=v6)))).bind λx3=>if x3=true then((gh.f ag goal v2.2 fh).bind λv7=>dF v7 (none) (λrJ=>(sN.f ag.count 1).bind λv8=>some ((some rJ),(jY.mk (some rJ) v8),v2.2))) else(dF ag.kept (some (none,ag,v2.2)) (λx9=>some ((some x9),ag,v2.2))))
def yq.R (nO:Nat) (Oa:Nat) (Ob:Nat) (aaj:Nat) (aeW:Nat) (r:((Option gI)×jY×dK)):bk:=λu G=> ∃(u0:Value) (H1:Hp) (H2:Hp),XW r.1 r.2.1 nO Oa Ob u0 H1/\mZ r.2.2 aaj aeW H2/\u=u0/\G=[H1,H2]
theorem yq.c (H:yq.f ag goal jW fh=some r) (cS:uw ag aW l7 jP dp) (zX:mZ jW l7 jP pe) (pS:iH fh jP mu):
 QR 143 [(pp aW),(ii goal)] [dp,pe,mu] [mu] F (yq.R aW l7 jP l7 jP r):=by
 unfold yq.f at H;refine aG Tryz.func143 J J (λW=>rc T 7 ?_);obtain⟨BA,H7,s7,lz⟩:=(λx=>x) cS;refine bX 0 (congrArg some lz) (fz J (rc T 7 (lf T 3 J (ro T 1 (k [1] J vX H (i_.c · pS) (λv1 H=>ro T 4 (cb J H (λH=>?_) (λH=>?_))))))))
 ·refine rc T 7 ?_
  cases H;refine dz [3,3] J lz (p1 T J [3,0,0,0] ⟨_,dp,pe,⟨J,cS⟩,zX,J,J⟩ J)
 refine rc T 7 (lf T 3 J (kr (nY.R l7 jP) [1] [0,0] J acb H (nY.c · zX pS) (λv2 H=>?_)));rintro _ _ ⟨H8,s8,rfl,rfl⟩;refine fz J (ro T 3 (mq H [0,1] [0,0,0,0,0] (λz4 (x3:Bool)=>(x3=z4,[(51,(bb x3))],[])) J J (λz4 Z4 _=>?_) ?_))
 ·rcases q5:ag.kept with _ |x5
  ·replace Z4:=ff q5 Z4;rw[q5] at s7;obtain⟨rfl,rfl⟩:=s7;refine dq mix aA (au T J (au T J (au T J (cw T 1 J J J ?_))))
   iterate 27 refine au T J ?_
   refine cM (rx T 1 (am _ [0,0,0,0,0] (oi Z4) J J))
  replace Z4:=fg q5 Z4;rw[q5] at s7;obtain⟨fZ,de,n11,cE,cW,rfl,MM⟩:=s7;refine bX 2 (congrArg some MM) (fz J (dq mix aA (au T J (au T J (au T J (cw T 1 J J J ?_))))))
  iterate 5 refine au T J ?_
  refine cw T 1 J J J (au T J (au T J (cw T 4 J J J ?_)))
  iterate 4 refine au T J ?_
  refine qb 37 J Z4 (λZ4=>?_) (λZ4=>?_)
  ·iterate 14 refine au T J ?_
   refine cM (rx T 1 (dz [4,4] J MM (am _ [0,0,2,0,0] (oi Z4) J J)))
  refine au T J (au T J (au T J (cw T 1 J J J (au T J (au T J (cw T 4 J J J (au T J (au T J (au T J (cw T 1 J J J ?_))))))))));obtain⟨v6,V7,Z4⟩:=gu Z4;refine xi [3] J J J J J J Ch J (pz.c V7 pS) (au T J (au T J (cM (rx T 1 (dz [4,4] J MM (am _ [0,0,2,0,0] (oi Z4) J J))))))
 rintro _ x3 rfl H;refine cb J H (λH=>?_) (λH=>?_)
 ·refine rc T 5 ?_;obtain⟨v7,V9,H⟩:=gu H;refine aV (FF (As:=[(cl aW 233 [(pp l7),(pp jP),BA,(uu ag.count)]),H7,H8,mu]) (gh.R v7) [(cl aW 233 [(pp l7),(pp jP),BA,(uu ag.count)]),H7,H8,mu] [1,1,1,1] J J J J acd J J (I_ (A:=[dp,H8,mu]) (A2:=[dp,H8,mu]) (by simp only[lz,vC,vB,vD,sY,uz]) (by simp only[lz,vC,vB,vD,sY,uz]) (gh.c V9 cS s8 pS)) ?_)
  rintro _ _ ⟨_,_,Ls,rfl,rfl⟩;rcases v7 with _ |rJ
  ·replace H:=ff J H
   cases H
  replace H:=fg J H;obtain⟨ln,dy,n13,dT,dg,rfl,rfl⟩:=Ls;refine ro T 2 (sg T 3 J (ro T 7 (lf T 3 J (k [] J JB H (sN.c ·) (λv8 H=>ro T 2 (sg T 3 J (ro T 7 (lf T 3 J (ro T 4 ?_)))))))))
  cases H;refine gD [1,1] J (gD [1,4] J (p1 T J [4,2,2,0] ⟨_,(List.flatten [(cl aW 233 [(pp l7),(pp jP),(pp ln),(uu v8)]),(List.flatten [(cl ln 235 [(ii rJ.goal),(ii rJ.bS),(ll dy rJ.aN n13)]),dT])]),H8,⟨J,ln,dy,n13,dT,dg,J,J⟩,s8,J,J⟩ J))
 refine rc T 3 ?_;rcases wz:ag.kept with _ |x9
 ·replace H:=ff wz H;rw[wz] at s7;obtain⟨rfl,rfl⟩:=s7;refine rc T 4 (lf T 1 J (ro T 4 ?_))
  cases H;refine dz [1,1] J lz (p1 T J [3,1,1,0] ⟨_,dp,H8,⟨J,cS⟩,s8,J,J⟩ J)
 replace H:=fg wz H;rw[wz] at s7;obtain⟨qQ,a17,n17,eP,fF,rfl,MK⟩:=s7;refine bX 2 (congrArg some MK) (fz J (rc T 4 (lf T 1 J (ro T 4 ?_))))
 cases H;refine dz [4,4] J MK (dz [1,3] J lz (p1 T J [3,1,1,0] ⟨_,dp,H8,⟨wz,qQ,a17,n17,eP,fF,J,(by rw[lz,MK])⟩,s8,J,J⟩ J))
def HC.f (ag:gI):Option Int:=some ag.bS
theorem HC.c (H:HC.f ag=some r) (wM:ak (Fl.int .i32) 21 ag.aN xf xX Aq):
 QU 174 [(pp aW)] [(cl aW 235 [(ii ag.goal),(ii ag.bS),(ll xf ag.aN xX)]),Aq] F (ii r):=by
 unfold HC.f at H;refine aG Tryz.func174 J J (λW=>rc T 12 (e_ J (rc T 7 (lf T 0 J (ro T 4 ?_)))))
 cases H;exact p0 T J [0,0,0] J
def C_.f (ag:gI) (cell:Int):Option Int:=(if cell<0 then(some true) else(if cell≥(aa ag.aN:Int) then(some true) else(if(0<=cell/\cell<(aa ag.aN:Int)) then(some ((rd ag.aN cell)==2147483647)) else none))).bind λx1=>if x1=true then(some 1099511627776) else(if(0<=cell/\cell<(aa ag.aN:Int)) then(some (af (rd ag.aN cell))) else none)
theorem C_.c (H:C_.f ag cell=some r) (wM:ak (Fl.int .i32) 21 ag.aN xf xX Aq):
 QU 177 [(pp aW),(ii cell)] [(cl aW 235 [(ii ag.goal),(ii ag.bS),(ll xf ag.aN xX)]),Aq] F (ii r):=by
 unfold C_.f at H;refine aG Tryz.func177 J J (λW=>rc T 6 (mq H [0,1] [2,0,0] (λz2 (x1:Bool)=>(x1=z2,[(29,(bb x1))],[])) J J (λz2 Z1 _=>?_) ?_))
 ·refine rc T 8 (ad 11 J Z1 (λZ1=>?_) (λZ1=>?_))
  ·refine ro T 20 (am _ [2,0,0] (oi Z1) J J)
  refine ro T 4 (lf T 0 J (ro T 4 (ad 20 J Z1 (λZ1=>?_) (λZ1=>?_))))
  ·refine ro T 11 (am _ [2,0,0] (oi Z1) J J)
  refine ro T 3 (lf T 0 J (ro T 1 ?_));obtain⟨c4,Z1⟩:=az Z1;obtain⟨q3,o3,e3⟩:=wM.r.addr c4.1 c4.2;refine ix T J e3 c4 (le T 0 (oO wM 1) e3 c4 J J (ro T 4 (am _ [2,0,0] (oi Z1) J J)))
 rintro _ x1 rfl H;refine cb J H (λH=>?_) (λH=>?_)
 ·refine rc T 7 ?_
  cases H;exact p0 T J [1,1,0] J
 refine rc T 7 (lf T 1 J (ro T 1 ?_));obtain⟨c6,H⟩:=az H;obtain⟨q4,o4,e4⟩:=wM.r.addr c6.1 c6.2;refine ix T J e4 c6 (le T 0 (oO wM 2) e4 c6 J J (ro T 5 ?_))
 cases H;exact p0 T J [1,1,0] J
def HD.f (ag:gI):Option Int:=some ag.goal
theorem HD.c (H:HD.f ag=some r) (wM:ak (Fl.int .i32) 21 ag.aN xf xX Aq):
 QU 179 [(pp aW)] [(cl aW 235 [(ii ag.goal),(ii ag.bS),(ll xf ag.aN xX)]),Aq] F (ii r):=by
 unfold HD.f at H;refine aG Tryz.func179 J J (λW=>rc T 12 (e_ J (rc T 7 (lf T 0 J (ro T 4 ?_)))))
 cases H;exact p0 T J [0,0,0] J
end
noncomputable section
def A4.f (g:bw) (bG:Int):Option (List aX):=(iL.f g).bind λv1=>some []
def A4.R (r:(List aX)):bk:=λu G=> ∃a0 n0 H0,ak cP 285 r a0 n0 H0/\u=(ll a0 r n0)/\G=[H0]
theorem A4.c (H:A4.f g bG=some r) (fO:iH g fk gn):
 QR 142 [(pp fk),(.pointer none),(ii bG)] [gn] [gn] F (A4.R r):=by
 unfold A4.f at H;refine aG Tryz.func142 J J (λW=>rc T 8 (k [0] J uR H (iL.c · fO) (λv1 H=>ro T 21 (nL J (rc T 7 ?_)))))
 cases H;refine bA (p1 T J [2,0,0] ⟨none,0,[],ak.nil,J,J⟩ J)
def iN.l1:Nat->gI->(Int×Int)->(List Int)->Int->(List d_)->List aX->Int->Option (List aX)
 |0,_,_,_,_,_,_,_=>none
 |GM+1,ai,v1,v4,x8,v12,cA,dS=>if dS<(aa v12:Int) then(if(0<=dS/\dS<(aa v12:Int)) then((C_.f ai ((rd v12 dS).To)).bind λfQ=>if(fQ !=1099511627776)=true then((rE.f v1.1 v1.2 (rd v4 x8)).bind λox=>(qJ.f v1.1 v1.2 (rd v4 x8) ((rd v12 dS).To)).bind λv20=>if(aa cA+1<=1099511627776) then(iN.l1 GM ai v1 v4 x8 v12 (cA++[(aX.mk ox v20 (af ((rd v12 dS).kE+fQ)))]) (af (dS+1))) else none) else(iN.l1 GM ai v1 v4 x8 v12 cA (af (dS+1)))) else none) else(some cA)
def iN.l0:Nat->bw->gI->Int->(Int×Int)->(List Int)->List aX->Int->Option (List aX)
 |0,_,_,_,_,_,_,_=>none
 |k9+1,g,ai,bG,v1,v4,x7,x8=>if x8<(aa v4:Int) then((if(0<=x8/\x8<(aa v4:Int)) then((nM.f g (rd v4 x8)).bind λv12=>iN.l1 fuel ai v1 v4 x8 v12 x7 0) else none).bind λaK=>iN.l0 k9 g ai bG v1 v4 aK (af (x8+1))) else((HD.f ai).bind λv21=>((gy.f v1.1 v1.2 v21).bind λv24=>if(v24==bG)=true then((i_.f g v21).bind λv25=>some (v25 !=255)) else(some false)).bind λbV=>if bV=true then((rE.f v1.1 v1.2 v21).bind λv26=>if(aa x7+1<=1099511627776) then((np.f (x7++[(aX.mk v26 4 0)])).bind λPA=>some PA) else none) else((np.f x7).bind λv28=>some v28))
def iN.f (g:bw) (ai:gI) (bG:Int):Option (List aX):=(iL.f g).bind λv1=>(HC.f ai).bind λv2=>(pz.f g).bind λv3=>if(v2 !=v3)=true then(some []) else((kj.f g bG).bind λv4=>iN.l0 fuel g ai bG v1 v4 [] 0)
def iN.R (r:(List aX)):bk:=λu G=> ∃a0 n0 H0,ak cP 285 r a0 n0 H0/\u=(ll a0 r n0)/\G=[H0]
theorem iN.c (H:iN.f g ai bG=some r) (fO:iH g fk gn) (O':ak (Fl.int .i32) 21 ai.aN P_ UY PZ):
 QR 142 [(pp fk),(pp uF),(ii bG)] [gn,(cl uF 235 [(ii ai.goal),(ii ai.bS),(ll P_ ai.aN UY)]),PZ] [gn,(cl uF 235 [(ii ai.goal),(ii ai.bS),(ll P_ ai.aN UY)]),PZ] F (iN.R r):=by
 unfold iN.f at H;refine aG Tryz.func142 J J (λW=>rc T 8 (k [0] J uR H (iL.c · fO) (λv1 H=>ro T 14 (k [1,1] J ab7 H (HC.c · O') (λv2 H=>ro T 1 (k [0] J Ch H (pz.c · fO) (λv3 H=>ro T 4 (cb J H (λH=>?_) (λH=>?_)))))))))
 ·refine rc T 7 ?_
  cases H;refine bA (p1 T J [4,0,0,0,0] ⟨none,0,[],ak.nil,J,J⟩ J)
 refine rc T 12 (kr kj.R [0] [0] J JE H (kj.c · fO) (λv4 H=>?_));rintro _ _ ⟨a5,n5,H5,s5,rfl,rfl⟩;refine fz J (ro T 5 (bA (lq [0,1,2,7,8,32,33] [2,3,0,0,0] (λ(⟨k9,x7,x8,a7,n7,H7⟩:Nat×List aX×Int×Option Addr×Nat×Hp)=>(iN.l0 k9 g ai bG v1 v4 x7 x8=some r/\ak cP 285 x7 a7 n7 H7,[(9,(ll a7 x7 n7)),(34,(ii x8))],[H7])) J J (fuel,[],0,none,0,[]) [2,3,0,0,0,0] ⟨H,ak.nil⟩ J J ?_)));rintro k9 ⟨x7,x8,a7,n7,H7⟩ ⟨Z6,s7⟩;rw[iN.l0] at Z6;refine rc T 6 (cd J Z6 (λZ6=>?_) (λZ6=>?_))
 ·refine rc T 2 (mq Z6 [0,1,2,7,8,32,33,34] [0,0,0,0,0] (λlW (⟨aK,a8,n8,H8⟩:List aX×Option Addr×Nat×Hp)=>(aK=lW/\ak cP 285 aK a8 n8 H8,[(9,(ll a8 aK n8))],[H8])) J J (λlW Z8 _=>?_) ?_)
  ·refine rc T 3 ?_;obtain⟨c9,Z8⟩:=az Z8;obtain⟨q9,o9,e9⟩:=s5.r.addr c9.1 c9.2;refine ix T J e9 c9 (le T 0 (oO s5 4) e9 c9 J J (ro T 7 (kr nM.R [1] [1] J ab8 Z8 (nM.c · fO) (λv12 Z8=>?_))));rintro _ _ ⟨cz,n10,bZ,bT,rfl,rfl⟩;refine fz J (ro T 5 (lq [0,1,2,7,8,11,32,33,34,40,41] [0,5,0,0,0,1] (λ(⟨GM,cA,dS,a12,n12,dH⟩:Nat×List aX×Int×Option Addr×Nat×Hp)=>(iN.l1 GM ai v1 v4 x8 v12 cA dS=some lW/\ak cP 285 cA a12 n12 dH,[(9,(ll a12 cA n12)),(42,(ii dS))],[dH])) J J (fuel,x7,0,a7,n7,H7) [0,5,0,0,0,1,0] ⟨Z8,s7⟩ J J ?_));rintro GM ⟨cA,dS,a12,n12,dH⟩ ⟨aY,dN⟩;rw[iN.l1] at aY;refine rc T 6 (cd J aY (λaY=>?_) (λaY=>?_))
   ·refine rc T 6 ?_;obtain⟨jl,aY⟩:=az aY;obtain⟨Vw,U',xt⟩:=bT.r.addr jl.1 jl.2;refine ix T J xt jl (bx J (gd T (cs:=[(ii (rd v12 dS).To),(ii (rd v12 dS).kE)]) J J J J J J (iu (k:=pH) (oO bT 5) xt jl J)) (nc T J (λI3=>sg T 7 J (ro T 6 (lf T 7 J (k [2,2] J ab9 aY (C_.c · O') (λfQ aY=>ro T 9 (cb J aY (λaY=>?_) (λaY=>?_)))))))))
    ·refine ks [0,1,2,7,8,9,11,13,14,32,33,34,40,41,42] J (fz J (rg [17] [0,0,0,0,0,0,0,0] mix (bR bQ) (λhg pf=>ha T 11 [0,1,2,3,5,6,7,8] sz hg pf J (al T 9 7 sz hg pf J J J (ha T 9 [11] sz hg pf J (al T 12 7 sz hg pf J J J (ha T 6 [13,14] sz hg pf J (ao 4 (kh [] J Gh aY (rE.c ·) (λox aY=>an sz (ao 10 (kh [] J ab_ aY (qJ.c ·) (λv20 aY=>an sz (ha T 3 [15] sz hg pf J (ao 16 (c_ (k:=cP) T [(aX.mk ox v20 (af ((rd v12 dS).kE+fQ)))] J J J J J J J J J (λkc dO dW=>an (so [0,0,0,0,0,0,0,0]) (ao 17 ?_))))))))))))))))));obtain⟨lP,aY⟩:=az aY;refine eF (k:=cP) (xs:=cA) T (g:=6) J J J J J J J J J J dN (oO dW 8) lP J (λik n16 fx eK=>an sl (hb T 18 sl hg pf J (ae (rx T 7 (ar (_,_,_,_,_) [0,0,0,0,0,0,0] ⟨aY,eK⟩ J J)))))
    refine rc T 8 (ar (_,_,_,_,_) [0,0,0,0,0,0,0] ⟨aY,dN⟩ J J)
   refine rc T 6 (am (_,_,_,_) [0,0,0,0,0,1] ⟨oi aY,dN⟩ J J)
  rintro _ ⟨aK,a8,n8,H8⟩ ⟨rfl,s8⟩ Z6;refine rc T 5 (ar (_,_,_,_,_) [0,0,0,0,0,0] ⟨Z6,s8⟩ J J)
 refine rc T 9 (k [2,2] J ab' Z6 (HD.c · O') (λv21 Z6=>ro T 3 (mq Z6 [7,8,9,15] [0,4,0,0,0] (λz23 (bV:Bool)=>(bV=z23,[(85,(bb bV))],[])) J J (λz23 yU _=>?_) ?_)))
 ·refine rc T 4 (k [] J sb yU (gy.c ·) (λv24 yU=>ro T 3 (ab 80 J yU (λyU=>?_) (λyU=>?_))))
  ·refine ro T 2 (k [1] J vX yU (i_.c · fO) (λv25 yU=>ro T 4 (am _ [0,4,0,0,0] (oi yU) J J)))
  refine ro T 7 (am _ [0,4,0,0,0] (oi yU) J J)
 rintro _ bV rfl Z6;refine cb J Z6 (λZ6=>?_) (λZ6=>?_)
 ·refine rc T 5 (k [] J Gh Z6 (rE.c ·) (λv26 Z6=>ro T 1 (aV (c_ (k:=cP) T [(aX.mk v26 4 0)] J J J J J J J J J (λa17 eP fF=>?_)))));obtain⟨xm,Z6⟩:=az Z6;refine aV (eF (k:=cP) (xs:=x7) T (g:=1) J J J J J J J J J J s7 (oO fF 5) xm J (λjj n18 fo fG=>ro T 6 (kr np.R [] [] J Gj Z6 (np.c (l:=(x7++[(aX.mk v26 4 0)])) · (oO fG 1) fG.b_) (λPA Z6=>?_))));rintro _ _ ⟨my,n19,lh,hJ,rfl,rfl⟩;refine fz J (ro T 4 ?_)
  cases Z6;exact p1 T J [6,2,2,2,0] ⟨my,n19,lh,hJ,J,J⟩ J
 refine rc T 5 (kr np.R [] [] J Gj Z6 (np.c · (oO s7 1) s7.b_) (λv28 Z6=>?_));rintro _ _ ⟨a20,n20,oA,mi,rfl,rfl⟩;refine fz J (ro T 4 ?_)
 cases Z6;exact p1 T J [5,2,2,2,0] ⟨a20,n20,oA,mi,J,J⟩ J
end
noncomputable section
def zF.f (l:gx):Option gx:=some (gx.mk l.k [] ([]:(List ((Int×Int)×Int))) (-1) (-1))
def zF.R (gN:Nat) (r:gx):bk:=λu G=> ∃(a0 n0 H0:_) (a1:Nat) (H1:Hp),ak kS 278 r.aw a0 n0 H0/\cU (Ky.pair T .i64 J J J lV u3) (λx:Int=>Value.int .i64 x) r.fj a1 H1/\u=(.tuple #[])/\G=[(cl gN 238 [(ii r.k),(ll a0 r.aw n0),(.map (some a1)),(ii r.cJ),(ii r.dr)]),H0,H1]
theorem zF.c (H:zF.f l=some r) (tZ:ak kS 278 l.aw mz mN yQ):
 QR 145 [(pp gN)] [(cl gN 238 [(ii l.k),(ll mz l.aw mN),(.map none),(ii l.cJ),(ii l.dr)]),yQ] [] F (zF.R gN r):=by
 unfold zF.f at H;refine aG Tryz.func145 J J (λW=>rc T 6 (nL J (rc T 5 (aV (vK T (Ky.pair T .i64 J J J lV u3) (λx:Int=>Value.int .i64 x) J J J trivial (λa3 H3 s3=>ro T 2 (sg T 0 J (ro T 2 (sg T 0 J (ro T 2 (sg T 0 J (ro T 2 (sg T 0 J (ro T 1 (jk ?_)))))))))))))))
 cases H;refine bA (p1 T J [0,3,2,1] ⟨none,0,[],a3,H3,ak.nil,s3,J,J⟩ J)
def xU.f (ag:Int):Option (Option gx):=if ag<1 then(some none) else((zF.f (gx.mk ag ([]:List bq) [] 0 0)).bind λv1=>some (some v1))
def xU.R (r:(Option gx)):bk:=λu G=> ∃(u0:Value) (G0:List Hp),XO r u0 G0/\u=u0/\G=G0
theorem xU.c (H:xU.f ag=some r):
 QR 105 [(ii ag)] [] [] F (xU.R r):=by
 unfold xU.f at H;refine aG Tryz.func105 J J (λW=>rc T 12 (cd J H (λH=>?_) (λH=>?_)))
 ·refine rc T 7 ?_
  cases H;exact p1 T J [0] ⟨_,_,⟨J,J⟩,J,J⟩ J
 refine rc T 6 (nc T J (λb1=>ro T 6 (bA (kr (zF.R b1) [] [1,1] J Sv H (zF.c (l:=(gx.mk ag ([]:List bq) [] 0 0)) · (ak.nil (k:=kS) (E:=278))) (λv1 H=>?_)))));rintro _ _ ⟨a3,n3,H3,a4,H4,s3,s4,rfl,rfl⟩;refine fz J (ro T 9 ?_)
 cases H;exact p1 T J [1,1,1,0] ⟨_,_,⟨b1,a3,n3,H3,a4,H4,s3,s4,J,J⟩,J,J⟩ J
def zG.f (l:gx):Option gx:=some (gx.mk l.k [] ([]:(List ((Int×Int)×Int))) (-1) (-1))
def zG.R (gN:Nat) (r:gx):bk:=λu G=> ∃(a0 n0 H0:_) (a1:Nat) (H1:Hp),ak kS 278 r.aw a0 n0 H0/\cU (Ky.pair T .i64 J J J lV u3) (λx:Int=>Value.int .i64 x) r.fj a1 H1/\u=(.tuple #[])/\G=[(cl gN 238 [(ii r.k),(ll a0 r.aw n0),(.map (some a1)),(ii r.cJ),(ii r.dr)]),H0,H1]
theorem zG.c (H:zG.f l=some r) (tZ:ak kS 278 l.aw mz mN yQ) (wL:cU (Ky.pair T .i64 J J J lV u3) (λx:Int=>Value.int .i64 x) l.fj pn vy):
 QR 145 [(pp gN)] [(cl gN 238 [(ii l.k),(ll mz l.aw mN),(.map (some pn)),(ii l.cJ),(ii l.dr)]),yQ,vy] [] F (zG.R gN r):=by
 unfold zG.f at H;refine aG Tryz.func145 J J (λW=>rc T 6 (nL J (rc T 5 (aV (vK T (Ky.pair T .i64 J J J lV u3) (λx:Int=>Value.int .i64 x) J J J trivial (λa4 H4 s4=>ro T 2 (sg T 0 J (ro T 2 (sg T 0 J (ro T 2 (sg T 0 J (ro T 2 (sg T 0 J (ro T 1 (jk ?_)))))))))))))))
 cases H;refine bA (p1 T J [0,4,3,2] ⟨none,0,[],a4,H4,ak.nil,s4,J,J⟩ J)
def tI.f (l:gx) (ai:Int):Option gx:=if(0<=ai/\ai<(aa l.aw:Int)) then((if((rd l.aw ai).cQ==(-1))=true then(some (l.aw,(rd l.aw ai).ba)) else(if(0<=(rd l.aw ai).cQ/\(rd l.aw ai).cQ<(aa l.aw:Int)) then(some ((aD l.aw (ax ((rd l.aw ai).cQ)) (bq.mk ((rd l.aw ((rd l.aw ai).cQ)).key) ((rd l.aw ((rd l.aw ai).cQ)).cQ) ((rd l.aw ai).ba))),l.cJ)) else none)).bind λ(x1,x2)=>if((rd l.aw ai).ba==(-1))=true then(some (gx.mk l.k x1 l.fj x2 ((rd l.aw ai).cQ))) else(if(0<=(rd l.aw ai).ba/\(rd l.aw ai).ba<(aa x1:Int)) then(some (gx.mk l.k (aD x1 (ax ((rd l.aw ai).ba)) (bq.mk ((rd x1 ((rd l.aw ai).ba)).key) ((rd l.aw ai).cQ) ((rd x1 ((rd l.aw ai).ba)).ba))) l.fj x2 l.dr)) else none)) else none
def tI.R (gN:Nat) (r:gx):bk:=λu G=> ∃(a0 n0 H0:_) (a1:Nat) (H1:Hp),ak kS 278 r.aw a0 n0 H0/\cU (Ky.pair T .i64 J J J lV u3) (λx:Int=>Value.int .i64 x) r.fj a1 H1/\u=(.tuple #[])/\G=[(cl gN 238 [(ii r.k),(ll a0 r.aw n0),(.map (some a1)),(ii r.cJ),(ii r.dr)]),H0,H1]
theorem tI.c (H:tI.f l ai=some r) (tZ:ak kS 278 l.aw mz mN yQ) (wL:cU (Ky.pair T .i64 J J J lV u3) (λx:Int=>Value.int .i64 x) l.fj pn vy):
 QR 224 [(pp gN),(ii ai)] [(cl gN 238 [(ii l.k),(ll mz l.aw mN),(.map (some pn)),(ii l.cJ),(ii l.dr)]),yQ,vy] [] F (tI.R gN r):=by
 unfold tI.f at H;refine aG Tryz.func224 J J (λW=>rc T 5 (lf T 0 J (ro T 1 ?_)));obtain⟨c1,H⟩:=az H;obtain⟨q4,o4,e4⟩:=tZ.r.addr c1.1 c1.2;refine ix T J e4 c1 (bx J (gd T (cs:=[(ii (rd l.aw ai).key.1),(ii (rd l.aw ai).key.2),(ii (rd l.aw ai).cQ),(ii (rd l.aw ai).ba)]) J J J J J J (iu (k:=kS) (oO tZ 1) e4 c1 J)) (nc T J (λb5=>sg T 4 J (ro T 2 (mq H [0,4] [3,2,2] (λz3 (⟨x1,x2,a6,n6,H6⟩:List bq×Int×Option Addr×Nat×Hp)=>((x1,x2)=z3/\ak kS 278 x1 a6 n6 H6,[],[(cl gN 238 [(ii l.k),(ll a6 x1 n6),(.map (some pn)),(ii x2),(ii l.dr)]),H6])) J J (λz3 Z2 _=>?_) ?_)))))
 ·refine rc T 3 (lf T 4 J (ro T 3 (cb J Z2 (λZ2=>?_) (λZ2=>?_))))
  ·refine rc T 3 (lf T 4 J (ro T 2 (sg T 0 J (ro T 2 (am (_,_,_,_,_) [3,2,2,0,0] ⟨oi Z2,tZ⟩ J J)))))
  refine ks [0,4] J (fz J (rz [10] mix (bR bQ) (λhg pf=>ha T 8 [0,1,2] sz hg pf J (al T 3 0 sz hg pf J J J (ha T 6 [4] sz hg pf J (al T 5 4 sz hg pf J J J (ha T 4 [6] sz hg pf J (al T 7 4 sz hg pf J J J ?_))))))));obtain⟨c4,Z2⟩:=az Z2;refine av 8 sz hg pf J (cB T J J J J J e4 c4.1 c4.2) (ha T 1 [9] sz hg pf J (ao 10 (jN (k:=kS) T 1 3 (bq.mk ((rd l.aw ((rd l.aw ai).cQ)).key) ((rd l.aw ((rd l.aw ai).cQ)).cQ) ((rd l.aw ai).ba)) J J J J J J tZ e4 c4 J J J (λH7 s7=>kg [0,4,20,21,22,24,25,26,27,28,29] [1,1,1,1] [1,1,1,1,0] [(23,(ll mz (aD l.aw (ax ((rd l.aw ai).cQ)) (bq.mk ((rd l.aw ((rd l.aw ai).cQ)).key) ((rd l.aw ((rd l.aw ai).cQ)).cQ) ((rd l.aw ai).ba))) mN))] [(cl gN 238 [(ii l.k),(ll mz (aD l.aw (ax ((rd l.aw ai).cQ)) (bq.mk ((rd l.aw ((rd l.aw ai).cQ)).key) ((rd l.aw ((rd l.aw ai).cQ)).cQ) ((rd l.aw ai).ba))) mN),(.map (some pn)),(ii l.cJ),(ii l.dr)])] J J ⟨dw,trivial⟩ dw (an sl (ae (rx T 1 (am (_,_,_,_,_) [2,1,1,1,0] ⟨oi Z2,s7⟩ J J))))))))
 rintro _ ⟨x1,x2,a6,n6,H6⟩ ⟨rfl,s6⟩ H;refine rc T 3 (lf T 2 J (ro T 3 (cb J H (λH=>?_) (λH=>?_))))
 ·refine rc T 3 (lf T 2 J (ro T 2 (sg T 3 J (ro T 1 (jk ?_)))))
  cases H;exact p1 T J [3,3,1,0] ⟨a6,n6,H6,pn,vy,s6,wL,J,J⟩ J
 refine fz J (rz [10] mix (bR bQ) (λhg pf=>ha T 8 [0,1,2] sz hg pf J (al T 3 3 sz hg pf J J J (ha T 6 [4] sz hg pf J (al T 5 2 sz hg pf J J J (ha T 4 [6] sz hg pf J (al T 7 2 sz hg pf J J J ?_)))))));obtain⟨c6,H⟩:=az H;obtain⟨q8,o8,e8⟩:=s6.r.addr c6.1 c6.2;refine av 8 sz hg pf J (cB T J J J J J e8 c6.1 c6.2) (ha T 1 [9] sz hg pf J (ao 10 (jN (k:=kS) T 4 2 (bq.mk ((rd x1 ((rd l.aw ai).ba)).key) ((rd l.aw ai).cQ) ((rd x1 ((rd l.aw ai).ba)).ba)) J J J J J J s6 e8 c6 J J J (λH9 s9=>kg [0,4,32,38,39,40,42,43,44,45,46,47] [0,0,0,1] [0,0,0,1,0] [(41,(ll a6 (aD x1 (ax ((rd l.aw ai).ba)) (bq.mk ((rd x1 ((rd l.aw ai).ba)).key) ((rd l.aw ai).cQ) ((rd x1 ((rd l.aw ai).ba)).ba))) n6))] [(cl gN 238 [(ii l.k),(ll a6 (aD x1 (ax ((rd l.aw ai).ba)) (bq.mk ((rd x1 ((rd l.aw ai).ba)).key) ((rd l.aw ai).cQ) ((rd x1 ((rd l.aw ai).ba)).ba))) n6),(.map (some pn)),(ii x2),(ii l.dr)])] J J ⟨dw,trivial⟩ dw (an sl (ae (jk ?_)))))))
 cases H;exact p1 T J [4,3,1,0] ⟨a6,n6,H9,pn,vy,s9,wL,J,J⟩ J
def xS.f (l:gx) (ai:Int):Option gx:=if(0<=ai/\ai<(aa l.aw:Int)) then(if(0<=ai/\ai<(aa (aD l.aw (ax ai) (bq.mk ((rd l.aw ai).key) (-1) ((rd l.aw ai).ba))):Int)) then(if(l.cJ==(-1))=true then(some (gx.mk l.k (aD (aD l.aw (ax ai) (bq.mk ((rd l.aw ai).key) (-1) ((rd l.aw ai).ba))) (ax ai) (bq.mk ((rd (aD l.aw (ax ai) (bq.mk ((rd l.aw ai).key) (-1) ((rd l.aw ai).ba))) ai).key) ((rd (aD l.aw (ax ai) (bq.mk ((rd l.aw ai).key) (-1) ((rd l.aw ai).ba))) ai).cQ) l.cJ)) l.fj ai ai)) else(if(0<=l.cJ/\l.cJ<(aa (aD (aD l.aw (ax ai) (bq.mk ((rd l.aw ai).key) (-1) ((rd l.aw ai).ba))) (ax ai) (bq.mk ((rd (aD l.aw (ax ai) (bq.mk ((rd l.aw ai).key) (-1) ((rd l.aw ai).ba))) ai).key) ((rd (aD l.aw (ax ai) (bq.mk ((rd l.aw ai).key) (-1) ((rd l.aw ai).ba))) ai).cQ) l.cJ)):Int)) then(some (gx.mk l.k (aD (aD (aD l.aw (ax ai) (bq.mk ((rd l.aw ai).key) (-1) ((rd l.aw ai).ba))) (ax ai) (bq.mk ((rd (aD l.aw (ax ai) (bq.mk ((rd l.aw ai).key) (-1) ((rd l.aw ai).ba))) ai).key) ((rd (aD l.aw (ax ai) (bq.mk ((rd l.aw ai).key) (-1) ((rd l.aw ai).ba))) ai).cQ) l.cJ)) (ax l.cJ) (bq.mk ((rd (aD (aD l.aw (ax ai) (bq.mk ((rd l.aw ai).key) (-1) ((rd l.aw ai).ba))) (ax ai) (bq.mk ((rd (aD l.aw (ax ai) (bq.mk ((rd l.aw ai).key) (-1) ((rd l.aw ai).ba))) ai).key) ((rd (aD l.aw (ax ai) (bq.mk ((rd l.aw ai).key) (-1) ((rd l.aw ai).ba))) ai).cQ) l.cJ)) l.cJ).key) ai ((rd (aD (aD l.aw (ax ai) (bq.mk ((rd l.aw ai).key) (-1) ((rd l.aw ai).ba))) (ax ai) (bq.mk ((rd (aD l.aw (ax ai) (bq.mk ((rd l.aw ai).key) (-1) ((rd l.aw ai).ba))) ai).key) ((rd (aD l.aw (ax ai) (bq.mk ((rd l.aw ai).key) (-1) ((rd l.aw ai).ba))) ai).cQ) l.cJ)) l.cJ).ba))) l.fj ai l.dr)) else none)) else none) else none
def xS.R (gN:Nat) (r:gx):bk:=λu G=> ∃(a0 n0 H0:_) (a1:Nat) (H1:Hp),ak kS 278 r.aw a0 n0 H0/\cU (Ky.pair T .i64 J J J lV u3) (λx:Int=>Value.int .i64 x) r.fj a1 H1/\u=(.tuple #[])/\G=[(cl gN 238 [(ii r.k),(ll a0 r.aw n0),(.map (some a1)),(ii r.cJ),(ii r.dr)]),H0,H1]
theorem xS.c (H:xS.f l ai=some r) (tZ:ak kS 278 l.aw mz mN yQ) (wL:cU (Ky.pair T .i64 J J J lV u3) (λx:Int=>Value.int .i64 x) l.fj pn vy):
 QR 225 [(pp gN),(ii ai)] [(cl gN 238 [(ii l.k),(ll mz l.aw mN),(.map (some pn)),(ii l.cJ),(ii l.dr)]),yQ,vy] [] F (xS.R gN r):=by
 unfold xS.f at H;refine aG Tryz.func225 J J (λW=>rc T 1 (fz J (rz [16,19] mix (bR bQ) (λhg pf=>ha T 17 [0,1,2] sz hg pf J (al T 3 0 sz hg pf J J J (ha T 12 [4,5,6,7] sz hg pf J (al T 8 0 sz hg pf J J J (ha T 7 [9,10,11,12] sz hg pf J (al T 13 0 sz hg pf J J J ?_)))))))));obtain⟨c1,H⟩:=az H;obtain⟨q4,o4,e4⟩:=tZ.r.addr c1.1 c1.2;refine av 14 sz hg pf J (cB T J J J J J e4 c1.1 c1.2) (ha T 4 [15] sz hg pf J (ao 16 (jN (k:=kS) T 1 2 (bq.mk ((rd l.aw ai).key) (-1) ((rd l.aw ai).ba)) J J J J J J tZ e4 c1 J J J (λH5 s5=>kg [0,1,4,5,6,8,9,10,11,13,14,15,16,17,18,19] [1,1,1] [1,1,1,0] [(7,(ll mz (aD l.aw (ax ai) (bq.mk ((rd l.aw ai).key) (-1) ((rd l.aw ai).ba))) mN)),(12,(ll mz (aD l.aw (ax ai) (bq.mk ((rd l.aw ai).key) (-1) ((rd l.aw ai).ba))) mN))] [(cl gN 238 [(ii l.k),(ll mz (aD l.aw (ax ai) (bq.mk ((rd l.aw ai).key) (-1) ((rd l.aw ai).ba))) mN),(.map (some pn)),(ii l.cJ),(ii l.dr)])] J J ⟨dw,dw,trivial⟩ dw (an sl (ao 17 ?_))))));obtain⟨c2,H⟩:=az H;refine lN J (cB T J J J J J e4 c2.1 c2.2) (an sl (hb T 18 sl hg pf J (ao 19 (jN (k:=kS) T 0 3 (bq.mk ((rd (aD l.aw (ax ai) (bq.mk ((rd l.aw ai).key) (-1) ((rd l.aw ai).ba))) ai).key) ((rd (aD l.aw (ax ai) (bq.mk ((rd l.aw ai).key) (-1) ((rd l.aw ai).ba))) ai).cQ) l.cJ) J J J J J J s5 e4 c2 J J J (λH6 s6=>kg [0,1,4,5,6,8,9,10,11,13,14,15,16,17,18,19,20,21] [0,0,0] [0,0,0,0] [(7,(ll mz (aD (aD l.aw (ax ai) (bq.mk ((rd l.aw ai).key) (-1) ((rd l.aw ai).ba))) (ax ai) (bq.mk ((rd (aD l.aw (ax ai) (bq.mk ((rd l.aw ai).key) (-1) ((rd l.aw ai).ba))) ai).key) ((rd (aD l.aw (ax ai) (bq.mk ((rd l.aw ai).key) (-1) ((rd l.aw ai).ba))) ai).cQ) l.cJ)) mN)),(12,(ll mz (aD (aD l.aw (ax ai) (bq.mk ((rd l.aw ai).key) (-1) ((rd l.aw ai).ba))) (ax ai) (bq.mk ((rd (aD l.aw (ax ai) (bq.mk ((rd l.aw ai).key) (-1) ((rd l.aw ai).ba))) ai).key) ((rd (aD l.aw (ax ai) (bq.mk ((rd l.aw ai).key) (-1) ((rd l.aw ai).ba))) ai).cQ) l.cJ)) mN))] [(cl gN 238 [(ii l.k),(ll mz (aD (aD l.aw (ax ai) (bq.mk ((rd l.aw ai).key) (-1) ((rd l.aw ai).ba))) (ax ai) (bq.mk ((rd (aD l.aw (ax ai) (bq.mk ((rd l.aw ai).key) (-1) ((rd l.aw ai).ba))) ai).key) ((rd (aD l.aw (ax ai) (bq.mk ((rd l.aw ai).key) (-1) ((rd l.aw ai).ba))) ai).cQ) l.cJ)) mN),(.map (some pn)),(ii l.cJ),(ii l.dr)])] J J ⟨dw,dw,trivial⟩ dw (an sl (ae (rx T 7 (lf T 3 J (ro T 3 (cb J H (λH=>?_) (λH=>?_))))))))))))
 ·refine rc T 5 (sg T 3 J (ro T 7 (sg T 3 J (ro T 1 (ks [] J (jk ?_))))))
  cases H;exact p1 T J [3,0,0,0] ⟨mz,mN,H6,pn,vy,s6,wL,J,J⟩ J
 refine ks [0,1] J (fz J (rz [11] mix (bR bQ) (λhg pf=>ha T 9 [0,1,2] sz hg pf J (al T 3 3 sz hg pf J J J (ha T 5 [4,5,6] sz hg pf J (al T 7 3 sz hg pf J J J (ha T 3 [8] sz hg pf J ?_)))))));obtain⟨c4,H⟩:=az H;refine av 9 sz hg pf J (cB T J J J J J e4 c4.1 c4.2) (ha T 1 [10] sz hg pf J (ao 11 (jN (k:=kS) T 0 2 (bq.mk ((rd (aD (aD l.aw (ax ai) (bq.mk ((rd l.aw ai).key) (-1) ((rd l.aw ai).ba))) (ax ai) (bq.mk ((rd (aD l.aw (ax ai) (bq.mk ((rd l.aw ai).key) (-1) ((rd l.aw ai).ba))) ai).key) ((rd (aD l.aw (ax ai) (bq.mk ((rd l.aw ai).key) (-1) ((rd l.aw ai).ba))) ai).cQ) l.cJ)) l.cJ).key) ai ((rd (aD (aD l.aw (ax ai) (bq.mk ((rd l.aw ai).key) (-1) ((rd l.aw ai).ba))) (ax ai) (bq.mk ((rd (aD l.aw (ax ai) (bq.mk ((rd l.aw ai).key) (-1) ((rd l.aw ai).ba))) ai).key) ((rd (aD l.aw (ax ai) (bq.mk ((rd l.aw ai).key) (-1) ((rd l.aw ai).ba))) ai).cQ) l.cJ)) l.cJ).ba)) J J J J J J s6 e4 c4 J J J (λH7 s7=>kg [0,1,31,32,33,35,36,37,38,39,40,41] [0,0,0] [0,0,0,0] [(34,(ll mz (aD (aD (aD l.aw (ax ai) (bq.mk ((rd l.aw ai).key) (-1) ((rd l.aw ai).ba))) (ax ai) (bq.mk ((rd (aD l.aw (ax ai) (bq.mk ((rd l.aw ai).key) (-1) ((rd l.aw ai).ba))) ai).key) ((rd (aD l.aw (ax ai) (bq.mk ((rd l.aw ai).key) (-1) ((rd l.aw ai).ba))) ai).cQ) l.cJ)) (ax l.cJ) (bq.mk ((rd (aD (aD l.aw (ax ai) (bq.mk ((rd l.aw ai).key) (-1) ((rd l.aw ai).ba))) (ax ai) (bq.mk ((rd (aD l.aw (ax ai) (bq.mk ((rd l.aw ai).key) (-1) ((rd l.aw ai).ba))) ai).key) ((rd (aD l.aw (ax ai) (bq.mk ((rd l.aw ai).key) (-1) ((rd l.aw ai).ba))) ai).cQ) l.cJ)) l.cJ).key) ai ((rd (aD (aD l.aw (ax ai) (bq.mk ((rd l.aw ai).key) (-1) ((rd l.aw ai).ba))) (ax ai) (bq.mk ((rd (aD l.aw (ax ai) (bq.mk ((rd l.aw ai).key) (-1) ((rd l.aw ai).ba))) ai).key) ((rd (aD l.aw (ax ai) (bq.mk ((rd l.aw ai).key) (-1) ((rd l.aw ai).ba))) ai).cQ) l.cJ)) l.cJ).ba))) mN))] [(cl gN 238 [(ii l.k),(ll mz (aD (aD (aD l.aw (ax ai) (bq.mk ((rd l.aw ai).key) (-1) ((rd l.aw ai).ba))) (ax ai) (bq.mk ((rd (aD l.aw (ax ai) (bq.mk ((rd l.aw ai).key) (-1) ((rd l.aw ai).ba))) ai).key) ((rd (aD l.aw (ax ai) (bq.mk ((rd l.aw ai).key) (-1) ((rd l.aw ai).ba))) ai).cQ) l.cJ)) (ax l.cJ) (bq.mk ((rd (aD (aD l.aw (ax ai) (bq.mk ((rd l.aw ai).key) (-1) ((rd l.aw ai).ba))) (ax ai) (bq.mk ((rd (aD l.aw (ax ai) (bq.mk ((rd l.aw ai).key) (-1) ((rd l.aw ai).ba))) ai).key) ((rd (aD l.aw (ax ai) (bq.mk ((rd l.aw ai).key) (-1) ((rd l.aw ai).ba))) ai).cQ) l.cJ)) l.cJ).key) ai ((rd (aD (aD l.aw (ax ai) (bq.mk ((rd l.aw ai).key) (-1) ((rd l.aw ai).ba))) (ax ai) (bq.mk ((rd (aD l.aw (ax ai) (bq.mk ((rd l.aw ai).key) (-1) ((rd l.aw ai).ba))) ai).key) ((rd (aD l.aw (ax ai) (bq.mk ((rd l.aw ai).key) (-1) ((rd l.aw ai).ba))) ai).cQ) l.cJ)) l.cJ).ba))) mN),(.map (some pn)),(ii l.cJ),(ii l.dr)])] J J ⟨dw,trivial⟩ dw (an sl (ae (rx T 6 (sg T 3 J (ro T 1 (jk ?_))))))))))
 cases H;exact p1 T J [3,0,0,0] ⟨mz,mN,H7,pn,vy,s7,wL,J,J⟩ J
def xR.f (l:gx) (a:Int) (b:Int):Option (Int×Bool×Bool×gx):=(if(cj l.fj (a,b))=true then((tI.f l (aT l.fj (a,b))).bind λv9=>some (v9.k,v9.aw,v9.fj,v9.cJ,v9.dr,(aT l.fj (a,b)),false)) else(if(aa l.aw:Int)<l.k then(if(aa l.aw+1<=1099511627776) then(some (l.k,(l.aw++[(bq.mk (a,b) 0 0)]),l.fj,l.cJ,l.dr,(aa l.aw:Int),false)) else none) else((tI.f l l.dr).bind λv10=>if(0<=l.dr/\l.dr<(aa v10.aw:Int)) then(some (v10.k,(aD v10.aw (ax l.dr) (bq.mk (a,b) ((rd v10.aw l.dr).cQ) ((rd v10.aw l.dr).ba))),(fU v10.fj ((rd v10.aw l.dr).key.1,(rd v10.aw l.dr).key.2)),v10.cJ,v10.dr,l.dr,true)) else none))).bind λ(x1,x2,x3,x4,x5,x6,x7)=>(xS.f (gx.mk x1 x2 (cO x3 (a,b) x6) x4 x5) x6).bind λv11=>some (x6,(cj l.fj (a,b)),x7,v11)
def xR.R (gN:Nat) (r:(Int×Bool×Bool×gx)):bk:=λu G=> ∃(a0 n0 H0:_) (a1:Nat) (H1:Hp),ak kS 278 r.2.2.2.aw a0 n0 H0/\cU (Ky.pair T .i64 J J J lV u3) (λx:Int=>Value.int .i64 x) r.2.2.2.fj a1 H1/\u=(.tuple #[(ii r.1),(bb r.2.1),(bb r.2.2.1)])/\G=[(cl gN 238 [(ii r.2.2.2.k),(ll a0 r.2.2.2.aw n0),(.map (some a1)),(ii r.2.2.2.cJ),(ii r.2.2.2.dr)]),H0,H1]
theorem xR.c (H:xR.f l a b=some r) (tZ:ak kS 278 l.aw mz mN yQ) (wL:cU (Ky.pair T .i64 J J J lV u3) (λx:Int=>Value.int .i64 x) l.fj pn vy):
 QR 184 [(pp gN),(ii a),(ii b)] [(cl gN 238 [(ii l.k),(ll mz l.aw mN),(.map (some pn)),(ii l.cJ),(ii l.dr)]),yQ,vy] [] F (xR.R gN r):=by
 unfold xR.f at H;refine aG Tryz.func184 J J (λW=>rc T 14 (e_ J (rc T 6 (bx J (Jl T J J J J J J) (nc T J (λb4=>sg T 4 J (ro T 3 (dq mix aA (au T J (au T J (au T J (cw T 0 J J J (bg J J J (gA T 4 J J J J J J J) (bg J J J (qi (k:=(a,b)) T (Ky.pair T .i64 J J J lV u3) (λx:Int=>Value.int .i64 x) J J J J J (oS wL (j:=2) J)) ?_))))))))))))))
 iterate 5 refine au T J ?_
 refine cM (rx T 1 (mq H [0,7,9] [3,3] (λz8 (⟨x1,x2,x3,x4,x5,x6,x7,a5,n5,H5,a6,H6⟩:Int×List bq×(List ((Int×Int)×Int))×Int×Int×Int×Bool×Option Addr×Nat×Hp×Nat×Hp)=>((x1,x2,x3,x4,x5,x6,x7)=z8/\ak kS 278 x2 a5 n5 H5/\cU (Ky.pair T .i64 J J J lV u3) (λx:Int=>Value.int .i64 x) x3 a6 H6,[(6,(ii x6)),(8,(bb x7))],[(cl gN 238 [(ii x1),(ll a5 x2 n5),(.map (some a6)),(ii x4),(ii x5)]),H5,H6])) J J (λz8 Z1 _=>?_) ?_))
 ·refine rc T 7 (cb J Z1 (λZ1=>?_) (λZ1=>?_))
  ·refine rc T 3 (kr (tI.R gN) [] [0,0,0] J SX Z1 (tI.c · tZ wL) (λv9 Z1=>?_));rintro _ _ ⟨a7,n7,H7,a8,H8,s7,s8,rfl,rfl⟩;refine fz J (ro T 3 (am (_,_,_,_,_,_,_,_,_,_,_,_) [0,0,0,0,0] ⟨oi Z1,s7,s8⟩ J J))
  refine rc T 1 (dq mix aA (au T J (au T J (au T J (cw T 0 J J J ?_)))))
  iterate 4 refine au T J ?_
  refine cw T 0 J J J (au T J (au T J (cM (rx T 1 (cd J Z1 (λZ1=>?_) (λZ1=>?_))))))
  ·refine rc T 5 (lf T 0 J (ro T 4 (ks [0,6,7,8,9] J (fz J (rg [8,11] [0,0,0,0,0] mix (bR bQ) (λhg pf=>ha T 8 [0,1,2,3] sz hg pf J (al T 4 0 sz hg pf J J J (av 5 sz hg pf J (gA T 4 J J J J J J J) (ha T 5 [6] sz hg pf J (ao 7 (c_ (k:=kS) T [(bq.mk (a,b) 0 0)] J J J J J J J J J (λa9 H9 s9=>an (so [0,0,0,0,0]) (ao 8 ?_)))))))))))));obtain⟨c5,Z1⟩:=az Z1;refine eF (k:=kS) (xs:=l.aw) T (g:=1) J J J J J J J J J J tZ (oO s9 5) c5 J (λcz n10 bZ bT=>an sl (hb T 9 sl hg pf J (hb T 10 sl hg pf J (ao 11 (sf T 0 J (an sl (ae (rx T 1 (rx T 1 (am (_,_,_,_,_,_,_,_,_,_,_,_) [3,3,0,0,0] ⟨oi Z1,bT,wL⟩ J J))))))))))
  refine rc T 5 (lf T 0 J (ro T 8 (kr (tI.R gN) [] [0,0,0] J SX Z1 (tI.c · tZ wL) (λv10 Z1=>?_))));rintro _ _ ⟨de,n11,cE,a12,dH,cW,dN,rfl,rfl⟩;refine fz J (ro T 3 (ks [0,6,7,8,9] J (fz J (rz [12] mix (bR bQ) (λhg pf=>ha T 10 [0,1,2] sz hg pf J (al T 3 2 sz hg pf J J J (ha T 6 [4,5,6] sz hg pf J (al T 7 2 sz hg pf J J J (ha T 4 [8] sz hg pf J ?_)))))))));obtain⟨c7,Z1⟩:=az Z1;obtain⟨Vw,U',xt⟩:=cW.r.addr c7.1 c7.2;refine av 9 sz hg pf J (cB T J J J J J xt c7.1 c7.2) (ha T 2 [10] sz hg pf J (av 11 sz hg pf J (gd T (cs:=[(ii (rd v10.aw l.dr).key.1),(ii (rd v10.aw l.dr).key.2)]) J J J J J J (aed (k:=kS) (oO cW 3) xt c7 0 J)) (ao 12 (DN (g:=4) (m:=v10.fj) (k:=((rd v10.aw l.dr).key.1,(rd v10.aw l.dr).key.2)) T (Ky.pair T .i64 J J J lV u3) (λx:Int=>Value.int .i64 x) J J J J J J J J dN (λfm gi=>an sl (ae (rx T 1 (ks [0,6,7,8,9] J (fz J (rz [8] mix (bR bQ) (λhg pf=>ha T 6 [0,1,2] sz hg pf J (al T 3 2 sz hg pf J J J (ha T 4 [4] sz hg pf J (av 5 sz hg pf J (gA T 1 J J J J J J J) (av 6 sz hg pf J (cB T J J J J J xt c7.1 c7.2) (ha T 1 [7] sz hg pf J (ao 8 (jN (k:=kS) T 3 0 (bq.mk (a,b) ((rd v10.aw l.dr).cQ) ((rd v10.aw l.dr).ba)) J J J J J J cW xt c7 J J J (λdO dW=>kg [0,6,7,8,9,43,44,45,47,48,49,50] [0,0,1,1] [0,0,1,1,0] [(46,(ll de (aD v10.aw (ax l.dr) (bq.mk (a,b) ((rd v10.aw l.dr).cQ) ((rd v10.aw l.dr).ba))) n11))] [(cl gN 238 [(ii v10.k),(ll de (aD v10.aw (ax l.dr) (bq.mk (a,b) ((rd v10.aw l.dr).cQ) ((rd v10.aw l.dr).ba))) n11),(.map (some a12)),(ii v10.cJ),(ii v10.dr)])] J J ⟨dw,trivial⟩ dw (an sl (ae (rx T 2 (am (_,_,_,_,_,_,_,_,_,_,_,_) [0,0,2,0,0] ⟨oi Z1,dW,gi⟩ J J)))))))))))))))))))))))
 rintro _ ⟨x1,x2,x3,x4,x5,x6,x7,a5,n5,H5,a6,H6⟩ ⟨rfl,s5,s6⟩ H;refine rc T 1 (fz J (rz [6] mix (bR bQ) (λhg pf=>ha T 4 [0,1,2] sz hg pf J (al T 3 2 sz hg pf J J J (av 4 sz hg pf J (gA T 1 J J J J J J J) (ha T 1 [5] sz hg pf J (ao 6 (p_ (g:=4) (m:=x3) (k:=(a,b)) (v:=x6) T (Ky.pair T .i64 J J J lV u3) (λx:Int=>Value.int .i64 x) J J J J J J J s6 (λfx eK=>an sl (ae (rx T 5 (kr (xS.R gN) [] [2,2,2] J acC H (xS.c (l:=(gx.mk x1 x2 (cO x3 (a,b) x6) x4 x5)) · s5 eK) (λv11 H=>?_)))))))))))));rintro _ _ ⟨a17,n17,eP,jj,fo,fF,fG,rfl,rfl⟩;refine fz J (ro T 13 ?_)
 cases H;exact p1 T J [2,2,2,0] ⟨a17,n17,eP,jj,fo,fF,fG,J,J⟩ J
end
noncomputable section
def Dr.f (h:Dp) (ai:Int) (side:Int):Option Int:=if(¬h.t.W=0) then(if(¬h.t.W=0) then(if((side==0)&&(decide ((af (cZ ai h.t.W))>0)))=true then(some (af (ai-h.t.W))) else((if(side==1)=true then(some (decide ((fy ai h.t.W)<(af (h.t.W-1))))) else(some false)).bind λx1=>if x1=true then(some (af (ai+1))) else((if(side==2)=true then(some (decide ((af (cZ ai h.t.W))<(af (h.t.H-1))))) else(some false)).bind λx3=>if x3=true then(some (af (ai+h.t.W))) else(if((side==3)&&(decide ((fy ai h.t.W)>0)))=true then(some (af (ai-1))) else(some (-1)))))) else none) else none
theorem Dr.c (H:Dr.f h ai side=some r) (jo:(fA,Obj.cells #[(ii h.t.W),(ii h.t.H),(ll BS h.t.C CL),(ll kI h.l kU),(ll BR h.aN CK)] 337 (0,0))∈F) (oL:aP (Fl.int .u8) h.t.C BS F) (qT:aa h.t.C<=CL) (pA:aP cP h.l kI F) (px:aa h.l<=kU) (ma:aP (Fl.int .i64) h.aN BR F) (qS:aa h.aN<=CK):
 QU 295 [(pp fA),(ii ai),(ii side)] [] F (ii r):=by
 unfold Dr.f at H;refine aG Tryz.func295 J J (λW=>rc T 6 (dq mix aA ?_))
 iterate 5 refine au T J ?_
 refine bg J J J (cC T J J J J (nU (j:=0) jo J J)) ?_;obtain⟨c1,H⟩:=az H;refine bg J J J (uP J J J c1) ?_
 iterate 5 refine au T J ?_
 refine bg J J J (cC T J J J J (nU (j:=0) jo J J)) ?_;obtain⟨c2,H⟩:=az H;refine bg J J J (uO J J J c2) (au T J (au T J (cM (rx T 8 (ga T [3,4,5] 26 [0,1,2,7,8] 29 J J J J J J J (ro T 3 (cb J H (λH=>?_) (λH=>?_))))))))
 ·refine rc T 7 (lg T J (nU (j:=0) jo J J) (ro T 7 ?_))
  cases H;exact p0 T J [0] J
 refine mq H [0,1,2,7,8] [0] (λz2 (x1:Bool)=>(x1=z2,[(37,(bb x1))],[])) J J (λz2 Z4 _=>?_) ?_
 ·refine rc T 4 (ab 40 J Z4 (λZ4=>?_) (λZ4=>?_))
  ·refine ro T 5 (lg T J (nU (j:=0) jo J J) (ro T 6 (am _ [0] (oi Z4) J J)))
  refine ro T 12 (am _ [0] (oi Z4) J J)
 rintro _ x1 rfl H;refine cb J H (λH=>?_) (λH=>?_)
 ·refine rc T 10 ?_
  cases H;exact p0 T J [0] J
 refine mq H [0,1,2,7] [0] (λz4 (x3:Bool)=>(x3=z4,[(52,(bb x3))],[])) J J (λz4 Z7 _=>?_) ?_
 ·refine rc T 4 (ab 55 J Z7 (λZ7=>?_) (λZ7=>?_))
  ·refine ro T 5 (lg T J (nU (j:=0) jo J J) (ro T 6 (am _ [0] (oi Z7) J J)))
  refine ro T 12 (am _ [0] (oi Z7) J J)
 rintro _ x3 rfl H;refine cb J H (λH=>?_) (λH=>?_)
 ·refine rc T 7 (lg T J (nU (j:=0) jo J J) (ro T 7 ?_))
  cases H;exact p0 T J [0] J
 refine rc T 5 (ga T [3,4,5] 75 [1] 78 J J J J J J J (ro T 3 (cb J H (λH=>?_) (λH=>?_))))
 ·refine rc T 10 ?_
  cases H;exact p0 T J [0] J
 refine rc T 9 ?_
 cases H;exact p0 T J [0] J
def kZ.f (h:Dp) (ai:Int) (side:Int):Option Bool:=(Dr.f h ai side).bind λv1=>if v1<0 then((kY.f h.l ai side).bind λv2=>if(0<=ai/\ai<(aa h.aN:Int)) then(some (v2==(rd h.aN ai))) else none) else((if(0<=v1/\v1<(aa h.t.C:Int)) then(if((rd h.t.C v1)!=255)=true then(if(0<=v1/\v1<(aa h.aN:Int)) then(if(0<=ai/\ai<(aa h.aN:Int)) then(some ((af ((af (rd h.t.C v1))+(rd h.aN v1)))==(rd h.aN ai))) else none) else none) else(some false)) else none).bind λx3=>some x3)
theorem kZ.c (H:kZ.f h ai side=some r) (jo:(fA,Obj.cells #[(ii h.t.W),(ii h.t.H),(ll BS h.t.C CL),(ll kI h.l kU),(ll BR h.aN CK)] 337 (0,0))∈F) (oL:aP (Fl.int .u8) h.t.C BS F) (qT:aa h.t.C<=CL) (pA:aP cP h.l kI F) (px:aa h.l<=kU) (ma:aP (Fl.int .i64) h.aN BR F) (qS:aa h.aN<=CK):
 QU 277 [(pp fA),(ii ai),(ii side)] [] F (bb r):=by
 unfold kZ.f at H;refine aG Tryz.func277 J J (λW=>rc T 10 (k [] J ade H (Dr.c · (qo jo (j:=0) J) (rO oL 0) qT (rO pA 0) px (rO ma 0) qS) (λv1 H=>ro T 10 (cd J H (λH=>?_) (λH=>?_)))))
 ·refine rc T 1 (dq mix aA (au T J (au T J (au T J (bg J J J (cC T J J J J (nU (j:=0) jo J J)) (au T J (au T J ?_)))))));obtain⟨v2,V3,H⟩:=gu H;refine uD J J J J J J S5 J (kY.c V3 (rO pA 0) px) (au T J (au T J (au T J (bg J J J (cC T J J J J (nU (j:=0) jo J J)) (au T J ?_)))));obtain⟨c4,H⟩:=az H;obtain⟨q1,o1,e1⟩:=ma.addr c4.1 c4.2;refine bg J J J (cB T J J J J J e1 c4.1 c4.2) (bg J J J (cC T J J J J (fv (k:=(Fl.int .i64)) (rO ma 0) e1 c4 0 J)) (au T J (au T J (cM (rx T 3 ?_)))))
  cases H;exact p0 T J [0] J
 refine rc T 2 (mq H [] [0] (λz4 (x3:Bool)=>(x3=z4,[(6,(bb x3))],[])) J J (λz4 Z5 _=>?_) ?_)
 ·refine dq mix aA ?_
  iterate 4 refine au T J ?_
  refine bg J J J (cC T J J J J (nU (j:=0) jo J J)) (au T J ?_);obtain⟨c6,Z5⟩:=az Z5;obtain⟨q2,o2,e2⟩:=oL.addr c6.1 c6.2;refine bg J J J (cB T J J J J J e2 c6.1 c6.2) (bg J J J (cC T J J J J (fv (k:=(Fl.int .u8)) (rO oL 0) e2 c6 0 J)) (au T J (au T J (qb 38 J Z5 (λZ5=>?_) (λZ5=>?_)))))
  ·iterate 4 refine au T J ?_
   refine bg J J J (cC T J J J J (nU (j:=0) jo J J)) (au T J (bg J J J (cB T J J J J J e2 c6.1 c6.2) (bg J J J (cC T J J J J (fv (k:=(Fl.int .u8)) (rO oL 0) e2 c6 0 J)) ?_)))
   iterate 4 refine au T J ?_
   refine bg J J J (cC T J J J J (nU (j:=0) jo J J)) (au T J ?_);obtain⟨c8,Z5⟩:=az Z5;obtain⟨q3,o3,e3⟩:=ma.addr c8.1 c8.2;refine bg J J J (cB T J J J J J e3 c8.1 c8.2) (bg J J J (cC T J J J J (fv (k:=(Fl.int .i64)) (rO ma 0) e3 c8 0 J)) ?_)
   iterate 4 refine au T J ?_
   refine bg J J J (cC T J J J J (nU (j:=0) jo J J)) (au T J ?_);obtain⟨c9,Z5⟩:=az Z5;refine bg J J J (cB T J J J J J e3 c9.1 c9.2) (bg J J J (cC T J J J J (fv (k:=(Fl.int .i64)) (rO ma 0) e3 c9 0 J)) (au T J (au T J (au T J (cM (rx T 1 (am _ [0] (oi Z5) J J)))))))
  iterate 27 refine au T J ?_
  refine cM (rx T 1 (am _ [0] (oi Z5) J J))
 rintro _ x3 rfl H;refine rc T 1 ?_
 cases H;exact p0 T J [0] J
def ET.f (h:Dp) (ai:Int) (side:Int):Option Int:=if(side==0)=true then((kZ.f h ai 0).bind λv1=>if v1=true then(some 0) else((kZ.f h ai 1).bind λv2=>if v2=true then(some 1) else((kZ.f h ai 2).bind λv3=>if v3=true then(some 2) else((kZ.f h ai 3).bind λv4=>if v4=true then(some 3) else(some 5))))) else(if(side==1)=true then((kZ.f h ai 1).bind λv5=>if v5=true then(some 1) else((kZ.f h ai 2).bind λv6=>if v6=true then(some 2) else((kZ.f h ai 3).bind λv7=>if v7=true then(some 3) else(some 5)))) else(if(side==2)=true then((kZ.f h ai 2).bind λv8=>if v8=true then(some 2) else((kZ.f h ai 3).bind λv9=>if v9=true then(some 3) else(some 5))) else(if(side==3)=true then((kZ.f h ai 3).bind λv10=>if v10=true then(some 3) else(some 5)) else(some 5))))
theorem ET.c (H:ET.f h ai side=some r) (jo:(fA,Obj.cells #[(ii h.t.W),(ii h.t.H),(ll BS h.t.C CL),(ll kI h.l kU),(ll BR h.aN CK)] 337 (0,0))∈F) (oL:aP (Fl.int .u8) h.t.C BS F) (qT:aa h.t.C<=CL) (pA:aP cP h.l kI F) (px:aa h.l<=kU) (ma:aP (Fl.int .i64) h.aN BR F) (qS:aa h.aN<=CK):
 QU 251 [(pp fA),(ii ai),(ii side)] [] F (ii r):=by
 unfold ET.f at H;refine aG Tryz.func251 J J (λW=>rc T 28 (cb J H (λH=>?_) (λH=>?_)))
 ·refine rc T 9 (k [] J xB H (kZ.c · (qo jo (j:=0) J) (rO oL 0) qT (rO pA 0) px (rO ma 0) qS) (λv1 H=>ro T 2 (cb J H (λH=>?_) (λH=>?_))))
  ·refine rc T 14 ?_
   cases H;exact p0 T J [0] J
  refine rc T 7 (k [] J xB H (kZ.c · (qo jo (j:=0) J) (rO oL 0) qT (rO pA 0) px (rO ma 0) qS) (λv2 H=>ro T 2 (cb J H (λH=>?_) (λH=>?_))))
  ·refine rc T 12 ?_
   cases H;exact p0 T J [0] J
  refine rc T 7 (k [] J xB H (kZ.c · (qo jo (j:=0) J) (rO oL 0) qT (rO pA 0) px (rO ma 0) qS) (λv3 H=>ro T 2 (cb J H (λH=>?_) (λH=>?_))))
  ·refine rc T 10 ?_
   cases H;exact p0 T J [0] J
  refine rc T 8 (k [] J xB H (kZ.c · (qo jo (j:=0) J) (rO oL 0) qT (rO pA 0) px (rO ma 0) qS) (λv4 H=>ro T 2 (cb J H (λH=>?_) (λH=>?_))))
  ·refine rc T 9 ?_
   cases H;exact p0 T J [0] J
  refine rc T 11 ?_
  cases H;exact p0 T J [0] J
 refine rc T 9 (cb J H (λH=>?_) (λH=>?_))
 ·refine rc T 11 (k [] J xB H (kZ.c · (qo jo (j:=0) J) (rO oL 0) qT (rO pA 0) px (rO ma 0) qS) (λv5 H=>ro T 2 (cb J H (λH=>?_) (λH=>?_))))
  ·refine rc T 12 ?_
   cases H;exact p0 T J [0] J
  refine rc T 7 (k [] J xB H (kZ.c · (qo jo (j:=0) J) (rO oL 0) qT (rO pA 0) px (rO ma 0) qS) (λv6 H=>ro T 2 (cb J H (λH=>?_) (λH=>?_))))
  ·refine rc T 10 ?_
   cases H;exact p0 T J [0] J
  refine rc T 8 (k [] J xB H (kZ.c · (qo jo (j:=0) J) (rO oL 0) qT (rO pA 0) px (rO ma 0) qS) (λv7 H=>ro T 2 (cb J H (λH=>?_) (λH=>?_))))
  ·refine rc T 9 ?_
   cases H;exact p0 T J [0] J
  refine rc T 11 ?_
  cases H;exact p0 T J [0] J
 refine rc T 9 (cb J H (λH=>?_) (λH=>?_))
 ·refine rc T 13 (k [] J xB H (kZ.c · (qo jo (j:=0) J) (rO oL 0) qT (rO pA 0) px (rO ma 0) qS) (λv8 H=>ro T 2 (cb J H (λH=>?_) (λH=>?_))))
  ·refine rc T 10 ?_
   cases H;exact p0 T J [0] J
  refine rc T 8 (k [] J xB H (kZ.c · (qo jo (j:=0) J) (rO oL 0) qT (rO pA 0) px (rO ma 0) qS) (λv9 H=>ro T 2 (cb J H (λH=>?_) (λH=>?_))))
  ·refine rc T 9 ?_
   cases H;exact p0 T J [0] J
  refine rc T 11 ?_
  cases H;exact p0 T J [0] J
 refine rc T 8 (cb J H (λH=>?_) (λH=>?_))
 ·refine rc T 15 (k [] J xB H (kZ.c · (qo jo (j:=0) J) (rO oL 0) qT (rO pA 0) px (rO ma 0) qS) (λv10 H=>ro T 2 (cb J H (λH=>?_) (λH=>?_))))
  ·refine rc T 9 ?_
   cases H;exact p0 T J [0] J
  refine rc T 11 ?_
  cases H;exact p0 T J [0] J
 refine rc T 19 ?_
 cases H;exact p0 T J [0] J
def Dq.f (h:Dp) (ai:Int):Option Int:=if(0<=ai/\ai<(aa h.aN:Int)) then(if((rd h.aN ai)==1099511627776)=true then(some 5) else((kY.f h.l ai 4).bind λv1=>if((rd h.aN ai)==v1)=true then(some 4) else((ET.f h ai 0).bind λv2=>some v2))) else none
theorem Dq.c (H:Dq.f h ai=some r) (jo:(fA,Obj.cells #[(ii h.t.W),(ii h.t.H),(ll BS h.t.C CL),(ll kI h.l kU),(ll BR h.aN CK)] 337 (0,0))∈F) (oL:aP (Fl.int .u8) h.t.C BS F) (qT:aa h.t.C<=CL) (pA:aP cP h.l kI F) (px:aa h.l<=kU) (ma:aP (Fl.int .i64) h.aN BR F) (qS:aa h.aN<=CK):
 QU 229 [(pp fA),(ii ai)] [] F (ii r):=by
 unfold Dq.f at H;refine aG Tryz.func229 J J (λW=>rc T 11 (lg T J (nU (j:=0) jo J J) (ro T 1 ?_)));obtain⟨c1,H⟩:=az H;obtain⟨q1,o1,e1⟩:=ma.addr c1.1 c1.2;refine ix T J e1 c1 (le T 0 (rO ma 0) e1 c1 J J (ro T 9 (cb J H (λH=>?_) (λH=>?_))))
 ·refine rc T 8 ?_
  cases H;exact p0 T J [0] J
 refine rc T 5 (lg T J (nU (j:=0) jo J J) (ro T 1 (k [] J S5 H (kY.c · (rO pA 0) px) (λv1 H=>ro T 4 (cb J H (λH=>?_) (λH=>?_))))))
 ·refine rc T 8 ?_
  cases H;exact p0 T J [0] J
 refine rc T 7 (k [] J acU H (ET.c · (qo jo (j:=0) J) (rO oL 0) qT (rO pA 0) px (rO ma 0) qS) (λv2 H=>ro T 4 ?_))
 cases H;exact p0 T J [0] J
def oq.l0:Nat->aF->(List aX)->((List Int)×Int)->List Int->Int->Option (gp×Int)
 |0,_,_,_,_,_=>none
 |k6+1,t,l,v1,x4,x5=>if x5<(aa v1.1:Int) then((Dq.f (Dp.mk t l v1.1) x5).bind λv7=>if(aa x4+1<=1099511627776) then(oq.l0 k6 t l v1 (x4++[v7]) (af (x5+1))) else none) else(some ((gp.mk v1.1 x4),0))
def oq.f (t:aF) (l:(List aX)):Option (gp×Int):=(uj.f t l).bind λv1=>if(v1.2 !=0)=true then(some ((gp.mk [] []),v1.2)) else(oq.l0 fuel t l v1 [] 0)
def oq.R (r:(gp×Int)):bk:=λu G=> ∃a0 n0 H0 a1 n1 H1,ak (Fl.int .i64) 3 r.1.ez a0 n0 H0/\ak (Fl.int .i64) 3 r.1.cK a1 n1 H1/\u=(.tuple #[(.agg #[(ll a0 r.1.ez n0),(ll a1 r.1.cK n1)]),(ii r.2)])/\G=[H0,H1]
theorem oq.c (H:oq.f t l=some r) (dU:aP (Fl.int .u8) t.C iz F) (fq:aa t.C<=iB) (df:aP cP l gV F) (f_:aa l<=gQ):
 QR 188 [(.agg #[(ii t.W),(ii t.H),(ll iz t.C iB)]),(ll gV l gQ)] [] [] F (oq.R r):=by
 unfold oq.f at H;refine aG Tryz.func188 J J (λW=>rc T 2 (nc T J (λb1=>nc T J (λb2=>ro T 5 (lm T 1 J (ro T 1 (kr uj.R [] [] J SY H (uj.c · (rO dU 0) fq (rO df 0) f_) (λv1 H=>?_))))))));rintro _ _ ⟨a3,n3,H3,s3,rfl,rfl⟩;refine fz J (ro T 14 (cb J H (λH=>?_) (λH=>?_)))
 ·refine rc T 4 (sg T 2 J (ro T 5 ?_))
  cases H;refine bA (bA (pb T J (.cT (j:=2) [nl,nl] J J J J J J J (.tmp J .nil)) [4,4,0] ⟨(_,_),none,0,[],none,0,[],ak.nil,ak.nil,J,J⟩ J J))
 refine rc T 4 (lm T 1 J (ro T 3 (nc T J (λb6=>ro T 2 (ke [4,6,8] [0,1,1,1] J J (rx T 5 (nc T J (λb7=>sg T 4 J (ro T 11 (bA (lq [4,8,9,29] [0,0,1,0] (λ(⟨k6,x4,x5,a9,n9,H9⟩:Nat×List Int×Int×Option Addr×Nat×Hp)=>(oq.l0 k6 t l v1 x4 x5=some r/\ak (Fl.int .i64) 3 x4 a9 n9 H9,[(30,(ii x5))],[(cl b7 79 [(ll a3 v1.1 n3),(ll a9 x4 n9)]),H9])) J J (fuel,[],0,none,0,[]) [0,0,1,0,0,0] ⟨H,ak.nil⟩ J J ?_)))))))))));rintro k6 ⟨x4,x5,a9,n9,H9⟩ ⟨Z3,s9⟩;rw[oq.l0] at Z3;refine rc T 6 (cd J Z3 (λZ3=>?_) (λZ3=>?_))
 ·refine rc T 10 (fz J (rg [6,8] [0,0,0,0,0,0] mix (bR bQ) (λhg pf=>ha T 8 [0] sz hg pf J (al T 1 4 sz hg pf J J J (ha T 5 [2,3] sz hg pf J (ao 4 (kh [] J acE Z3 (Dq.c (h:=(Dp.mk t l v1.1)) · (CI (j:=2) J) (rO dU 0) fq (rO df 0) f_ (oO s3 3) s3.b_) (λv7 Z3=>an sz (ao 5 (c_ (k:=(Fl.int .i64)) T [v7] J J J J J J J J J (λcz bZ bT=>an (so [0,0,0,0,0,0]) (ao 6 ?_))))))))))));obtain⟨c6,Z3⟩:=az Z3;refine eF (k:=(Fl.int .i64)) (xs:=x4) T (g:=5) J J J J J J J J J J s9 (oO bT 6) c6 J (λde n11 cE cW=>an sl (hb T 7 sl hg pf J (ao 8 (sf T 4 J (an sl (ae (rx T 7 (ar (_,_,_,_,_) [0,0,0,0,0,0] ⟨Z3,cW⟩ J J))))))))
 refine rc T 7 (lm T 4 J (sg T 1 J (ro T 4 ?_)))
 cases Z3;exact pb T J (.cT (j:=1) [(ll a3 v1.1 n3),(ll a9 x4 n9)] J J J J J J J (.tmp J .nil)) [3,4,0] ⟨(_,_),a3,n3,H3,a9,n9,H9,s3,s9,J,J⟩ J J
end
noncomputable section
def yv.f (ag:Int):Option (Option ju):=if ag<1 then(some none) else((xU.f ag).bind λv1=>dF v1 (none) (λeO=>some (some (ju.mk eO [] (gL.mk 0 0 0 0 0 0)))))
def yv.R (r:(Option ju)):bk:=λu G=> ∃(u0:Value) (G0:List Hp),XU r u0 G0/\u=u0/\G=G0
theorem yv.c (H:yv.f ag=some r):
 QR 77 [(ii ag)] [] [] F (yv.R r):=by
 unfold yv.f at H;refine aG Tryz.func77 J J (λW=>rc T 12 (cd J H (λH=>?_) (λH=>?_)))
 ·refine rc T 7 ?_
  cases H;exact p1 T J [0] ⟨_,_,⟨J,J⟩,J,J⟩ J
 refine rc T 5 (kr xU.R [] [] J abE H (xU.c ·) (λv1 H=>?_));rintro _ _ ⟨_,_,O3,rfl,rfl⟩;rcases v1 with _ |eO
 ·replace H:=ff J H
  cases H
 replace H:=fg J H;obtain⟨b1,a2,n2,H2,a3,H3,s2,s3,rfl,rfl⟩:=O3;refine ro T 1 (nc T J (λb4=>ro T 4 ?_))
 cases H;refine bA (gD [4,1,1,1,1] J (p1 T J [1,0] ⟨_,_,⟨b4,(List.flatten [(cl b4 173 [(pp b1),nl,(uu 0),(uu 0),(uu 0),(uu 0),(uu 0),(uu 0)]),(cl b1 238 [(ii eO.k),(ll a2 eO.aw n2),(.map (some a3)),(ii eO.cJ),(ii eO.dr)]),H2,H3,[]]),(show sX (ju.mk eO [] (gL.mk 0 0 0 0 0 0)) b4 (List.flatten [(cl b4 173 [(pp b1),nl,(uu 0),(uu 0),(uu 0),(uu 0),(uu 0),(uu 0)]),(cl b1 238 [(ii eO.k),(ll a2 eO.aw n2),(.map (some a3)),(ii eO.cJ),(ii eO.dr)]),H2,H3,[]]) from⟨b1,a2,n2,H2,a3,H3,none,0,[],s2,s3,(gK.nil (kd:=EC) (E:=291)),J⟩),J,J⟩,J,J⟩ J))
def pU.f (s:ju):Option ju:=(zG.f s.keys).bind λv1=>some (ju.mk v1 [] s.count)
def pU.R (mD:Nat) (r:ju):bk:=λu G=> ∃(H0:Hp),sX r mD H0/\u=(.tuple #[])/\G=[H0]
theorem pU.c (H:pU.f s=some r) (cX:sX s bh dZ):
 QR 117 [(pp bh)] [dZ] [] F (pU.R bh r):=by
 unfold pU.f at H;refine aG Tryz.func117 J J (λW=>rc T 6 (nL J (rc T 1 ?_)));obtain⟨b3,a4,n4,H4,a5,H5,a6,n6,H6,s4,s5,s6,cI⟩:=(λx=>x) cX;refine bX 0 (congrArg some cI) (fz J (rc T 4 (lf T 1 J (kr (zG.R b3) [] [2,2,2] J Sv H (zG.c · s4 s5) (λv1 H=>?_)))));rintro _ _ ⟨a7,n7,H7,a8,H8,s7,s8,rfl,rfl⟩;refine fz J (ro T 6 (sg T 1 J (ro T 1 (jk ?_))))
 cases H;refine bA (gD [1,2,2,2,2] J (p1 T J [2,0] ⟨(List.flatten [(cl bh 173 [(pp b3),nl,(uu s.count.bJ),(uu s.count.bK),(uu s.count.bH),(uu s.count.bF),(uu s.count.bU),(uu s.count.bO)]),(cl b3 238 [(ii v1.k),(ll a7 v1.aw n7),(.map (some a8)),(ii v1.cJ),(ii v1.dr)]),H7,H8,[]]),(show sX (ju.mk v1 [] s.count) bh (List.flatten [(cl bh 173 [(pp b3),nl,(uu s.count.bJ),(uu s.count.bK),(uu s.count.bH),(uu s.count.bF),(uu s.count.bU),(uu s.count.bO)]),(cl b3 238 [(ii v1.k),(ll a7 v1.aw n7),(.map (some a8)),(ii v1.cJ),(ii v1.dr)]),H7,H8,[]]) from⟨b3,a7,n7,H7,a8,H8,none,0,[],s7,s8,(gK.nil (kd:=EC) (E:=291)),J⟩),J,J⟩ J))
def mQ.f (count:Int):Option Int:=(sN.f count 1).bind λv1=>some v1
def mQ.R (aag:Nat) (ZY:TypeId) (aaB aaC:List Value) (r:Int) (u:Value) (G:List Hp):Prop:=u=(.tuple #[])/\G=[[(aag,Obj.cells (aaB++(Value.int .u64 r)::aaC).toArray ZY (0,0))]]
theorem mQ.c (H:mQ.f count=some r):
 QR 186 [(.pointer (some ⟨QI,aa pre_count,none⟩))] [[(QI,Obj.cells (pre_count++(uu count)::post_count).toArray X3 (0,0))]] [] F (mQ.R QI X3 pre_count post_count r):=by
 unfold mQ.f at H;refine aG Tryz.func186 J J (λW=>rc T 4 (lg T J (aee (j:=0) J) (k [] J JB H (sN.c ·) (λv1 H=>ro T 1 (aV (Zd T 0 J J J J J J ?_))))));refine ro T 1 (jk ?_)
 cases H;exact p1 T J [0,0] ⟨J,J⟩ J
def uh.f (ag:gp):Option gp:=(qD.f ag.ez).bind λv1=>(qD.f ag.cK).bind λv2=>some (gp.mk v1 v2)
def uh.R (r:gp):bk:=λu G=> ∃a0 n0 H0 a1 n1 H1,ak (Fl.int .i64) 3 r.ez a0 n0 H0/\ak (Fl.int .i64) 3 r.cK a1 n1 H1/\u=(.agg #[(ll a0 r.ez n0),(ll a1 r.cK n1)])/\G=[H0,H1]
theorem uh.c (H:uh.f ag=some r) (abz:aP (Fl.int .i64) ag.ez Ya F) (Z0:aa ag.ez<=afs) (aby:aP (Fl.int .i64) ag.cK X' F) (ZZ:aa ag.cK<=afr):
 QR 187 [(.agg #[(ll Ya ag.ez afs),(ll X' ag.cK afr)])] [] [] F (uh.R r):=by
 unfold uh.f at H;refine aG Tryz.func187 J J (λW=>rc T 2 (nc T J (λb1=>nc T J (λb2=>ro T 3 (ks [1,2] J (fz J (rg [7] [0,0,0] mix (bR bQ) (λhg pf=>ha T 7 [0] sz hg pf J (al T 1 1 sz hg pf J J J (ha T 5 [3] sz hg pf J (al T 4 1 sz hg pf J J J (ao 2 (kR qD.R [] [] J M4 H (qD.c · (rO abz 0) Z0) (λv1 H=>?_))))))))))))));rintro _ _ ⟨a3,n3,H3,s3,rfl,rfl⟩;refine fz J (an (so [0,0,0]) (ao 5 (kR qD.R [] [] J M4 H (qD.c · (rO aby 0) ZZ) (λv2 H=>?_))));rintro _ _ ⟨a4,n4,H4,s4,rfl,rfl⟩;refine fz J (an (so [0,0,0]) (ha T 1 [6] (so [0,0,0]) hg pf J (ao 7 (sf T 2 J (an sl (ae (rx T 1 (rc T 1 ?_))))))))
 cases H;exact pb T J (.cT (j:=2) [(ll a3 v1 n3),(ll a4 v2 n4)] J J J J J J J .nil) [3,3,0] ⟨(_,_),a3,n3,H3,a4,n4,H4,s3,s4,J,J⟩ J J
def mP.f (s:ju) (goal:Int) (bG:Int) (version:Int) (t:aF) (l:(List aX)):Option (gp×Int×ju):=(zZ.f t l).bind λv1=>if(!v1)=true then(some ((gp.mk [] []),1,s)) else((xR.f s.keys goal bG).bind λv2=>(if(v2.1==(aa s.fields:Int))=true then(if(aa s.fields+1<=1099511627776) then(some (s.fields++[(qC.mk 0 [] (gp.mk [] []))])) else none) else(some s.fields)).bind λx3=>if(0<=v2.1/\v2.1<(aa x3:Int)) then((if v2.2.1=true then(if((rd x3 v2.1).version==version)=true then((Bi.f ((rd x3 v2.1).ug) l).bind λv7=>some v7) else(some false)) else(some false)).bind λx5=>if x5=true then((mQ.f s.count.bF).bind λv8=>(uh.f ((rd x3 v2.1).field)).bind λv9=>some (v9,0,(ju.mk v2.2.2.2 x3 (gL.mk s.count.bJ s.count.bK s.count.bH v8 s.count.bU s.count.bO)))) else((if v2.2.1=true then((mQ.f s.count.bU).bind λv12=>some v12) else(some s.count.bU)).bind λaK=>(if v2.2.2.1=true then((mQ.f s.count.bO).bind λdt=>some dt) else(some s.count.bO)).bind λaO=>(mQ.f s.count.bH).bind λdI=>(oq.f t l).bind λv17=>(sK.f l).bind λfQ=>(uh.f v17.1).bind λox=>some (ox,0,(ju.mk v2.2.2.2 (aD x3 (ax v2.1) (qC.mk version fQ v17.1)) (gL.mk s.count.bJ s.count.bK dI s.count.bF aK aO))))) else none)
def mP.R (mD:Nat) (r:(gp×Int×ju)):bk:=λu G=> ∃(a0 n0 H0:_) (a1 n1 H1:_) (H2:Hp),ak (Fl.int .i64) 3 r.1.ez a0 n0 H0/\ak (Fl.int .i64) 3 r.1.cK a1 n1 H1/\sX r.2.2 mD H2/\u=(.tuple #[(.agg #[(ll a0 r.1.ez n0),(ll a1 r.1.cK n1)]),(ii r.2.1)])/\G=[H0,H1,H2]
theorem mP.c (H:mP.f s goal bG version t l=some r) (cX:sX s bh dZ) (dU:aP (Fl.int .u8) t.C iz F) (fq:aa t.C<=iB) (df:aP cP l gV F) (f_:aa l<=gQ):
 QR 144 [(pp bh),(ii goal),(ii bG),(ii version),(.agg #[(ii t.W),(ii t.H),(ll iz t.C iB)]),(ll gV l gQ)] [dZ] [] F (mP.R bh r):=by
 unfold mP.f at H;refine aG Tryz.func144 J J (λW=>rc T 2 (nc T J (λb2=>nc T J (λb3=>ro T 9 (lm T 2 J (ro T 1 (k [] J SG H (zZ.c · (rO dU 1) fq (rO df 1) f_) (λv1 H=>ro T 4 (cb J H (λH=>?_) (λH=>?_))))))))))
 ·refine rc T 3 (sg T 3 J (ro T 5 ?_))
  cases H;refine bA (bA (pb T J (.cT (j:=3) [nl,nl] J J J J J J J (.tmp J .nil)) [4,4,0,0] ⟨(_,_),none,0,[],none,0,[],dZ,ak.nil,ak.nil,cX,J,J⟩ J J))
 refine rc T 3 ?_;obtain⟨b7,a8,n8,H8,a9,H9,cz,n10,bZ,s8,s9,bT,hH6⟩:=(λx=>x) cX;refine bX 0 (congrArg some hH6) (fz J (rc T 4 (lf T 3 J (ro T 2 (kr (xR.R b7) [] [4,4,4] J ace H (xR.c · s8 s9) (λv2 H=>?_))))));rintro _ _ ⟨de,n11,cE,a12,dH,cW,dN,rfl,rfl⟩;refine fz J (ro T 9 (mq H [0,3,5,10,12,14,15,16] [0,4,4,4,0,0] (λz4 (⟨x3,dy,n13,dT⟩:List qC×Option Addr×Nat×Hp)=>(x3=z4/\gK EC 291 x3 dy n13 dT,[],[(cl bh 173 [(pp b7),(ll dy x3 n13),(uu s.count.bJ),(uu s.count.bK),(uu s.count.bH),(uu s.count.bF),(uu s.count.bU),(uu s.count.bO)]),dT])) J J (λz4 Z4 _=>?_) ?_))
 ·refine rc T 6 (lf T 3 J (ro T 4 (cb J Z4 (λZ4=>?_) (λZ4=>?_))))
  ·refine rc T 5 (lf T 3 J (ro T 1 (bA (bA (bA (gD [8,8,8] J (aV (FH (kd:=EC) (E:=291) (q:=8) (c:=[(ii 0),nl,nl,nl]) T (qC.mk 0 [] (gp.mk [] [])) J J J J J J J J J J ⟨none,0,[],none,0,[],none,0,[],(ak.nil (k:=cP) (E:=285)),(ak.nil (k:=(Fl.int .i64)) (E:=3)),(ak.nil (k:=(Fl.int .i64)) (E:=3)),J,J⟩ (λjj fo fG=>?_)))))))));obtain⟨c6,Z4⟩:=az Z4;refine aV (FG (kd:=EC) (xs:=s.fields) (ys:=[(qC.mk 0 [] (gp.mk [] []))]) T (g:=4) (q:=9) J J J J J J J J J J bT J J fG c6 J (λmy n19 lh hJ=>ro T 2 (sg T 3 J (ro T 1 (ke [0,3,5,10,12,14,15,16] [0,0,0,0,0,0,0,0] J J (rx T 1 (am (_,_,_,_) [0,4,4,4,0,0,0,0] ⟨oi Z4,hJ⟩ J J)))))))
  refine rc T 2 (am (_,_,_,_) [0,4,4,4,0,0,0,0] ⟨oi Z4,bT⟩ J J)
 rintro _ ⟨x3,dy,n13,dT⟩ ⟨rfl,dg⟩ H;refine rc T 5 (lf T 6 J (ro T 1 ?_));obtain⟨c7,H⟩:=az H;obtain⟨VL,Vb,tu⟩:=dg.r.addr c7.1 c7.2;refine ix T J tu c7 (ro T 4 (mq H [0,3,5,10,12,15,16,17] [0,5,0,0,0,2,0,0] (λz6 (x5:Bool)=>(x5=z6,[(79,(bb x5))],[])) J J (λz6 Z8 _=>?_) ?_))
 ·refine rc T 3 (ab 64 J Z8 (λZ8=>?_) (λZ8=>?_))
  ·refine ro T 3 ?_;obtain⟨_,Xc,⟨a21,n21,a22,n22,a23,n23,⟨r21,m21⟩,⟨r22,m22⟩,⟨r23,m23⟩,rfl⟩⟩:=nJ.view dg.r c7;refine lg T J (Cv (j:=7) J Xc tu 0 J) (ro T 4 (ab 72 J Z8 (λZ8=>?_) (λZ8=>?_)))
   ·refine ro T 3 (lg T J (Cv (j:=7) J Xc tu 1 J) (ro T 1 (k [] J acf Z8 (Bi.c · (rO r21 7) m21 (rO df 0) f_) (λv7 Z8=>ro T 3 (am _ [0,5,0,0,0,2,0,0] (oi Z8) J J)))))
   refine ro T 9 (am _ [0,5,0,0,0,2,0,0] (oi Z8) J J)
  refine ro T 17 (am _ [0,5,0,0,0,2,0,0] (oi Z8) J J)
 rintro _ x5 rfl H;refine cb J H (λH=>?_) (λH=>?_)
 ·refine rc T 6 (kr (mQ.R bh 173 [(pp b7),(ll dy x3 n13),(uu s.count.bJ),(uu s.count.bK),(uu s.count.bH)] [(uu s.count.bU),(uu s.count.bO)]) [] [1] J JF H (mQ.c (pre_count:=[(pp b7),(ll dy x3 n13),(uu s.count.bJ),(uu s.count.bK),(uu s.count.bH)]) (post_count:=[(uu s.count.bU),(uu s.count.bO)]) ·) (λv8 H=>?_));rintro _ _ ⟨rfl,rfl⟩;refine fz J (ro T 7 ?_);obtain⟨_,w28,⟨a25,n25,a26,n26,IJ,n27,⟨r25,m25⟩,⟨r26,m26⟩,⟨r27,m27⟩,rfl⟩⟩:=nJ.view dg.r c7;refine bx J (gd T (cs:=[(ll a26 (rd x3 v2.1).field.ez n26),(ll IJ (rd x3 v2.1).field.cK n27)]) J J J J J J (N8 (j:=4) J w28 tu 2 J)) (kr uh.R [] [] J SH H (uh.c · (rO r26 4) m26 (rO r27 4) m27) (λv9 H=>?_));rintro _ _ ⟨yV,n29,rL,BQ,n30,rM,rp,pQ,rfl,rfl⟩;refine fz J (sg T 6 J (ro T 5 ?_))
  cases H;refine gD [7,1,1,1,1] J (pb T J (.cT (j:=2) [(ll yV v9.ez n29),(ll BQ v9.cK n30)] J J J J J J J (.tmp J .nil)) [3,3,3,0] ⟨(_,_),yV,n29,rL,BQ,n30,rM,(List.flatten [(cl bh 173 [(pp b7),(ll dy x3 n13),(uu s.count.bJ),(uu s.count.bK),(uu s.count.bH),(uu v8),(uu s.count.bU),(uu s.count.bO)]),(cl b7 238 [(ii v2.2.2.2.k),(ll de v2.2.2.2.aw n11),(.map (some a12)),(ii v2.2.2.2.cJ),(ii v2.2.2.2.dr)]),cE,dH,dT]),rp,pQ,(show sX (ju.mk v2.2.2.2 x3 (gL.mk s.count.bJ s.count.bK s.count.bH v8 s.count.bU s.count.bO)) bh (List.flatten [(cl bh 173 [(pp b7),(ll dy x3 n13),(uu s.count.bJ),(uu s.count.bK),(uu s.count.bH),(uu v8),(uu s.count.bU),(uu s.count.bO)]),(cl b7 238 [(ii v2.2.2.2.k),(ll de v2.2.2.2.aw n11),(.map (some a12)),(ii v2.2.2.2.cJ),(ii v2.2.2.2.dr)]),cE,dH,dT]) from⟨b7,de,n11,cE,a12,dH,dy,n13,dT,cW,dN,dg,J⟩),J,J⟩ J J)
 refine rc T 2 (mq H [0,3,5,10,12,16,17] [0,1,1,1,1,1,1] (λlW (aK:Int)=>(aK=lW,[],[(cl bh 173 [(pp b7),(ll dy x3 n13),(uu s.count.bJ),(uu s.count.bK),(uu s.count.bH),(uu s.count.bF),(uu aK),(uu s.count.bO)])])) J J (λlW dx _=>?_) ?_)
 ·refine rc T 5 (cb J dx (λdx=>?_) (λdx=>?_))
  ·refine rc T 5 (kr (mQ.R bh 173 [(pp b7),(ll dy x3 n13),(uu s.count.bJ),(uu s.count.bK),(uu s.count.bH),(uu s.count.bF)] [(uu s.count.bO)]) [] [1] J JF dx (mQ.c (pre_count:=[(pp b7),(ll dy x3 n13),(uu s.count.bJ),(uu s.count.bK),(uu s.count.bH),(uu s.count.bF)]) (post_count:=[(uu s.count.bO)]) ·) (λv12 dx=>?_));rintro _ _ ⟨rfl,rfl⟩;refine fz J (ro T 2 (am _ [0,0,0,0,0,0,0,0] (oi dx) J J))
  refine rc T 2 (am _ [0,1,1,1,1,1,1,0] (oi dx) J J)
 rintro _ aK rfl H;refine mq H [0,3,5,10,12,17] [0,0,0,0,0,0,0] (λvt (aO:Int)=>(aO=vt,[],[(cl bh 173 [(pp b7),(ll dy x3 n13),(uu s.count.bJ),(uu s.count.bK),(uu s.count.bH),(uu s.count.bF),(uu aK),(uu aO)])])) J J (λvt lj _=>?_) ?_
 ·refine rc T 5 (cb J lj (λlj=>?_) (λlj=>?_))
  ·refine rc T 5 (kr (mQ.R bh 173 [(pp b7),(ll dy x3 n13),(uu s.count.bJ),(uu s.count.bK),(uu s.count.bH),(uu s.count.bF),(uu aK)] []) [] [7] J JF lj (mQ.c (pre_count:=[(pp b7),(ll dy x3 n13),(uu s.count.bJ),(uu s.count.bK),(uu s.count.bH),(uu s.count.bF),(uu aK)]) (post_count:=[]) ·) (λdt lj=>?_));rintro _ _ ⟨rfl,rfl⟩;refine fz J (ro T 2 (am _ [0,0,0,0,0,0,0,0] (oi lj) J J))
  refine rc T 2 (am _ [0,0,0,0,0,0,0,0] (oi lj) J J)
 rintro _ aO rfl H;refine rc T 6 (kr (mQ.R bh 173 [(pp b7),(ll dy x3 n13),(uu s.count.bJ),(uu s.count.bK)] [(uu s.count.bF),(uu aK),(uu aO)]) [] [7] J JF H (mQ.c (pre_count:=[(pp b7),(ll dy x3 n13),(uu s.count.bJ),(uu s.count.bK)]) (post_count:=[(uu s.count.bF),(uu aK),(uu aO)]) ·) (λdI H=>?_));rintro _ _ ⟨rfl,rfl⟩;refine fz J (ro T 4 (lm T 5 J (ro T 1 (kr oq.R [] [] J acg H (oq.c · (rO dU 0) fq (rO df 0) f_) (λv17 H=>?_)))));rintro _ _ ⟨a31,n31,BG,a32,n32,Iu,zT,zU,rfl,rfl⟩;refine fz J (ro T 3 (nc T J (λb33=>sg T 10 J (ro T 4 (ke [3,5,12,17,18] [0,0,0,0,0,1,1,1,1,1] J J (fz J (rg [7] [0,0,0,0,0,0,0,0,0,0] mix (bR bQ) (λhg pf=>ha T 5 [0,1,2] sz hg pf J (av 4 sz hg pf J (gA T 9 J J J J J J J) (ao 3 (kR sK.R [] [] J SI H (sK.c · (rO df 0) f_) (λfQ H=>?_))))))))))));rintro _ _ ⟨Fs,n34,vv,yr,rfl,rfl⟩;refine fz J (an (so [0,0,0,0,0,0,0,0,0,0]) (ha T 1 [5,6] (so [0,0,0,0,0,0,0,0,0,0]) hg pf J (ao 7 (LN (j:=4) J dg c7 (λ_ _ Ap Vd Bc=>?_)))));obtain⟨a35,n35,Iw,Az,n36,Ao,a37,n37,Fc,KQ,Dc,Dd,rfl,rfl⟩:=Vd;refine LQ (LO T 4 0 [(ii version),(ll Fs fQ n34),(ll a31 v17.1.ez n31),(ll a32 v17.1.cK n32)] J J J J J J Bc tu J J J J (λLp Bd=>an sl (ae (rx T 3 (lm T 9 J (kr uh.R [] [] J SH H (uh.c · (oO zT 7) zT.b_ (oO zU 8) zU.b_) (λox H=>?_)))))));rintro _ _ ⟨a40,n40,Lq,a41,n41,Fe,EG,zV,rfl,rfl⟩;refine fz J (sg T 5 J (ro T 2 (gD [10,7,7] J (LM (j:=4) (q:=13) (qC.mk version fQ v17.1) J Bd J J ⟨Fs,n34,vv,a31,n31,BG,a32,n32,Iu,yr,zT,zU,J,J⟩ (λgJ tV=>kg [12,13] [0,0,0,0,0,0,5,5] [0,0,0,0,0,0,5,5,0] [] [(cl bh 173 [(pp b7),(ll dy (aD x3 (ax v2.1) (qC.mk version fQ v17.1)) n13),(uu s.count.bJ),(uu s.count.bK),(uu dI),(uu s.count.bF),(uu aK),(uu aO)])] J J trivial dw (rx T 2 ?_))))))
 cases H;refine gD [8,1,1,1,1] J (pb T J (.cT (j:=1) [(ll a40 ox.ez n40),(ll a41 ox.cK n41)] J J J J J J J (.tmp J .nil)) [2,2,2,0] ⟨(_,_),a40,n40,Lq,a41,n41,Fe,(List.flatten [(cl bh 173 [(pp b7),(ll dy (aD x3 (ax v2.1) (qC.mk version fQ v17.1)) n13),(uu s.count.bJ),(uu s.count.bK),(uu dI),(uu s.count.bF),(uu aK),(uu aO)]),(cl b7 238 [(ii v2.2.2.2.k),(ll de v2.2.2.2.aw n11),(.map (some a12)),(ii v2.2.2.2.cJ),(ii v2.2.2.2.dr)]),cE,dH,gJ]),EG,zV,(show sX (ju.mk v2.2.2.2 (aD x3 (ax v2.1) (qC.mk version fQ v17.1)) (gL.mk s.count.bJ s.count.bK dI s.count.bF aK aO)) bh (List.flatten [(cl bh 173 [(pp b7),(ll dy (aD x3 (ax v2.1) (qC.mk version fQ v17.1)) n13),(uu s.count.bJ),(uu s.count.bK),(uu dI),(uu s.count.bF),(uu aK),(uu aO)]),(cl b7 238 [(ii v2.2.2.2.k),(ll de v2.2.2.2.aw n11),(.map (some a12)),(ii v2.2.2.2.cJ),(ii v2.2.2.2.dr)]),cE,dH,gJ]) from⟨b7,de,n11,cE,a12,dH,dy,n13,gJ,cW,dN,tV,J⟩),J,J⟩ J J)
def EO.f (s:ju):Option gL:=some s.count
theorem EO.c (H:EO.f s=some r) (cX:sX s bh dZ):
 QU 80 [(pp bh)] [dZ] F (.agg #[(uu r.bJ),(uu r.bK),(uu r.bH),(uu r.bF),(uu r.bU),(uu r.bO)]):=by
 unfold EO.f at H;refine aG Tryz.func80 J J (λW=>rc T 2 (nc T J (λb2=>ro T 9 (e_ J (rc T 3 ?_)))));obtain⟨b4,a5,n5,H5,a6,H6,a7,n7,H7,s5,s6,s7,dA⟩:=(λx=>x) cX;refine bX 0 (congrArg some dA) (fz J (rc T 4 (lm T 2 J (sg T 1 J (ro T 3 ?_)))))
 cases H;refine dz [2,2,2,2,2] J dA (pb T J (.cT (j:=1) [(uu s.count.bJ),(uu s.count.bK),(uu s.count.bH),(uu s.count.bF),(uu s.count.bU),(uu s.count.bO)] J J J J J J J .nil) [2,0] () J J)
end
end Go.Proofs.YthodkonhneebbaaGreatDoor
