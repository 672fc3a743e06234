/- What the functions of some packages compute, each as a function of plain Lean, with its contract. No condition. -/
import Derived.Test.YthodkonhneebbaaGreatDoorKWT
import Derived.Test.YthodkonhneebbaaGreatDoorKW5
namespace Go.Proofs.YthodkonhneebbaaGreatDoor
open Go.Hx
set_option maxRecDepth 100000
set_option linter.unusedSimpArgs false
set_option linter.unusedVariables false
set_option maxHeartbeats 4000000
set_option autoImplicit true
set_option relaxedAutoImplicit true
noncomputable section
def nX.f (s:(List Int)):Option (List Int):=if(List.length ([]:List Int)+List.length s<=1099511627776) then(some (([]:List Int)++s)) else none
def nX.R (r:(List Int)):bm:=λu G=> ∃a0 n0 H0,aj (Fl.int .u8) 5 r a0 n0 H0/\u=(ll a0 r n0)/\G=[H0]
theorem nX.c (H:nX.f s=some r) (jG:aU (Fl.int .u8) s iV F) (rA:List.length s<=iZ):
 QR 103 [(ll iV s iZ)] [] [] F (nX.R r):=by
 unfold nX.f at H;refine aG Tryz.func103 J J (λW=>rc T 12 (BM J (λc1=>?_) (λc1=>?_)))
 ·have hx:s=[]:=OE jG c1;replace H:some []=some r:=by simpa[hx] using H
  refine rc T 7 ?_
  cases H;refine bC (p1 T J [1,0] ⟨none,0,[],aj.nil,J,J⟩ J)
 refine rc T 4 (aZ (cV (k:=(Fl.int .u8)) T ([]:List Int) J J J J J J J J J (λa2 H2 s2=>ro T 1 ?_)));obtain⟨c2,H⟩:=aA H;refine aZ (ez (k:=(Fl.int .u8)) (xs:=([]:List Int)) T (g:=1) J J J J J J J J J J s2 (rO jG 0) c2 J (λa3 n3 H3 s3=>ro T 4 ?_))
 cases H;exact p1 T J [1,0] ⟨a3,n3,H3,s3,J,J⟩ J
def qW.l0:Nat->(List Int)->Int->Int->Option Int
 |0,_,_,_=>none
 |k3+1,s,v,x2=>if x2<(List.length s:Int) then(if(0<=x2/\x2<(List.length s:Int)) then(if(v==(rd s x2))=true then(some x2) else(qW.l0 k3 s v (aa (x2+1)))) else none) else(some (-1))
def qW.f (s:(List Int)) (v:Int):Option Int:=qW.l0 fuel s v 0
theorem qW.c (H:qW.f s v=some r) (jG:aU (Fl.int .u8) s iV F) (rA:List.length s<=iZ):
 QU 231 [(ll iV s iZ),(.int .u8 v)] [] F (ii r):=by
 unfold qW.f at H;refine aG Tryz.func231 J J (λW=>rc T 14 (lq [0,1,7] [0] (λ(⟨k3,x2⟩:Nat×Int)=>(qW.l0 k3 s v x2=some r,[(8,(ii x2))],[])) J J (fuel,0) [0] H J J ?_));rintro k3 x2 Z1;replace Z1:qW.l0 (k3+1) s v x2=some r:=Z1;rw[qW.l0] at Z1;refine rc T 6 (cd J Z1 (λZ1=>?_) (λZ1=>?_))
 ·refine rc T 15 ?_;obtain⟨c3,Z1⟩:=aA Z1;obtain⟨q1,o1,e1⟩:=jG.addr c3.1 c3.2;refine ix T J e1 c3 (le T 0 (rO jG 0) e1 c3 J J (ro T 3 (cb J Z1 (λZ1=>?_) (λZ1=>?_))))
  ·refine rc T 12 ?_
   cases Z1;exact p0 T J [0] J
  refine rc T 8 (ar _ [0] Z1 J J)
 refine rc T 11 ?_
 cases Z1;exact p0 T J [0] J
def wh.f (s:(List Int)) (v:Int):Option Bool:=(qW.f s v).bind λv1=>some (decide (v1≥0))
theorem wh.c (H:wh.f s v=some r) (jG:aU (Fl.int .u8) s iV F) (rA:List.length s<=iZ):
 QU 194 [(ll iV s iZ),(.int .u8 v)] [] F (bb r):=by
 unfold wh.f at H;refine aG Tryz.func194 J J (λW=>rc T 9 (k [] J adg H (qW.c · (rO jG 0) rA) (λv1 H=>ro T 5 ?_)))
 cases H;exact p0 T J [0] J
def rV.f (s:(List ba)):Option (List ba):=if(List.length ([]:List ba)+List.length s<=1099511627776) then(some (([]:List ba)++s)) else none
def rV.R (r:(List ba)):bm:=λu G=> ∃a0 n0 H0,aj cH 285 r a0 n0 H0/\u=(ll a0 r n0)/\G=[H0]
theorem rV.c (H:rV.f s=some r) (jG:aU cH s iV F) (rA:List.length s<=iZ):
 QR 189 [(ll iV s iZ)] [] [] F (rV.R r):=by
 unfold rV.f at H;refine aG Tryz.func189 J J (λW=>rc T 12 (BM J (λc1=>?_) (λc1=>?_)))
 ·have hx:s=[]:=OE jG c1;replace H:some []=some r:=by simpa[hx] using H
  refine rc T 7 ?_
  cases H;refine bC (p1 T J [1,0] ⟨none,0,[],aj.nil,J,J⟩ J)
 refine rc T 4 (aZ (cV (k:=cH) T ([]:List ba) J J J J J J J J J (λa2 H2 s2=>ro T 1 ?_)));obtain⟨c2,H⟩:=aA H;refine aZ (ez (k:=cH) (xs:=([]:List ba)) T (g:=1) J J J J J J J J J J s2 (rO jG 0) c2 J (λa3 n3 H3 s3=>ro T 4 ?_))
 cases H;exact p1 T J [1,0] ⟨a3,n3,H3,s3,J,J⟩ J
def jN.l1:Nat->(List ba)->Int->List ba->Int->Int->Option (List ba)
 |0,_,_,_,_,_=>none
 |xj+1,s,x2,x7,x8,x9=>if x9<(List.length (aB x7 x2 (List.length s:Int)):Int) then(if(0<=x9/\x9<(List.length (aB x7 x2 (List.length s:Int)):Int)) then(if(0<=(aa (x9-1))/\(aa (x9-1))<(List.length (aB x7 x2 (List.length s:Int)):Int)) then(if(!(((rd (aB x7 x2 (List.length s:Int)) x9).Cell==(rd (aB x7 x2 (List.length s:Int)) (aa (x9-1))).Cell)&&(((rd (aB x7 x2 (List.length s:Int)) x9).cL==(rd (aB x7 x2 (List.length s:Int)) (aa (x9-1))).cL)&&(((rd (aB x7 x2 (List.length s:Int)) x9).Key==(rd (aB x7 x2 (List.length s:Int)) (aa (x9-1))).Key)&&true))))=true then(if(0<=x8/\x8<(List.length x7:Int)) then(jN.l1 xj s x2 (List.set x7 (Int.toNat x8) (rd (aB x7 x2 (List.length s:Int)) x9)) (aa (x8+1)) (aa (x9+1))) else none) else(jN.l1 xj s x2 x7 x8 (aa (x9+1)))) else none) else none) else(if(0<=x8/\x8<=(List.length x7:Int)/\(List.length x7:Int)<=(List.length x7:Int)) then(if(0<=(0:Int)/\(0:Int)<=x8/\x8<=(List.length (cg x7 (Int.toNat x8) (List.length (aB x7 x8 (List.length x7:Int))) (List.replicate (List.length (aB x7 x8 (List.length x7:Int))) (default:ba))):Int)) then(some (aB (cg x7 (Int.toNat x8) (List.length (aB x7 x8 (List.length x7:Int))) (List.replicate (List.length (aB x7 x8 (List.length x7:Int))) (default:ba))) 0 x8)) else none) else none)
def jN.l0:Nat->(List ba)->Int->Option (List ba)
 |0,_,_=>none
 |k3+1,s,x2=>if x2<(List.length s:Int) then(if(0<=x2/\x2<(List.length s:Int)) then(if(0<=(aa (x2-1))/\(aa (x2-1))<(List.length s:Int)) then(if(((rd s x2).Cell==(rd s (aa (x2-1))).Cell)&&(((rd s x2).cL==(rd s (aa (x2-1))).cL)&&(((rd s x2).Key==(rd s (aa (x2-1))).Key)&&true)))=true then(if(0<=x2/\x2<=(List.length s:Int)/\(List.length s:Int)<=(List.length s:Int)) then(jN.l1 fuel s x2 s x2 1) else none) else(jN.l0 k3 s (aa (x2+1)))) else none) else none) else(some s)
def jN.f (s:(List ba)):Option (List ba):=if(List.length s:Int)<2 then(some s) else(jN.l0 fuel s 1)
def jN.R (r:(List ba)):bm:=λu G=> ∃a0 n0 H0,aj cH 285 r a0 n0 H0/\u=(ll a0 r n0)/\G=[H0]
theorem jN.c (H:jN.f s=some r) (cX:aj cH 285 s iV iZ eG):
 QR 210 [(ll iV s iZ)] [eG] [] F (jN.R r):=by
 unfold jN.f at H;refine aG Tryz.func210 J J (λW=>rc T 13 (cd J H (λH=>?_) (λH=>?_)))
 ·refine rc T 8 ?_
  cases H;exact p1 T J [0,0] ⟨iV,iZ,eG,cX,J,J⟩ J
 refine rc T 9 (lq [0] [1,0] (λ(⟨k3,x2⟩:Nat×Int)=>(jN.l0 k3 s x2=some r,[(3,(ii x2))],[])) J J (fuel,1) [1,0] H J J ?_);rintro k3 x2 Z2;replace Z2:jN.l0 (k3+1) s x2=some r:=Z2;rw[jN.l0] at Z2;refine rc T 9 (cd J Z2 (λZ2=>?_) (λZ2=>?_))
 ·refine rc T 5 (dD mix az (au T J (au T J ?_)));obtain⟨c4,Z2⟩:=aA Z2;obtain⟨q2,o2,e2⟩:=cX.r.addr c4.1 c4.2;refine aO J J J (cT T J J J J J e2 c4.1 c4.2) (aO J J J (fX T (cs:=[(ii (rd s x2).Cell),(ii (rd s x2).cL),(ii (rd s x2).Key)]) J J J J J J (ig (k:=cH) (oO cX 1) e2 c4 J)) (au T J (au T J (au T J ?_))));obtain⟨c5,Z2⟩:=aA Z2;refine aO J J J (cT T J J J J J e2 c5.1 c5.2) (aO J J J (fX T (cs:=[(ii (rd s (aa (x2-1))).Cell),(ii (rd s (aa (x2-1))).cL),(ii (rd s (aa (x2-1))).Key)]) J J J J J J (ig (k:=cH) (oO cX 1) e2 c5 J)) (aO J J J (abQ T (((rd s x2).Cell==(rd s (aa (x2-1))).Cell)&&(((rd s x2).cL==(rd s (aa (x2-1))).cL)&&(((rd s x2).Key==(rd s (aa (x2-1))).Key)&&true))) J J J J Pw az J) (dg (rx T 1 (cb J Z2 (λZ2=>?_) (λZ2=>?_))))))
  ·refine rc T 4 ?_;obtain⟨c7,Z2⟩:=aA Z2;refine bz J (kF T J J J J J J c7 cX.bW) (ro T 10 (lq [] [0] (λ(⟨xj,x7,x8,x9,a5,n5,H5⟩:Nat×List ba×Int×Int×Option Addr×Nat×Hp)=>(jN.l1 xj s x2 x7 x8 x9=some r/\aj cH 285 x7 a5 n5 H5/\(0<=x2/\x2<=(List.length s:Int)/\(List.length s:Int)<=(List.length x7:Int)),[(0,(ll a5 x7 n5)),(3,(ii x8)),(4,(ll (gi a5 n5 (Int.toNat x2) 3) (aB x7 x2 (List.length s:Int)) (n5-Int.toNat x2))),(5,(ii x9))],[H5])) J J (fuel,s,x2,1,iV,iZ,eG) [0,0] ⟨Z2,cX,c7⟩ J J ?_));rintro xj ⟨x7,x8,x9,a5,n5,H5⟩ ⟨Z8,s5,zL⟩;rw[jN.l1] at Z8;refine rc T 9 (cd J Z8 (λZ8=>?_) (λZ8=>?_))
   ·refine rc T 5 (dD mix az (au T J (au T J ?_)));obtain⟨iI,Z8⟩:=aA Z8;obtain⟨q7,o7,e7⟩:=(ng s5.r zL s5.bW).addr iI.1 iI.2;refine aO J J J (cT T J J J J J e7 iI.1 iI.2) (aO J J J (fX T (cs:=[(ii (rd (aB x7 x2 (List.length s:Int)) x9).Cell),(ii (rd (aB x7 x2 (List.length s:Int)) x9).cL),(ii (rd (aB x7 x2 (List.length s:Int)) x9).Key)]) J J J J J J (ig (k:=cH) (ng (oO s5 1) zL s5.bW) e7 iI J)) (au T J (au T J (au T J ?_))));obtain⟨eH,Z8⟩:=aA Z8;refine aO J J J (cT T J J J J J e7 eH.1 eH.2) (aO J J J (fX T (cs:=[(ii (rd (aB x7 x2 (List.length s:Int)) (aa (x9-1))).Cell),(ii (rd (aB x7 x2 (List.length s:Int)) (aa (x9-1))).cL),(ii (rd (aB x7 x2 (List.length s:Int)) (aa (x9-1))).Key)]) J J J J J J (ig (k:=cH) (ng (oO s5 1) zL s5.bW) e7 eH J)) (aO J J J (MI T (((rd (aB x7 x2 (List.length s:Int)) x9).Cell==(rd (aB x7 x2 (List.length s:Int)) (aa (x9-1))).Cell)&&(((rd (aB x7 x2 (List.length s:Int)) x9).cL==(rd (aB x7 x2 (List.length s:Int)) (aa (x9-1))).cL)&&(((rd (aB x7 x2 (List.length s:Int)) x9).Key==(rd (aB x7 x2 (List.length s:Int)) (aa (x9-1))).Key)&&true))) J J J J Pw az J) (dg (rx T 1 (cb J Z8 (λZ8=>?_) (λZ8=>?_))))))
    ·refine rc T 6 (ix T J e7 iI (bz J (fX T (cs:=[(ii (rd (aB x7 x2 (List.length s:Int)) x9).Cell),(ii (rd (aB x7 x2 (List.length s:Int)) x9).cL),(ii (rd (aB x7 x2 (List.length s:Int)) x9).Key)]) J J J J J J (ig (k:=cH) (ng (oO s5 1) zL s5.bW) e7 iI J)) ?_));obtain⟨jg,Z8⟩:=aA Z8;obtain⟨q8,o8,e8⟩:=s5.r.addr jg.1 jg.2;refine ix T J e8 jg (aZ (kU (k:=cH) T 1 0 (rd (aB x7 x2 (List.length s:Int)) x9) J J J J J J s5 e8 jg J J J (λH9 s9=>?_)));have P6:(0<=x2/\x2<=(List.length s:Int)/\(List.length s:Int)<=(List.length (List.set x7 (Int.toNat x8) (rd (aB x7 x2 (List.length s:Int)) x9)):Int)):=by simp only[List.length_set];exact zL
     have P7:(0<=x2/\x2<=(List.length s:Int)/\(List.length s:Int)<=(List.length (List.set x7 (Int.toNat x8) (rd (aB x7 x2 (List.length s:Int)) x9)):Int)):=by simp only[List.length_set];exact zL
     refine kf [3,5] [0,0] [(0,(ll a5 (List.set x7 (Int.toNat x8) (rd (aB x7 x2 (List.length s:Int)) x9)) n5)),(4,(ll (gi a5 n5 (Int.toNat x2) 3) (aB (List.set x7 (Int.toNat x8) (rd (aB x7 x2 (List.length s:Int)) x9)) x2 (List.length s:Int)) (n5-Int.toNat x2)))] J J ⟨dN,(by simp only[ll];rw[iP P6,<-iP zL];rfl),trivial⟩ (ro T 15 ?_)
     exact ar (_,_,_,_,_,_) [0,0] ⟨Z8,s9,P6⟩ J J
    refine rc T 9 (ar (_,_,_,_,_,_) [0,0] ⟨Z8,s5,zL⟩ J J)
   refine rc T 9 ?_;obtain⟨pX,Z8⟩:=aA Z8;refine bz J (kF T J J J J J J pX s5.bW) ?_;have IH:(Int.toNat x8)+(List.length (aB x7 x8 (List.length x7:Int)))<=List.length x7:=(HX pX);refine aZ (Y6 (k:=cH) (xs:=x7) (lo:=(Int.toNat x8)) (g:=1) T (default:ba) J J J J J J J J s5 (.inr J) IH (λbZ bU=>?_));have P8:(0<=x2/\x2<=(List.length s:Int)/\(List.length s:Int)<=(List.length (cg x7 (Int.toNat x8) (List.length (aB x7 x8 (List.length x7:Int))) (List.replicate (List.length (aB x7 x8 (List.length x7:Int))) (default:ba))):Int)):=by simp only[Mg IH];exact zL
   have IJ:(0<=x8/\x8<=(List.length x7:Int)/\(List.length x7:Int)<=(List.length (cg x7 (Int.toNat x8) (List.length (aB x7 x8 (List.length x7:Int))) (List.replicate (List.length (aB x7 x8 (List.length x7:Int))) (default:ba))):Int)):=by simp only[Mg IH];exact pX
   refine kf [3] [0,0] [(0,(ll a5 (cg x7 (Int.toNat x8) (List.length (aB x7 x8 (List.length x7:Int))) (List.replicate (List.length (aB x7 x8 (List.length x7:Int))) (default:ba))) n5))] J J ⟨(by first |rfl |(simp only[ll,Mg IH];rfl)),trivial⟩ (ro T 6 ?_)
   obtain⟨Ah,Z8⟩:=aA Z8;refine bz J (kF T J J J J J J Ah bU.bW) (ro T 9 ?_)
   cases Z8;exact p1 T J [1,0] ⟨(gi a5 n5 (Int.toNat 0) 3),(n5-Int.toNat 0),bZ,(aj.pre bU Ah),J,J⟩ J
  refine rc T 9 (ar _ [0,0] Z2 J J)
 refine rc T 12 ?_
 cases Z2;exact p1 T J [1,0] ⟨iV,iZ,eG,cX,J,J⟩ J
def km.l0:Nat->List Int->Int->Option (List Int)
 |0,_,_=>none
 |k8+1,x6,x7=>if x7<(List.length x6:Int) then(if(0<=x7/\x7<=(List.length x6:Int)/\(List.length x6:Int)<=(List.length x6:Int)) then(if(0<=(0:Int)/\(0:Int)<=x7/\x7<=(List.length x6:Int)) then(km.l0 k8 (cg x6 (Int.toNat x7) (min (List.length (aB x6 0 x7)) (List.length (aB x6 x7 (List.length x6:Int)))) (aB x6 0 x7)) (aa (x7+(((min (List.length (aB x6 0 x7)) (List.length (aB x6 x7 (List.length x6:Int)))):Nat):Int)))) else none) else none) else(some x6)
def km.f (x:(List Int)) (count:Int):Option (List Int):=if count<0 then(none) else((sP.f (cY (List.length x:Int)) (cY count)).bind λv1=>if((decide (v1.1>0))||(decide (v1.2>9223372036854775807)))=true then(none) else(if(0<=(aa v1.2)/\(aa v1.2)<=1099511627776) then((km.l0 fuel (cg (List.replicate (Int.toNat (aa v1.2)) (0:Int)) 0 (min (List.length x) (List.length (List.replicate (Int.toNat (aa v1.2)) (0:Int)))) x) (((min (List.length x) (List.length (List.replicate (Int.toNat (aa v1.2)) (0:Int)))):Nat):Int)).bind λx2=>some x2) else none))
def km.R (r:(List Int)):bm:=λu G=> ∃a0 n0 H0,aj (Fl.int .i64) 3 r a0 n0 H0/\u=(ll a0 r n0)/\G=[H0]
theorem km.c (H:km.f x count=some r) (yL:aU (Fl.int .i64) x Fu F) (Q4:List.length x<=He):
 QR 248 [(ll Fu x He),(ii count)] [] [] F (km.R r):=by
 unfold km.f at H;refine aG Tryz.func248 J J (λW=>rc T 12 (cd J H (λH=>?_) (λH=>?_)))
 ·cases H
 refine rc T 9 (k [] J Nj H (sP.c ·) (λv1 H=>ro T 13 (go T [3,4,5] 23 [0,6] 26 J J J J J J J (ro T 2 (cb J H (λH=>?_) (λH=>?_))))))
 ·cases H
 refine rc T 6 ?_;obtain⟨c4,H⟩:=aA H;refine aZ (yu (k:=(Fl.int .i64)) T (0:Int) J J J J J J J J c4 J (λa1 n1 H1 s1=>ro T 7 ?_));have L5:0+(List.length (List.replicate (Int.toNat (aa v1.2)) (0:Int)))<=List.length (List.replicate (Int.toNat (aa v1.2)) (0:Int)):=(MG _);refine aZ (BN (k:=(Fl.int .i64)) (xs:=(List.replicate (Int.toNat (aa v1.2)) (0:Int))) (ys:=x) (lo:=0) (g:=1) T J J J J J J J J s1 (rO yL 0) (.inl ⟨J,J⟩) L5 (λH2 s2=>kf [33] [0,0] [(7,(ll a1 (cg (List.replicate (Int.toNat (aa v1.2)) (0:Int)) 0 (min (List.length x) (List.length (List.replicate (Int.toNat (aa v1.2)) (0:Int)))) x) n1))] J J ⟨(by first |rfl |(simp only[ll,lZ L5];rfl)),trivial⟩ (ro T 3 ?_)))
 refine mq H [] [0] (λz3 (⟨x2,a3,n3,H3⟩:List Int×Option Addr×Nat×Hp)=>(x2=z3/\aj (Fl.int .i64) 3 x2 a3 n3 H3,[(7,(ll a3 x2 n3))],[H3])) J J (λz3 Z6 _=>?_) ?_
 ·refine rc T 1 (lq [] [0] (λ(⟨k8,x6,x7,a5,n5,H5⟩:Nat×List Int×Int×Option Addr×Nat×Hp)=>(km.l0 k8 x6 x7=some z3/\aj (Fl.int .i64) 3 x6 a5 n5 H5,[(7,(ll a5 x6 n5)),(8,(ii x7))],[H5])) J J (fuel,(cg (List.replicate (Int.toNat (aa v1.2)) (0:Int)) 0 (min (List.length x) (List.length (List.replicate (Int.toNat (aa v1.2)) (0:Int)))) x),(((min (List.length x) (List.length (List.replicate (Int.toNat (aa v1.2)) (0:Int)))):Nat):Int),a1,n1,H2) [0,0] ⟨Z6,s2⟩ J J ?_);rintro k8 ⟨x6,x7,a5,n5,H5⟩ ⟨Z7,s5⟩;rw[km.l0] at Z7;refine rc T 9 (cd J Z7 (λZ7=>?_) (λZ7=>?_))
  ·refine rc T 3 (fz J (rz [7] mix (bM bL) (λhg pf=>ha T 7 [0,1,2] sz hg pf J ?_)));obtain⟨c9,Z7⟩:=aA Z7;refine av 3 sz hg pf J (kF T J J J J J J c9 s5.bW) (ha T 4 [4,5] sz hg pf J ?_);obtain⟨iI,Z7⟩:=aA Z7;refine av 6 sz hg pf J (kF T J J J J J J iI s5.bW) (ao 7 ?_);have si:(Int.toNat x7)+(List.length (aB x6 x7 (List.length x6:Int)))<=List.length x6:=(HX c9);refine BN (k:=(Fl.int .i64)) (xs:=x6) (ys:=(aB x6 0 x7)) (lo:=(Int.toNat x7)) (g:=1) T J J J J J J J J s5 (ng (oO s5 1) iI s5.bW) (.inr J) si (λH6 s6=>?_);have Lw:(0<=x7/\x7<=(List.length x6:Int)/\(List.length x6:Int)<=(List.length (cg x6 (Int.toNat x7) (min (List.length (aB x6 0 x7)) (List.length (aB x6 x7 (List.length x6:Int)))) (aB x6 0 x7)):Int)):=by simp only[lZ si];exact c9
   have Lx:(0<=(0:Int)/\(0:Int)<=x7/\x7<=(List.length (cg x6 (Int.toNat x7) (min (List.length (aB x6 0 x7)) (List.length (aB x6 x7 (List.length x6:Int)))) (aB x6 0 x7)):Int)):=by simp only[lZ si];exact iI
   refine kf [8,37,38,40,43,45] [0,0] [(7,(ll a5 (cg x6 (Int.toNat x7) (min (List.length (aB x6 0 x7)) (List.length (aB x6 x7 (List.length x6:Int)))) (aB x6 0 x7)) n5)),(39,(ll a5 (cg x6 (Int.toNat x7) (min (List.length (aB x6 0 x7)) (List.length (aB x6 x7 (List.length x6:Int)))) (aB x6 0 x7)) n5)),(41,(ll (gi a5 n5 (Int.toNat x7) 1) (aB (cg x6 (Int.toNat x7) (min (List.length (aB x6 0 x7)) (List.length (aB x6 x7 (List.length x6:Int)))) (aB x6 0 x7)) x7 (List.length x6:Int)) (n5-Int.toNat x7))),(42,(ll a5 (cg x6 (Int.toNat x7) (min (List.length (aB x6 0 x7)) (List.length (aB x6 x7 (List.length x6:Int)))) (aB x6 0 x7)) n5)),(44,(ll (gi a5 n5 (Int.toNat 0) 1) (aB (cg x6 (Int.toNat x7) (min (List.length (aB x6 0 x7)) (List.length (aB x6 x7 (List.length x6:Int)))) (aB x6 0 x7)) 0 x7) (n5-Int.toNat 0)))] J J ⟨(by first |rfl |(simp only[ll,lZ si];rfl)),(by first |rfl |(simp only[ll,lZ si];rfl)),(by simp only[ll];rw[iP Lw,<-iP c9];rfl),(by first |rfl |(simp only[ll,lZ si];rfl)),(by simp only[ll];rw[iP Lx,<-iP iI];rfl),trivial⟩ (an sl (hb T 8 sl hg pf J (hb T 9 sl hg pf J (ae (rx T 2 ?_)))))
   exact ar (_,_,_,_,_) [0,0] ⟨Z7,s6⟩ J J
  refine rc T 5 (am (_,_,_,_) [0,0] ⟨oi Z7,s5⟩ J J)
 rintro _ ⟨x2,a3,n3,H3⟩ ⟨rfl,s3⟩ H;refine rc T 7 ?_
 cases H;exact p1 T J [1,0] ⟨a3,n3,H3,s3,J,J⟩ J
def pN.l0:Nat->List Int->Int->Option (List Int)
 |0,_,_=>none
 |k8+1,x6,x7=>if x7<(List.length x6:Int) then(if(0<=x7/\x7<=(List.length x6:Int)/\(List.length x6:Int)<=(List.length x6:Int)) then(if(0<=(0:Int)/\(0:Int)<=x7/\x7<=(List.length x6:Int)) then(pN.l0 k8 (cg x6 (Int.toNat x7) (min (List.length (aB x6 0 x7)) (List.length (aB x6 x7 (List.length x6:Int)))) (aB x6 0 x7)) (aa (x7+(((min (List.length (aB x6 0 x7)) (List.length (aB x6 x7 (List.length x6:Int)))):Nat):Int)))) else none) else none) else(some x6)
def pN.f (x:(List Int)) (count:Int):Option (List Int):=if count<0 then(none) else((sP.f (cY (List.length x:Int)) (cY count)).bind λv1=>if((decide (v1.1>0))||(decide (v1.2>9223372036854775807)))=true then(none) else(if(0<=(aa v1.2)/\(aa v1.2)<=1099511627776) then((pN.l0 fuel (cg (List.replicate (Int.toNat (aa v1.2)) (0:Int)) 0 (min (List.length x) (List.length (List.replicate (Int.toNat (aa v1.2)) (0:Int)))) x) (((min (List.length x) (List.length (List.replicate (Int.toNat (aa v1.2)) (0:Int)))):Nat):Int)).bind λx2=>some x2) else none))
def pN.R (r:(List Int)):bm:=λu G=> ∃a0 n0 H0,aj (Fl.int .i32) 21 r a0 n0 H0/\u=(ll a0 r n0)/\G=[H0]
theorem pN.c (H:pN.f x count=some r) (yL:aU (Fl.int .i32) x Fu F) (Q4:List.length x<=He):
 QR 212 [(ll Fu x He),(ii count)] [] [] F (pN.R r):=by
 unfold pN.f at H;refine aG Tryz.func212 J J (λW=>rc T 12 (cd J H (λH=>?_) (λH=>?_)))
 ·cases H
 refine rc T 9 (k [] J Nj H (sP.c ·) (λv1 H=>ro T 13 (go T [3,4,5] 23 [0,6] 26 J J J J J J J (ro T 2 (cb J H (λH=>?_) (λH=>?_))))))
 ·cases H
 refine rc T 6 ?_;obtain⟨c4,H⟩:=aA H;refine aZ (yu (k:=(Fl.int .i32)) T (0:Int) J J J J J J J J c4 J (λa1 n1 H1 s1=>ro T 7 ?_));have L5:0+(List.length (List.replicate (Int.toNat (aa v1.2)) (0:Int)))<=List.length (List.replicate (Int.toNat (aa v1.2)) (0:Int)):=(MG _);refine aZ (BN (k:=(Fl.int .i32)) (xs:=(List.replicate (Int.toNat (aa v1.2)) (0:Int))) (ys:=x) (lo:=0) (g:=1) T J J J J J J J J s1 (rO yL 0) (.inl ⟨J,J⟩) L5 (λH2 s2=>kf [33] [0,0] [(7,(ll a1 (cg (List.replicate (Int.toNat (aa v1.2)) (0:Int)) 0 (min (List.length x) (List.length (List.replicate (Int.toNat (aa v1.2)) (0:Int)))) x) n1))] J J ⟨(by first |rfl |(simp only[ll,lZ L5];rfl)),trivial⟩ (ro T 3 ?_)))
 refine mq H [] [0] (λz3 (⟨x2,a3,n3,H3⟩:List Int×Option Addr×Nat×Hp)=>(x2=z3/\aj (Fl.int .i32) 21 x2 a3 n3 H3,[(7,(ll a3 x2 n3))],[H3])) J J (λz3 Z6 _=>?_) ?_
 ·refine rc T 1 (lq [] [0] (λ(⟨k8,x6,x7,a5,n5,H5⟩:Nat×List Int×Int×Option Addr×Nat×Hp)=>(pN.l0 k8 x6 x7=some z3/\aj (Fl.int .i32) 21 x6 a5 n5 H5,[(7,(ll a5 x6 n5)),(8,(ii x7))],[H5])) J J (fuel,(cg (List.replicate (Int.toNat (aa v1.2)) (0:Int)) 0 (min (List.length x) (List.length (List.replicate (Int.toNat (aa v1.2)) (0:Int)))) x),(((min (List.length x) (List.length (List.replicate (Int.toNat (aa v1.2)) (0:Int)))):Nat):Int),a1,n1,H2) [0,0] ⟨Z6,s2⟩ J J ?_);rintro k8 ⟨x6,x7,a5,n5,H5⟩ ⟨Z7,s5⟩;rw[pN.l0] at Z7;refine rc T 9 (cd J Z7 (λZ7=>?_) (λZ7=>?_))
  ·refine rc T 3 (fz J (rz [7] mix (bM bL) (λhg pf=>ha T 7 [0,1,2] sz hg pf J ?_)));obtain⟨c9,Z7⟩:=aA Z7;refine av 3 sz hg pf J (kF T J J J J J J c9 s5.bW) (ha T 4 [4,5] sz hg pf J ?_);obtain⟨iI,Z7⟩:=aA Z7;refine av 6 sz hg pf J (kF T J J J J J J iI s5.bW) (ao 7 ?_);have si:(Int.toNat x7)+(List.length (aB x6 x7 (List.length x6:Int)))<=List.length x6:=(HX c9);refine BN (k:=(Fl.int .i32)) (xs:=x6) (ys:=(aB x6 0 x7)) (lo:=(Int.toNat x7)) (g:=1) T J J J J J J J J s5 (ng (oO s5 1) iI s5.bW) (.inr J) si (λH6 s6=>?_);have Lw:(0<=x7/\x7<=(List.length x6:Int)/\(List.length x6:Int)<=(List.length (cg x6 (Int.toNat x7) (min (List.length (aB x6 0 x7)) (List.length (aB x6 x7 (List.length x6:Int)))) (aB x6 0 x7)):Int)):=by simp only[lZ si];exact c9
   have Lx:(0<=(0:Int)/\(0:Int)<=x7/\x7<=(List.length (cg x6 (Int.toNat x7) (min (List.length (aB x6 0 x7)) (List.length (aB x6 x7 (List.length x6:Int)))) (aB x6 0 x7)):Int)):=by simp only[lZ si];exact iI
   refine kf [8,37,38,40,43,45] [0,0] [(7,(ll a5 (cg x6 (Int.toNat x7) (min (List.length (aB x6 0 x7)) (List.length (aB x6 x7 (List.length x6:Int)))) (aB x6 0 x7)) n5)),(39,(ll a5 (cg x6 (Int.toNat x7) (min (List.length (aB x6 0 x7)) (List.length (aB x6 x7 (List.length x6:Int)))) (aB x6 0 x7)) n5)),(41,(ll (gi a5 n5 (Int.toNat x7) 1) (aB (cg x6 (Int.toNat x7) (min (List.length (aB x6 0 x7)) (List.length (aB x6 x7 (List.length x6:Int)))) (aB x6 0 x7)) x7 (List.length x6:Int)) (n5-Int.toNat x7))),(42,(ll a5 (cg x6 (Int.toNat x7) (min (List.length (aB x6 0 x7)) (List.length (aB x6 x7 (List.length x6:Int)))) (aB x6 0 x7)) n5)),(44,(ll (gi a5 n5 (Int.toNat 0) 1) (aB (cg x6 (Int.toNat x7) (min (List.length (aB x6 0 x7)) (List.length (aB x6 x7 (List.length x6:Int)))) (aB x6 0 x7)) 0 x7) (n5-Int.toNat 0)))] J J ⟨(by first |rfl |(simp only[ll,lZ si];rfl)),(by first |rfl |(simp only[ll,lZ si];rfl)),(by simp only[ll];rw[iP Lw,<-iP c9];rfl),(by first |rfl |(simp only[ll,lZ si];rfl)),(by simp only[ll];rw[iP Lx,<-iP iI];rfl),trivial⟩ (an sl (hb T 8 sl hg pf J (hb T 9 sl hg pf J (ae (rx T 2 ?_)))))
   exact ar (_,_,_,_,_) [0,0] ⟨Z7,s6⟩ J J
  refine rc T 5 (am (_,_,_,_) [0,0] ⟨oi Z7,s5⟩ J J)
 rintro _ ⟨x2,a3,n3,H3⟩ ⟨rfl,s3⟩ H;refine rc T 7 ?_
 cases H;exact p1 T J [1,0] ⟨a3,n3,H3,s3,J,J⟩ J
def qo.f (s:(List Int)):Option (List Int):=if(List.length ([]:List Int)+List.length s<=1099511627776) then(some (([]:List Int)++s)) else none
def qo.R (r:(List Int)):bm:=λu G=> ∃a0 n0 H0,aj (Fl.int .i64) 3 r a0 n0 H0/\u=(ll a0 r n0)/\G=[H0]
theorem qo.c (H:qo.f s=some r) (jG:aU (Fl.int .i64) s iV F) (rA:List.length s<=iZ):
 QR 227 [(ll iV s iZ)] [] [] F (qo.R r):=by
 unfold qo.f at H;refine aG Tryz.func227 J J (λW=>rc T 12 (BM J (λc1=>?_) (λc1=>?_)))
 ·have hx:s=[]:=OE jG c1;replace H:some []=some r:=by simpa[hx] using H
  refine rc T 7 ?_
  cases H;refine bC (p1 T J [1,0] ⟨none,0,[],aj.nil,J,J⟩ J)
 refine rc T 4 (aZ (cV (k:=(Fl.int .i64)) T ([]:List Int) J J J J J J J J J (λa2 H2 s2=>ro T 1 ?_)));obtain⟨c2,H⟩:=aA H;refine aZ (ez (k:=(Fl.int .i64)) (xs:=([]:List Int)) T (g:=1) J J J J J J J J J J s2 (rO jG 0) c2 J (λa3 n3 H3 s3=>ro T 4 ?_))
 cases H;exact p1 T J [1,0] ⟨a3,n3,H3,s3,J,J⟩ J
def Be.f (x:Int):Option Bool:=some (x !=x)
theorem Be.c (H:Be.f x=some r):
 QU 301 [(ii x)] [] F (bb r):=by
 unfold Be.f at H;refine aG Tryz.func301 J J (λW=>rc T 14 ?_)
 cases H;exact p0 T J [0] J
def oJ.l0:Nat->(List Int)->Int->Int->Int->Option Int
 |0,_,_,_,_=>none
 |k7+1,x,target,x5,x6=>if x5<x6 then(if(0<=(aa (Int.fdiv (cY (aa (x5+x6))) (2^1)))/\(aa (Int.fdiv (cY (aa (x5+x6))) (2^1)))<(List.length x:Int)) then((cmp_Less_int.f (rd x (aa (Int.fdiv (cY (aa (x5+x6))) (2^1)))) target).bind λv8=>if v8=true then(oJ.l0 k7 x target (aa ((aa (Int.fdiv (cY (aa (x5+x6))) (2^1)))+1)) x6) else(oJ.l0 k7 x target x5 (aa (Int.fdiv (cY (aa (x5+x6))) (2^1))))) else none) else(some x5)
def oJ.f (x:(List Int)) (target:Int):Option (Int×Bool):=(oJ.l0 fuel x target 0 (List.length x:Int)).bind λx1=>(if x1<(List.length x:Int) then(if(0<=x1/\x1<(List.length x:Int)) then(if((rd x x1)==target)=true then(some true) else((Be.f (rd x x1)).bind λv11=>if v11=true then((Be.f target).bind λv12=>some v12) else(some false))) else none) else(some false)).bind λx9=>some (x1,x9)
theorem oJ.c (H:oJ.f x target=some r) (yL:aU (Fl.int .i64) x Fu F) (Q4:List.length x<=He):
 QU 289 [(ll Fu x He),(ii target)] [] F (.tuple #[(ii r.1),(bb r.2)]):=by
 unfold oJ.f at H;refine aG Tryz.func289 J J (λW=>rc T 20 (mq H [0,1,6] [0] (λz2 (x1:Int)=>(x1=z2,[(7,(ii x1))],[])) J J (λz2 Z1 _=>?_) ?_))
 ·refine rc T 1 (lq [0,1,6] [0] (λ(⟨k7,x5,x6⟩:Nat×Int×Int)=>(oJ.l0 k7 x target x5 x6=some z2,[(7,(ii x5)),(8,(ii x6))],[])) J J (fuel,0,(List.length x:Int)) [0] Z1 J J ?_);rintro k7 ⟨x5,x6⟩ Z2;replace Z2:oJ.l0 (k7+1) x target x5 x6=some z2:=Z2;rw[oJ.l0] at Z2;refine rc T 8 (cd J Z2 (λZ2=>?_) (λZ2=>?_))
  ·refine rc T 18 ?_;obtain⟨c4,Z2⟩:=aA Z2;obtain⟨q1,o1,e1⟩:=yL.addr c4.1 c4.2;refine ix T J e1 c4 (le T 0 (rO yL 0) e1 c4 J J (ro T 1 (k [] J adP Z2 (cmp_Less_int.c ·) (λv8 Z2=>ro T 2 (cb J Z2 (λZ2=>?_) (λZ2=>?_))))))
   ·refine rc T 7 (ar (_,_) [0] Z2 J J)
   refine rc T 6 (ar (_,_) [0] Z2 J J)
  refine rc T 5 (am _ [0] (oi Z2) J J)
 rintro _ x1 rfl H;refine mq H [] [0] (λoe (x9:Bool)=>(x9=oe,[(4,(ii x1)),(5,(bb x9))],[])) J J (λoe Z7 _=>?_) ?_
 ·refine rc T 6 (ad 35 J Z7 (λZ7=>?_) (λZ7=>?_))
  ·refine ro T 2 ?_;obtain⟨c9,Z7⟩:=aA Z7;obtain⟨q2,o2,e2⟩:=yL.addr c9.1 c9.2;refine ix T J e2 c9 (le T 0 (rO yL 0) e2 c9 J J (ro T 3 (ab 42 J Z7 (λZ7=>?_) (λZ7=>?_))))
   ·refine ro T 15 (am _ [0] (oi Z7) J J)
   refine ro T 2 (ix T J e2 c9 (le T 0 (rO yL 0) e2 c9 J J (k [] J Tw Z7 (Be.c ·) (λv11 Z7=>ro T 1 (ab 48 J Z7 (λZ7=>?_) (λZ7=>?_))))))
   ·refine ro T 1 (k [] J Tw Z7 (Be.c ·) (λv12 Z7=>ro T 7 (am _ [0] (oi Z7) J J)))
   refine ro T 9 (am _ [0] (oi Z7) J J)
  refine ro T 22 (am _ [0] (oi Z7) J J)
 rintro _ x9 rfl H;refine rc T 1 ?_
 cases H;exact p0 T J [0] J
def qS.l0:Nat->(List ba)->(List ba)->Int->Option Bool
 |0,_,_,_=>none
 |k3+1,ag,ai,x2=>if x2<(List.length ag:Int) then(if(0<=x2/\x2<(List.length ag:Int)) then(if(0<=x2/\x2<(List.length ai:Int)) then(if(!(((rd ag x2).Cell==(rd ai x2).Cell)&&(((rd ag x2).cL==(rd ai x2).cL)&&(((rd ag x2).Key==(rd ai x2).Key)&&true))))=true then(some false) else(qS.l0 k3 ag ai (aa (x2+1)))) else none) else none) else(some true)
def qS.f (ag:(List ba)) (ai:(List ba)):Option Bool:=if((List.length ag:Int)!=(List.length ai:Int))=true then(some false) else(qS.l0 fuel ag ai 0)
theorem qS.c (H:qS.f ag ai=some r) (Az:aU cH ag LD F) (aak:List.length ag<=OA) (SB:aU cH ai Yk F) (ajH:List.length ai<=age):
 QU 226 [(ll LD ag OA),(ll Yk ai age)] [] F (bb r):=by
 unfold qS.f at H;refine aG Tryz.func226 J J (λW=>rc T 15 (cb J H (λH=>?_) (λH=>?_)))
 ·refine rc T 7 ?_
  cases H;exact p0 T J [0] J
 refine rc T 11 (lq [0,1,12] [0] (λ(⟨k3,x2⟩:Nat×Int)=>(qS.l0 k3 ag ai x2=some r,[(13,(ii x2))],[])) J J (fuel,0) [0] H J J ?_);rintro k3 x2 Z2;replace Z2:qS.l0 (k3+1) ag ai x2=some r:=Z2;rw[qS.l0] at Z2;refine rc T 6 (cd J Z2 (λZ2=>?_) (λZ2=>?_))
 ·refine rc T 11 (dD mix az (au T J (au T J ?_)));obtain⟨c4,Z2⟩:=aA Z2;obtain⟨q1,o1,e1⟩:=Az.addr c4.1 c4.2;refine aO J J J (cT T J J J J J e1 c4.1 c4.2) (aO J J J (fX T (cs:=[(ii (rd ag x2).Cell),(ii (rd ag x2).cL),(ii (rd ag x2).Key)]) J J J J J J (ig (k:=cH) (rO Az 0) e1 c4 J)) (au T J (au T J ?_)));obtain⟨c5,Z2⟩:=aA Z2;obtain⟨q2,o2,e2⟩:=SB.addr c5.1 c5.2;refine aO J J J (cT T J J J J J e2 c5.1 c5.2) (aO J J J (fX T (cs:=[(ii (rd ai x2).Cell),(ii (rd ai x2).cL),(ii (rd ai x2).Key)]) J J J J J J (ig (k:=cH) (rO SB 0) e2 c5 J)) (aO J J J (MI T (((rd ag x2).Cell==(rd ai x2).Cell)&&(((rd ag x2).cL==(rd ai x2).cL)&&(((rd ag x2).Key==(rd ai x2).Key)&&true))) J J J J Pw az J) (dg (rx T 1 (cb J Z2 (λZ2=>?_) (λZ2=>?_))))))
  ·refine rc T 11 ?_
   cases Z2;exact p0 T J [0] J
  refine rc T 8 (ar _ [0] Z2 J J)
 refine rc T 11 ?_
 cases Z2;exact p0 T J [0] J
end
noncomputable section
def Bl.f (n:Int):Option Bool:=some ((decide (n≥1))&&(decide (n<=16)))
theorem Bl.c (H:Bl.f n=some r):
 QU 245 [(ii n)] [] F (bb r):=by
 unfold Bl.f at H;refine aG Tryz.func245 J J (λW=>rc T 10 (ga T [3,4,5] 5 [] 8 J J J J J J J (ro T 4 ?_)))
 cases H;exact p0 T J [0] J
def tF.f (t:aM):Option Bool:=((Bl.f t.W).bind λv3=>if v3=true then((Bl.f t.H).bind λv4=>if v4=true then(if((List.length t.C:Int)==(aa (t.W*t.H)))=true then((wh.f t.C 0).bind λv5=>some (!v5)) else(some false)) else(some false)) else(some false)).bind λx1=>some x1
theorem tF.c (H:tF.f t=some r) (dS:aU (Fl.int .u8) t.C iz F) (fo:List.length t.C<=iC):
 QU 220 [(.agg #[(ii t.W),(ii t.H),(ll iz t.C iC)])] [] F (bb r):=by
 unfold tF.f at H;refine aG Tryz.func220 J J (λW=>rc T 2 (nc T J (λb1=>ro T 3 (mq H [] [0] (λz2 (x1:Bool)=>(x1=z2,[(2,(bb x1))],[])) J J (λz2 Z1 _=>?_) ?_))))
 ·refine rc T 2 (lf T 1 J (k [] J Tj Z1 (Bl.c ·) (λv3 Z1=>ro T 1 (ab 6 J Z1 (λZ1=>?_) (λZ1=>?_)))))
  ·refine ro T 1 (lf T 1 J (k [] J Tj Z1 (Bl.c ·) (λv4 Z1=>ro T 2 (ab 11 J Z1 (λZ1=>?_) (λZ1=>?_)))))
   ·refine ro T 1 (lf T 1 J (ro T 2 (lf T 1 J (ro T 1 (lf T 1 J (ro T 4 (ab 22 J Z1 (λZ1=>?_) (λZ1=>?_))))))))
    ·refine ro T 1 (lf T 1 J (k [] J Nd Z1 (wh.c · (rO dS 0) fo) (λv5 Z1=>ro T 5 (am _ [0] (oi Z1) J J))))
    refine ro T 8 (am _ [0] (oi Z1) J J)
   refine ro T 19 (am _ [0] (oi Z1) J J)
  refine ro T 24 (am _ [0] (oi Z1) J J)
 rintro _ x1 rfl H;refine rc T 1 ?_
 cases H;exact p0 T J [0] J
def EV.f (t:aM) (ai:Int):Option Bool:=(if ai≥0 then(if ai<(List.length t.C:Int) then((tF.f t).bind λv3=>some v3) else(some false)) else(some false)).bind λx1=>some x1
theorem EV.c (H:EV.f t ai=some r) (dS:aU (Fl.int .u8) t.C iz F) (fo:List.length t.C<=iC):
 QU 299 [(.agg #[(ii t.W),(ii t.H),(ll iz t.C iC)]),(ii ai)] [] F (bb r):=by
 unfold EV.f at H;refine aG Tryz.func299 J J (λW=>rc T 2 (nc T J (λb1=>ro T 3 (mq H [] [0] (λz2 (x1:Bool)=>(x1=z2,[(4,(bb x1))],[])) J J (λz2 Z1 _=>?_) ?_))))
 ·refine rc T 4 (ad 7 J Z1 (λZ1=>?_) (λZ1=>?_))
  ·refine ro T 2 (lf T 1 J (ro T 4 (ad 14 J Z1 (λZ1=>?_) (λZ1=>?_))))
   ·refine lm T 1 J (k [] J JF Z1 (tF.c · (rO dS 0) fo) (λv3 Z1=>ro T 4 (am _ [0] (oi Z1) J J)))
   refine ro T 6 (am _ [0] (oi Z1) J J)
  refine ro T 13 (am _ [0] (oi Z1) J J)
 rintro _ x1 rfl H;refine rc T 1 ?_
 cases H;exact p0 T J [0] J
def Bk.f (t:aM) (ai:Int):Option Int:=(EV.f t ai).bind λv1=>if(!v1)=true then(some 0) else(if(0<=ai/\ai<(List.length t.C:Int)) then(some (aa (rd t.C ai))) else none)
theorem Bk.c (H:Bk.f t ai=some r) (dS:aU (Fl.int .u8) t.C iz F) (fo:List.length t.C<=iC):
 QU 288 [(.agg #[(ii t.W),(ii t.H),(ll iz t.C iC)]),(ii ai)] [] F (ii r):=by
 unfold Bk.f at H;refine aG Tryz.func288 J J (λW=>rc T 2 (nc T J (λb1=>ro T 6 (lm T 1 J (ro T 1 (k [] J adN H (EV.c · (rO dS 0) fo) (λv1 H=>ro T 3 (cb J H (λH=>?_) (λH=>?_)))))))))
 ·refine rc T 7 ?_
  cases H;exact p0 T J [0] J
 refine rc T 5 (lf T 1 J (ro T 1 ?_));obtain⟨c3,H⟩:=aA H;obtain⟨q2,o2,e2⟩:=dS.addr c3.1 c3.2;refine ix T J e2 c3 (le T 0 (rO dS 0) e2 c3 J J (ro T 5 ?_))
 cases H;exact p0 T J [0] J
end
noncomputable section
def mZ.f (ag:eV) (n:Int):Option ((List Int)×Er×eV):=if(aa ((List.length ag.b:Int)-ag.bc))<n then(some ([],(Er.eB 6),ag)) else(if(0<=(aa ((aa (ag.bc+n))-n))/\(aa ((aa (ag.bc+n))-n))<=(aa (ag.bc+n))/\(aa (ag.bc+n))<=(List.length ag.b:Int)) then(some ((aB ag.b (aa ((aa (ag.bc+n))-n)) (aa (ag.bc+n))),Er.nil,(eV.mk ag.b (aa (ag.bc+n))))) else none)
def mZ.R (el:Nat->Addr) (aY:Nat) (y0:Value) (xr:List Int) (ar:Option Addr) (nr:Nat) (r:((List Int)×Er×eV)):bm:=λu G=> ∃(a0:Option Addr) (n0:Nat) (v1:Value) (H1:Hp),dx (Fl.int .u8) xr ar nr r.1 a0 n0/\List.length r.1<=n0/\gj 414 el r.2.1 v1 H1/\u=(.tuple #[(ll a0 r.1 n0),v1])/\G=[H1,(cl aY 340 [y0,(ii r.2.2.bc)])]
theorem mZ.c (H:mZ.f ag n=some r) (hG:fU 414 fh il el F) (mX:aU (Fl.int .u8) ag.b hU F) (kB:List.length ag.b<=gY):
 QR 278 [(pp aY),(ii n)] [(cl aY 340 [(ll hU ag.b gY),(ii ag.bc)])] [] F (mZ.R el aY (ll hU ag.b gY) ag.b hU gY r):=by
 unfold mZ.f at H;refine aG Tryz.func278 J J (λW=>rc T 8 (dD mix az (au T J (au T J (au T J (aO J J J (aw T J J J J (aI (j:=0) J J)) ?_))))))
 iterate 4 refine au T J ?_
 refine aO J J J (aw T J J J J (aI (j:=0) J J)) (au T J (au T J (au T J (dg (rx T 1 (cd J H (λH=>?_) (λH=>?_)))))))
 ·refine rc T 1 (dD mix az (aO J J J (aw T J J J J (rM (j:=1) J hG (g:=6) (by decide))) (au T J (au T J (dg (rx T 3 ?_))))))
  cases H;refine bC (p1 T J [2,0,0] ⟨none,0,(.iface 414 (.pointer (some (el 6)))),[],dx.nil,(Nat.zero_le _),oA,J,J⟩ J)
 refine rc T 7 (lf T 0 J (ro T 4 (sg T 0 J (ro T 3 (dD mix az (au T J (au T J (au T J (aO J J J (aw T J J J J (aI (j:=0) J J)) (au T J (au T J (au T J (aO J J J (aw T J J J J (aI (j:=0) J J)) ?_)))))))))))))
 iterate 5 refine au T J ?_
 refine aO J J J (aw T J J J J (aI (j:=0) J J)) ?_;obtain⟨c2,H⟩:=aA H;refine aO J J J (kF T J J J J J J c2 kB) (au T J (au T J (dg (rx T 2 ?_))))
 cases H;refine bC (p1 T J [2,0,0] ⟨(gi hU gY (Int.toNat (aa ((aa (ag.bc+n))-n))) 1),(gY-Int.toNat (aa ((aa (ag.bc+n))-n))),.nilIface,[],(dx.sub dx.self kB c2),(mL c2 kB),tU,J,J⟩ J)
def qf.f (ag:eV) (n:Int):Option ((List Int)×Er×eV):=(mZ.f ag n).bind λv1=>(if(Er.isNil v1.2.1)=true then((wh.f v1.1 0).bind λv4=>some v4) else(some false)).bind λx2=>if x2=true then(some (v1.1,(Er.eB 5),(eV.mk ag.b v1.2.2.bc))) else(some (v1.1,v1.2.1,(eV.mk ag.b v1.2.2.bc)))
def qf.R (el:Nat->Addr) (aY:Nat) (y0:Value) (xr:List Int) (ar:Option Addr) (nr:Nat) (r:((List Int)×Er×eV)):bm:=λu G=> ∃(a0:Option Addr) (n0:Nat) (v1:Value) (H1:Hp),dx (Fl.int .u8) xr ar nr r.1 a0 n0/\List.length r.1<=n0/\gj 414 el r.2.1 v1 H1/\u=(.tuple #[(ll a0 r.1 n0),v1])/\G=[H1,(cl aY 340 [y0,(ii r.2.2.bc)])]
theorem qf.c (H:qf.f ag n=some r) (hG:fU 414 fh il el F) (mX:aU (Fl.int .u8) ag.b hU F) (kB:List.length ag.b<=gY):
 QR 279 [(pp aY),(ii n)] [(cl aY 340 [(ll hU ag.b gY),(ii ag.bc)])] [] F (qf.R el aY (ll hU ag.b gY) ag.b hU gY r):=by
 unfold qf.f at H;refine aG Tryz.func279 J J (λW=>rc T 10 (kr (mZ.R el aY (ll hU ag.b gY) ag.b hU gY) [] [0] J Nq H (mZ.c · (dI hG (j:=0) J) (rO mX 0) kB) (λv1 H=>?_)));rintro _ _ ⟨a2,n2,v3,H3,DI,I8,s3,rfl,rfl⟩;refine fz J (ro T 8 (mq H [6,7] [0,0,0] (λz3 (x2:Bool)=>(x2=z3,[(19,(bb x2))],[])) J J (λz3 Z2 _=>?_) ?_))
 ·refine rc T 2 (bz J (Jm T J J J (rD s3 (j:=1) J)) (ro T 1 (ab 16 J Z2 (λZ2=>?_) (λZ2=>?_))))
  ·refine ro T 1 (k [] J Nd Z2 (wh.c · (oy DI (rO mX 0) kB) I8) (λv4 Z2=>ro T 3 (am _ [0,0,0] (oi Z2) J J)))
  refine ro T 5 (am _ [0,0,0] (oi Z2) J J)
 rintro _ x2 rfl H;refine cb J H (λH=>?_) (λH=>?_)
 ·refine rc T 1 (lg T J (rM (j:=0) J hG (g:=5) (by decide)) (ro T 12 ?_))
  cases H;refine bC (p1 T J [3,2,0] ⟨a2,n2,(.iface 414 (.pointer (some (el 5)))),[],DI,I8,oA,J,J⟩ J)
 refine rc T 11 ?_
 cases H;exact p1 T J [1,1,0] ⟨a2,n2,v3,H3,DI,I8,s3,J,J⟩ J
def pE.l0:Nat->eV->Int->Int->List Int->Option (Sum ((List Int)×Er×eV) ((List Int)×Int))
 |0,_,_,_,_=>none
 |k8+1,ag,n,x6,x7=>if(List.length x7:Int)<n then((mZ.f (eV.mk ag.b x6) 2).bind λv9=>if(!(Er.isNil v9.2.1))=true then(some (Sum.inl ([],v9.2.1,(eV.mk ag.b v9.2.2.bc)))) else(if(0<=(0:Int)/\(0:Int)<(List.length v9.1:Int)) then(if(0<=(1:Int)/\(1:Int)<(List.length v9.1:Int)) then((if(((rd v9.1 1)==0)||(decide ((aa ((aa (rd v9.1 0))+1))>(aa (n-(List.length x7:Int))))))=true then(some true) else(if(List.length x7:Int)>0 then(if(0<=(aa ((List.length x7:Int)-1))/\(aa ((List.length x7:Int)-1))<(List.length x7:Int)) then(some ((rd x7 (aa ((List.length x7:Int)-1)))==(rd v9.1 1))) else none) else(some false))).bind λaN=>if aN=true then(some (Sum.inl ([],(Er.eB 5),(eV.mk ag.b v9.2.2.bc)))) else((lH.f [(rd v9.1 1)] (aa ((aa (rd v9.1 0))+1))).bind λv12=>if(List.length x7+List.length v12<=1099511627776) then(pE.l0 k8 ag n v9.2.2.bc (x7++v12)) else none)) else none) else none)) else(some (Sum.inr (x7,x6)))
def pE.f (ag:eV) (n:Int):Option ((List Int)×Er×eV):=(pE.l0 fuel ag n ag.bc []).bind λzz=>match zz with |Sum.inl q=>some q |Sum.inr (x1,x2)=>some (x1,Er.nil,(eV.mk ag.b x2))
def pE.R (el:Nat->Addr) (aY:Nat) (y0:Value) (r:((List Int)×Er×eV)):bm:=λu G=> ∃(a0 n0 H0:_) (v1:Value) (H1:Hp),aj (Fl.int .u8) 5 r.1 a0 n0 H0/\gj 414 el r.2.1 v1 H1/\u=(.tuple #[(ll a0 r.1 n0),v1])/\G=[H0,H1,(cl aY 340 [y0,(ii r.2.2.bc)])]
theorem pE.c (H:pE.f ag n=some r) (hG:fU 414 fh il el F) (mX:aU (Fl.int .u8) ag.b hU F) (kB:List.length ag.b<=gY):
 QR 281 [(pp aY),(ii n)] [(cl aY 340 [(ll hU ag.b gY),(ii ag.bc)])] [] F (pE.R el aY (ll hU ag.b gY) r):=by
 unfold pE.f at H;refine aG Tryz.func281 J J (λW=>rc T 11 (mq H [] [1] (λz3 (⟨x1,x2,a2,n2,H2⟩:List Int×Int×Option Addr×Nat×Hp)=>((Sum.inr (x1,x2))=z3/\aj (Fl.int .u8) 5 x1 a2 n2 H2,[(6,(ll a2 x1 n2))],[H2,(cl aY 340 [(ll hU ag.b gY),(ii x2)])])) J J (λz3 Z1 H=>?_) ?_))
 ·refine rc T 1 (bC (lq [0,1] [1] (λ(⟨k8,x6,x7,a4,n4,H4⟩:Nat×Int×List Int×Option Addr×Nat×Hp)=>(pE.l0 k8 ag n x6 x7=some z3/\aj (Fl.int .u8) 5 x7 a4 n4 H4,[(6,(ll a4 x7 n4))],[(cl aY 340 [(ll hU ag.b gY),(ii x6)]),H4])) J J (fuel,ag.bc,[],none,0,[]) [1,0,0] ⟨Z1,aj.nil⟩ J J ?_));rintro k8 ⟨x6,x7,a4,n4,H4⟩ ⟨Z2,s4⟩;rw[pE.l0] at Z2;refine rc T 9 (cd J Z2 (λZ2=>?_) (λZ2=>?_))
  ·refine rc T 6 (kr (mZ.R el aY (ll hU ag.b gY) ag.b hU gY) [] [1] J Nq Z2 (mZ.c (ag:=(eV.mk ag.b x6)) · (dI hG (j:=0) J) (rO mX 0) kB) (λv9 Z2=>?_));rintro _ _ ⟨a5,n5,v6,H6,FJ,QZ,s6,rfl,rfl⟩;refine fz J (ro T 11 (bz J (DR T J J J (rD s6 (j:=2) J)) (ro T 2 (cb J Z2 (λZ2=>?_) (λZ2=>?_)))))
   ·refine rc T 13 ?_;obtain rfl:=Option.some.inj Z2;obtain rfl:=Option.some.inj (show some ([],v9.2.1,(eV.mk ag.b v9.2.2.bc))=some r from H)
    refine bC (p1 T J [4,2,2,0] ⟨none,0,[],v6,H6,aj.nil,s6,J,J⟩ J)
   refine rc T 3 (dD mix az (au T J ?_));obtain⟨c6,Z2⟩:=aA Z2;obtain⟨q8,o8,e8⟩:=(dx.r FJ mX kB).addr c6.1 c6.2;refine aO J J J (cT T J J J J J e8 c6.1 c6.2) (aO J J J (aw T J J J J (iY (k:=(Fl.int .u8)) (oy FJ (rO mX 0) kB) e8 c6 0 J)) (au T J (au T J (au T J ?_))));obtain⟨c7,Z2⟩:=aA Z2;refine aO J J J (cT T J J J J J e8 c7.1 c7.2) (aO J J J (aw T J J J J (iY (k:=(Fl.int .u8)) (oy FJ (rO mX 0) kB) e8 c7 0 J)) (au T J (au T J (dg (rx T 2 (mq Z2 [0,1,6,9,10] [0,2,0] (λlT (aN:Bool)=>(aN=lT,[(55,(bb aN))],[])) J J (λlT Z8 _=>?_) ?_))))))
   ·refine rc T 4 (go T [3,4,5,6,7,8,9] 33 [0,1,6,9,10] 40 J J J J J J J (ro T 1 (ab 41 J Z8 (λZ8=>?_) (λZ8=>?_))))
    ·refine ro T 16 (am _ [0,2,0] (oi Z8) J J)
    refine ro T 4 (ad 45 J Z8 (λZ8=>?_) (λZ8=>?_))
    ·refine ro T 4 ?_;obtain⟨eH,Z8⟩:=aA Z8;obtain⟨q9,o9,e9⟩:=s4.r.addr eH.1 eH.2;refine ix T J e9 eH (le T 0 (oO s4 1) e9 eH J J (ro T 6 (am _ [0,2,0] (oi Z8) J J)))
    refine ro T 12 (am _ [0,2,0] (oi Z8) J J)
   rintro _ aN rfl Z2;refine cb J Z2 (λZ2=>?_) (λZ2=>?_)
   ·refine rc T 1 (dD mix az (aO J J J (aw T J J J J (rM (j:=0) J hG (g:=5) (by decide))) (au T J (au T J (dg (rx T 7 ?_))))))
    obtain rfl:=Option.some.inj Z2;obtain rfl:=Option.some.inj (show some ([],(Er.eB 5),(eV.mk ag.b v9.2.2.bc))=some r from H)
    refine bC (bC (p1 T J [3,3,1,0] ⟨none,0,[],(.iface 414 (.pointer (some (el 5)))),[],aj.nil,oA,J,J⟩ J))
   refine rc T 5 (aZ (cV (k:=(Fl.int .u8)) T [(rd v9.1 1)] J J J J J J J J J (λa12 dz dL=>ro T 1 (kr lH.R [] [] J Ts Z2 (lH.c · (oO dL 3) dL.bW) (λv12 Z2=>?_)))));rintro _ _ ⟨dH,n13,eJ,dm,rfl,rfl⟩;refine fz J ?_;obtain⟨pc,Z2⟩:=aA Z2;refine aZ (ez (k:=(Fl.int .u8)) (xs:=x7) T (g:=2) J J J J J J J J J J s4 (oO dm 4) pc J (λiT n14 fV gC=>ro T 4 (ar (_,_,_,_,_) [0,0,0] ⟨Z2,gC⟩ J J)))
  refine rc T 5 (am (_,_,_,_,_) [0,1,0] ⟨oi Z2,s4⟩ J J)
 rintro _ ⟨x1,x2,a2,n2,H2⟩ ⟨rfl,s2⟩ H;refine rc T 8 ?_
 cases H;refine bC (p1 T J [1,2,1,0] ⟨a2,n2,H2,.nilIface,[],s2,tU,J,J⟩ J)
def sY.f (ag:eV) (n:Int):Option ((List Int)×Er×eV):=(mZ.f ag 1).bind λv1=>if(!(Er.isNil v1.2.1))=true then(some ([],v1.2.1,(eV.mk ag.b v1.2.2.bc))) else(if(0<=(0:Int)/\(0:Int)<(List.length v1.1:Int)) then(if((rd v1.1 0)==0)=true then((qf.f (eV.mk ag.b v1.2.2.bc) 1).bind λv2=>(lH.f v2.1 n).bind λv3=>some (v3,v2.2.1,(eV.mk ag.b v2.2.2.bc))) else(if((rd v1.1 0)==1)=true then((qf.f (eV.mk ag.b v1.2.2.bc) n).bind λv4=>some (v4.1,v4.2.1,(eV.mk ag.b v4.2.2.bc))) else(if((rd v1.1 0)==2)=true then((pE.f (eV.mk ag.b v1.2.2.bc) n).bind λv5=>some (v5.1,v5.2.1,(eV.mk ag.b v5.2.2.bc))) else(some ([],(Er.eB 5),(eV.mk ag.b v1.2.2.bc)))))) else none)
def sY.R (el:Nat->Addr) (aY:Nat) (y0:Value) (xr:List Int) (ar:Option Addr) (nr:Nat) (r:((List Int)×Er×eV)):bm:=λu G=> ∃(a0 n0 H0:_) (v1:Value) (H1:Hp),Iu (Fl.int .u8) 5 xr ar nr r.1 a0 n0 H0/\gj 414 el r.2.1 v1 H1/\u=(.tuple #[(ll a0 r.1 n0),v1])/\G=[H0,H1,(cl aY 340 [y0,(ii r.2.2.bc)])]
theorem sY.c (H:sY.f ag n=some r) (hG:fU 414 fh il el F) (mX:aU (Fl.int .u8) ag.b hU F) (kB:List.length ag.b<=gY):
 QR 252 [(pp aY),(ii n)] [(cl aY 340 [(ll hU ag.b gY),(ii ag.bc)])] [] F (sY.R el aY (ll hU ag.b gY) ag.b hU gY r):=by
 unfold sY.f at H;refine aG Tryz.func252 J J (λW=>rc T 9 (kr (mZ.R el aY (ll hU ag.b gY) ag.b hU gY) [] [0] J Nq H (mZ.c · (dI hG (j:=0) J) (rO mX 0) kB) (λv1 H=>?_)));rintro _ _ ⟨a2,n2,v3,H3,DI,I8,s3,rfl,rfl⟩;refine fz J (ro T 11 (bz J (DR T J J J (rD s3 (j:=1) J)) (ro T 2 (cb J H (λH=>?_) (λH=>?_)))))
 ·refine rc T 9 ?_
  cases H;refine bC (p1 T J [3,1,1,0] ⟨none,0,[],v3,H3,(.inl ⟨dx.nil,Nat.zero_le _,J⟩),s3,J,J⟩ J)
 refine rc T 6 ?_;obtain⟨c3,H⟩:=aA H;obtain⟨q5,o5,e5⟩:=(dx.r DI mX kB).addr c3.1 c3.2;refine ix T J e5 c3 (le T 0 (oy DI (rO mX 0) kB) e5 c3 J J (ro T 9 (cb J H (λH=>?_) (λH=>?_))))
 ·refine rc T 3 (kr (qf.R el aY (ll hU ag.b gY) ag.b hU gY) [] [2] J Tq H (qf.c (ag:=(eV.mk ag.b v1.2.2.bc)) · (dI hG (j:=0) J) (rO mX 0) kB) (λv2 H=>?_));rintro _ _ ⟨a6,n6,v7,H7,ZR,c6_,s7,rfl,rfl⟩;refine fz J (ro T 11 (kr lH.R [] [] J Ts H (lH.c · (oy ZR (rO mX 0) kB) c6_) (λv3 H=>?_)));rintro _ _ ⟨a8,n8,H8,s8,rfl,rfl⟩;refine fz J (ro T 4 (ke [4,5] [0,1,1,1] J J (rx T 4 ?_)))
  cases H;exact p1 T J [3,1,1,0] ⟨a8,n8,H8,v7,H7,(.inr s8),s7,J,J⟩ J
 refine rc T 6 (cb J H (λH=>?_) (λH=>?_))
 ·refine rc T 4 (kr (qf.R el aY (ll hU ag.b gY) ag.b hU gY) [] [2] J Tq H (qf.c (ag:=(eV.mk ag.b v1.2.2.bc)) · (dI hG (j:=0) J) (rO mX 0) kB) (λv4 H=>?_));rintro _ _ ⟨a9,n9,v10,bZ,ZS,c9_,bU,rfl,rfl⟩;refine fz J (ro T 9 ?_)
  cases H;refine bC (p1 T J [4,2,2,0] ⟨a9,n9,[],v10,bZ,(.inl ⟨ZS,c9_,J⟩),bU,J,J⟩ J)
 refine rc T 6 (cb J H (λH=>?_) (λH=>?_))
 ·refine rc T 4 (kr (pE.R el aY (ll hU ag.b gY)) [] [2] J adG H (pE.c (ag:=(eV.mk ag.b v1.2.2.bc)) · (dI hG (j:=0) J) (rO mX 0) kB) (λv5 H=>?_));rintro _ _ ⟨a12,n12,dz,lz,eJ,dL,dm,rfl,rfl⟩;refine fz J (ro T 9 ?_)
  cases H;exact p1 T J [2,2,2,0] ⟨a12,n12,dz,lz,eJ,(.inr dL),dm,J,J⟩ J
 refine rc T 4 (dD mix az (aO J J J (aw T J J J J (rM (j:=0) J hG (g:=5) (by decide))) (au T J (au T J (dg (rx T 2 ?_))))))
 cases H;refine bC (bC (p1 T J [3,3,2,0] ⟨none,0,[],(.iface 414 (.pointer (some (el 5)))),[],(.inl ⟨dx.nil,Nat.zero_le _,J⟩),oA,J,J⟩ J))
def CQ.f (ag:Int) (ai:aM):Option Bool:=if(0<=(0:Int)/\(0:Int)<(List.length ai.C:Int)) then(some (ag !=(rd ai.C 0))) else none
theorem CQ.c (H:CQ.f ag ai=some r) (G2:(tQ,Obj.cells #[(ii ai.W),(ii ai.H),(ll IU ai.C Kv)] 139 (0,0))∈F) (DZ:aU (Fl.int .u8) ai.C IU F) (Q2:List.length ai.C<=Kv):
 QU 304 [(.int .u8 ag),(pp tQ)] [] F (bb r):=by
 unfold CQ.f at H;refine aG Tryz.func304 J J (λW=>rc T 9 (lg T J (nM (j:=0) G2 J J) ?_));obtain⟨c1,H⟩:=aA H;obtain⟨q1,o1,e1⟩:=DZ.addr c1.1 c1.2;refine ix T J e1 c1 (le T 0 (rO DZ 0) e1 c1 J J (ro T 5 ?_))
 cases H;exact p0 T J [0] J
def qU.l0:Nat->(List Int)->aM->Int->Option Int
 |0,_,_,_=>none
 |k3+1,s,fC,x2=>if x2<(List.length s:Int) then(if(0<=x2/\x2<(List.length s:Int)) then((CQ.f (rd s x2) fC).bind λv4=>if v4=true then(some x2) else(qU.l0 k3 s fC (aa (x2+1)))) else none) else(some (-1))
def qU.f (s:(List Int)) (fC:aM):Option Int:=qU.l0 fuel s fC 0
theorem qU.c (H:qU.f s fC=some r) (jG:aU (Fl.int .u8) s iV F) (rA:List.length s<=iZ) (Cx:(BR,Obj.cells #[(ii fC.W),(ii fC.H),(ll BL fC.C CG)] 139 (0,0))∈F) (B3:aU (Fl.int .u8) fC.C BL F) (BV:List.length fC.C<=CG):
 QU 305 [(ll iV s iZ),(.func (.func 304) #[] #[(pp BR)])] [] F (ii r):=by
 unfold qU.f at H;refine aG Tryz.func305 J J (λW=>rc T 14 (lq [0,1,7] [0] (λ(⟨k3,x2⟩:Nat×Int)=>(qU.l0 k3 s fC x2=some r,[(8,(ii x2))],[])) J J (fuel,0) [0] H J J ?_));rintro k3 x2 Z1;replace Z1:qU.l0 (k3+1) s fC x2=some r:=Z1;rw[qU.l0] at Z1;refine rc T 6 (cd J Z1 (λZ1=>?_) (λZ1=>?_))
 ·refine rc T 15 ?_;obtain⟨c3,Z1⟩:=aA Z1;obtain⟨q1,o1,e1⟩:=jG.addr c3.1 c3.2;refine ix T J e1 c3 (le T 0 (rO jG 0) e1 c3 J J (k [] J adS Z1 (CQ.c · (qe Cx (j:=0) J) (rO B3 0) BV) (λv4 Z1=>ro T 2 (cb J Z1 (λZ1=>?_) (λZ1=>?_)))))
  ·refine rc T 12 ?_
   cases Z1;exact p0 T J [0] J
  refine rc T 8 (ar _ [0] Z1 J J)
 refine rc T 11 ?_
 cases Z1;exact p0 T J [0] J
def Dc.f (s:(List Int)) (fC:aM):Option Bool:=(qU.f s fC).bind λv1=>some (decide (v1≥0))
theorem Dc.c (H:Dc.f s fC=some r) (jG:aU (Fl.int .u8) s iV F) (rA:List.length s<=iZ) (Cx:(BR,Obj.cells #[(ii fC.W),(ii fC.H),(ll BL fC.C CG)] 139 (0,0))∈F) (B3:aU (Fl.int .u8) fC.C BL F) (BV:List.length fC.C<=CG):
 QU 303 [(ll iV s iZ),(.func (.func 304) #[] #[(pp BR)])] [] F (bb r):=by
 unfold Dc.f at H;refine aG Tryz.func303 J J (λW=>rc T 9 (k [] J adT H (qU.c · (rO jG 0) rA (qe Cx (j:=0) J) (rO B3 0) BV) (λv1 H=>ro T 5 ?_)))
 cases H;exact p0 T J [0] J
def jo.l1:Nat->aM->Int->Int->Option Int
 |0,_,_,_=>none
 |xk+1,t,x5,aS=>(if(aa (x5+aS))<(List.length t.C:Int) then(if(0<=(aa (x5+aS))/\(aa (x5+aS))<(List.length t.C:Int)) then(if(0<=x5/\x5<(List.length t.C:Int)) then(some ((rd t.C (aa (x5+aS)))==(rd t.C x5))) else none) else none) else(some false)).bind λcm=>if cm=true then(jo.l1 xk t x5 (aa (aS+1))) else(some aS)
def jo.l0:Nat->aM->List Int->Int->Option (List Int)
 |0,_,_,_=>none
 |k6+1,t,x4,x5=>if x5<(List.length t.C:Int) then(((jo.l1 fuel t x5 1).bind λaN=>if(0<=x5/\x5<(List.length t.C:Int)) then(if(List.length x4+2<=1099511627776) then(some ((x4++[(bP (aa (aN-1))),(rd t.C x5)]),(aa (x5+aN)))) else none) else none).bind λ(x7,x8)=>jo.l0 k6 t x7 x8) else(some x4)
def jo.f (t:aM) (form:Int):Option (List Int):=if(form==0)=true then((Dc.f t.C t).bind λv1=>if v1=true then(some []) else(if(0<=(0:Int)/\(0:Int)<(List.length t.C:Int)) then(if(List.length [(bP form)]+1<=1099511627776) then(some ([(bP form)]++[(rd t.C 0)])) else none) else none)) else(if(form==1)=true then(if(List.length [(bP form)]+List.length t.C<=1099511627776) then(some ([(bP form)]++t.C)) else none) else(jo.l0 fuel t [(bP form)] 0))
def jo.R (r:(List Int)):bm:=λu G=> ∃a0 n0 H0,aj (Fl.int .u8) 5 r a0 n0 H0/\(r=[]->a0=none)/\u=(ll a0 r n0)/\G=[H0]
theorem jo.c (H:jo.f t form=some r) (dS:aU (Fl.int .u8) t.C iz F) (fo:List.length t.C<=iC):
 QR 297 [(.agg #[(ii t.W),(ii t.H),(ll iz t.C iC)]),(ii form)] [] [] F (jo.R r):=by
 unfold jo.f at H;refine aG Tryz.func297 J J (λW=>rc T 2 (nc T J (λb1=>ro T 7 (aZ (cV (k:=(Fl.int .u8)) T [(bP form)] J J J J J J J J J (λa2 H2 s2=>ro T 16 (cb J H (λH=>?_) (λH=>?_))))))))
 ·refine rc T 4 (lf T 1 J (ro T 1 (k [] J adR H (Dc.c · (rO dS 0) fo (Cz (j:=1) J) (rO dS 0) fo) (λv1 H=>ro T 2 (cb J H (λH=>?_) (λH=>?_))))))
  ·refine rc T 9 ?_
   cases H;refine bC (p1 T J [3,0] ⟨none,0,[],aj.nil,(λ_=>rfl),J,J⟩ J)
  refine rc T 6 (lf T 1 J ?_);obtain⟨c4,H⟩:=aA H;obtain⟨q4,o4,e4⟩:=dS.addr c4.1 c4.2;refine ix T J e4 c4 (le T 0 (rO dS 0) e4 c4 J J (aZ (cV (k:=(Fl.int .u8)) T [(rd t.C 0)] J J J J J J J J J (λa5 H5 s5=>?_))));obtain⟨c5,H⟩:=aA H;refine aZ (ez (k:=(Fl.int .u8)) (xs:=[(bP form)]) T (g:=2) J J J J J J J J J J s2 (oO s5 3) c5 J (λa6 n6 H6 s6=>ro T 2 (ke [4] [0,1] J J (rx T 4 ?_))))
  cases H;exact p1 T J [1,0] ⟨a6,n6,H6,s6,(OH (.inr J)),J,J⟩ J
 refine rc T 6 (cb J H (λH=>?_) (λH=>?_))
 ·refine rc T 4 (lf T 1 J ?_);obtain⟨c7,H⟩:=aA H;refine aZ (ez (k:=(Fl.int .u8)) (xs:=[(bP form)]) T (g:=2) J J J J J J J J J J s2 (rO dS 0) c7 J (λa7 n7 H7 s7=>ro T 2 (ke [4] [0,1] J J (rx T 4 ?_))))
  cases H;exact p1 T J [1,0] ⟨a7,n7,H7,s7,(OH (.inl J)),J,J⟩ J
 refine rc T 10 (lq [2] [0,0] (λ(⟨k6,x4,x5,a9,n9,H9⟩:Nat×List Int×Int×Option Addr×Nat×Hp)=>(jo.l0 k6 t x4 x5=some r/\aj (Fl.int .u8) 5 x4 a9 n9 H9/\(x4=[]->a9=none),[(5,(ll a9 x4 n9)),(6,(ii x5))],[H9])) J J (fuel,[(bP form)],0,a2,(List.length [(bP form)]),H2) [0,0,0] ⟨H,s2,(λe=>by cases e)⟩ J J ?_)
 rintro k6 ⟨x4,x5,a9,n9,H9⟩ ⟨Z8,s9,r9⟩;rw[jo.l0] at Z8;refine rc T 5 (lf T 1 J (ro T 4 (cd J Z8 (λZ8=>?_) (λZ8=>?_))))
 ·refine rc T 2 (mn Z8 [2] [0,0] (λz9 (⟨x7,x8,cw,n10,bZ⟩:List Int×Int×Option Addr×Nat×Hp)=>((x7,x8)=z9/\aj (Fl.int .u8) 5 x7 cw n10 bZ/\(x7=[]->cw=none),[(5,(ll cw x7 n10)),(6,(ii x8))],[bZ])) J J (λz9 lX _=>?_) ?_)
  ·refine rc T 6 (mq lX [2,5,6] [0,0,0] (λlT (aN:Int)=>(aN=lT,[(7,(ii aN))],[])) J J (λlT aW _=>?_) ?_)
   ·refine rc T 1 (lq [2,5,6] [0,0,0] (λ(⟨xk,aS⟩:Nat×Int)=>(jo.l1 xk t x5 aS=some lT,[(7,(ii aS))],[])) J J (fuel,1) [0,0,0] aW J J ?_);rintro xk aS bx;replace bx:jo.l1 (xk+1) t x5 aS=some lT:=bx;rw[jo.l1] at bx;refine rc T 1 (mq bx [2,5,6,7] [0,0,0] (λIt (cm:Bool)=>(cm=It,[(57,(bb cm))],[])) J J (λIt nq _=>?_) ?_)
    ·refine dD mix az ?_
     iterate 4 refine au T J ?_
     refine aO J J J (aw T J J J J (aI (j:=1) J J)) (au T J (au T J (au T J (qd 43 J nq (λnq=>?_) (λnq=>?_)))))
     ·refine au T J (aO J J J (aw T J J J J (aI (j:=1) J J)) (au T J (au T J (au T J ?_))));obtain⟨yC,nq⟩:=aA nq;obtain⟨q11,o11,yE⟩:=dS.addr yC.1 yC.2;refine aO J J J (cT T J J J J J yE yC.1 yC.2) (aO J J J (aw T J J J J (iY (k:=(Fl.int .u8)) (rO dS 0) yE yC 0 J)) (au T J (aO J J J (aw T J J J J (aI (j:=1) J J)) (au T J ?_))));obtain⟨pX,nq⟩:=aA nq;refine aO J J J (cT T J J J J J yE pX.1 pX.2) (aO J J J (aw T J J J J (iY (k:=(Fl.int .u8)) (rO dS 0) yE pX 0 J)) (au T J (au T J (dg (rx T 1 (am _ [0,0,0] (oi nq) J J))))))
     iterate 14 refine au T J ?_
     refine dg (rx T 1 (am _ [0,0,0] (oi nq) J J))
    rintro _ cm rfl bx;refine cb J bx (λbx=>?_) (λbx=>?_)
    ·refine rc T 10 (ar _ [0,0,0] bx J J)
    refine rc T 5 (am _ [0,0,0] (oi bx) J J)
   rintro _ aN rfl lX;refine rc T 7 (lf T 1 J (ro T 1 ?_));obtain⟨lI,lX⟩:=aA lX;obtain⟨vQ,OL,sE⟩:=dS.addr lI.1 lI.2;refine ix T J sE lI (le T 0 (rO dS 0) sE lI J J (aZ (cV (k:=(Fl.int .u8)) T [(bP (aa (aN-1))),(rd t.C x5)] J J J J J J J J J (λdH eJ dm=>?_))));obtain⟨Ag,lX⟩:=aA lX;refine aZ (ez (k:=(Fl.int .u8)) (xs:=x4) T (g:=2) J J J J J J J J J J s9 (oO dm 3) Ag J (λiT n14 fV gC=>ro T 11 (am (_,_,_,_,_) [0,0,0] ⟨oi lX,gC,(OH (.inr J))⟩ J J)))
  rintro _ ⟨x7,x8,cw,n10,bZ⟩ ⟨rfl,bU,KM⟩ Z8;refine rx T 1 (ar (_,_,_,_,_) [0,0,0] ⟨Z8,bU,KM⟩ J J)
 refine rc T 12 ?_
 cases Z8;exact p1 T J [2,0] ⟨a9,n9,H9,s9,r9,J,J⟩ J
def lj.l0:Nat->aM->Int->List Int->Int->Option (Int×(List Int))
 |0,_,_,_,_=>none
 |k7+1,t,x4,x5,x6=>if x6<3 then((jo.f t x6).bind λv8=>(if(!List.isEmpty v8)=true then(if(List.isEmpty x5)=true then(some true) else(some (decide ((List.length v8:Int)<(List.length x5:Int))))) else(some false)).bind λx9=>if x9=true then(lj.l0 k7 t x6 v8 (aa (x6+1))) else(lj.l0 k7 t x4 x5 (aa (x6+1)))) else(some (x4,x5))
def lj.f (t:aM):Option (Int×(List Int)):=lj.l0 fuel t (-1) [] 0
def lj.R (r:(Int×(List Int))):bm:=λu G=> ∃a0 n0 H0,aj (Fl.int .u8) 5 r.2 a0 n0 H0/\(r.2=[]->a0=none)/\u=(.tuple #[(ii r.1),(ll a0 r.2 n0)])/\G=[H0]
theorem lj.c (H:lj.f t=some r) (dS:aU (Fl.int .u8) t.C iz F) (fo:List.length t.C<=iC):
 QR 282 [(.agg #[(ii t.W),(ii t.H),(ll iz t.C iC)])] [] [] F (lj.R r):=by
 unfold lj.f at H;refine aG Tryz.func282 J J (λW=>rc T 2 (nc T J (λb1=>ro T 17 (bC (lq [1] [0,0] (λ(⟨k7,x4,x5,x6,a3,n3,H3⟩:Nat×Int×List Int×Int×Option Addr×Nat×Hp)=>(lj.l0 k7 t x4 x5 x6=some r/\aj (Fl.int .u8) 5 x5 a3 n3 H3/\(x5=[]->a3=none),[(4,(ii x4)),(5,(ll a3 x5 n3)),(8,(ii x6))],[H3])) J J (fuel,(-1),[],0,none,0,[]) [0,0,0] ⟨H,aj.nil,(λ_=>rfl)⟩ J J ?_)))));rintro k7 ⟨x4,x5,x6,a3,n3,H3⟩ ⟨Z1,s3,r3⟩;rw[lj.l0] at Z1;refine rc T 6 (cd J Z1 (λZ1=>?_) (λZ1=>?_))
 ·refine rc T 12 (lm T 1 J (ro T 1 (kr jo.R [] [] J adM Z1 (jo.c · (rO dS 0) fo) (λv8 Z1=>?_))));rintro _ _ ⟨a4,n4,H4,s4,r4,rfl,rfl⟩;refine fz J (ro T 3 (mq Z1 [1,4,5,6,7,8] [0,0,0,0] (λoe (x9:Bool)=>(x9=oe,[(26,(bb x9))],[])) J J (λoe Z4 _=>?_) ?_))
  ·refine rc T 2 (bz J (abS T J J J J s4 r4) (ro T 1 (ab 16 J Z4 (λZ4=>?_) (λZ4=>?_))))
   ·refine ro T 1 (bz J (abR T J J J J s3 r3) (ro T 1 (ab 19 J Z4 (λZ4=>?_) (λZ4=>?_))))
    ·refine ro T 9 (am _ [0,0,0,0] (oi Z4) J J)
    refine ro T 9 (am _ [0,0,0,0] (oi Z4) J J)
   refine ro T 12 (am _ [0,0,0,0] (oi Z4) J J)
  rintro _ x9 rfl Z1;refine cb J Z1 (λZ1=>?_) (λZ1=>?_)
  ·refine rc T 13 (ar (_,_,_,_,_,_) [0,0,1] ⟨Z1,s4,r4⟩ J J)
  refine rc T 8 (ar (_,_,_,_,_,_) [0,0,0] ⟨Z1,s3,r3⟩ J J)
 refine rc T 14 ?_
 cases Z1;exact p1 T J [2,0] ⟨a3,n3,H3,s3,r3,J,J⟩ J
def sX.f (t:aM):Option ((List Int)×Int):=(tF.f t).bind λv1=>if(!v1)=true then(some ([],1)) else((lj.f t).bind λv2=>some (v2.2,0))
def sX.R (r:((List Int)×Int)):bm:=λu G=> ∃a0 n0 H0,aj (Fl.int .u8) 5 r.1 a0 n0 H0/\u=(.tuple #[(ll a0 r.1 n0),(ii r.2)])/\G=[H0]
theorem sX.c (H:sX.f t=some r) (dS:aU (Fl.int .u8) t.C iz F) (fo:List.length t.C<=iC):
 QR 253 [(.agg #[(ii t.W),(ii t.H),(ll iz t.C iC)])] [] [] F (sX.R r):=by
 unfold sX.f at H;refine aG Tryz.func253 J J (λW=>rc T 2 (nc T J (λb1=>ro T 7 (lm T 1 J (k [] J JF H (tF.c · (rO dS 0) fo) (λv1 H=>ro T 3 (cb J H (λH=>?_) (λH=>?_))))))))
 ·refine rc T 8 ?_
  cases H;refine bC (p1 T J [2,0] ⟨none,0,[],aj.nil,J,J⟩ J)
 refine rc T 4 (lm T 1 J (kr lj.R [] [] J adH H (lj.c · (rO dS 0) fo) (λv2 H=>?_)));rintro _ _ ⟨a3,n3,H3,s3,r3,rfl,rfl⟩;refine fz J (ro T 15 ?_)
 cases H;exact p1 T J [2,0] ⟨a3,n3,H3,s3,J,J⟩ J
def vO.f (ag:eV) (w:Int) (h:Int):Option (aM×Er×eV):=(sY.f ag (aa (w*h))).bind λv1=>(nX.f v1.1).bind λv2=>(if(Er.isNil v1.2.1)=true then((sX.f (aM.mk w h v2)).bind λv5=>if(0<=(0:Int)/\(0:Int)<=v1.2.2.bc/\v1.2.2.bc<=(List.length ag.b:Int)) then((DK.f v5.1 (aB ag.b 0 v1.2.2.bc)).bind λv6=>if(!v6)=true then(some (Er.eB 5)) else(some v1.2.1)) else none) else(some v1.2.1)).bind λx3=>if(Er.isNil x3)=true then(some ((aM.mk w h v2),Er.nil,(eV.mk ag.b v1.2.2.bc))) else((vc.f x3 (Er.eB 6)).bind λv7=>if v7=true then(some ((aM.mk 0 0 []),(Er.wrap 343 [v1.2.2.bc,2] x3),(eV.mk ag.b v1.2.2.bc))) else(some ((aM.mk 0 0 []),(Er.wrap 343 [v1.2.2.bc,3] x3),(eV.mk ag.b v1.2.2.bc))))
def vO.R (el:Nat->Addr) (aY:Nat) (y0:Value) (r:(aM×Er×eV)):bm:=λu G=> ∃(a0 n0 H0:_) (v1:Value) (H1:Hp),aj (Fl.int .u8) 5 r.1.C a0 n0 H0/\gj 414 el r.2.1 v1 H1/\u=(.tuple #[(.agg #[(ii r.1.W),(ii r.1.H),(ll a0 r.1.C n0)]),v1])/\G=[H0,H1,(cl aY 340 [y0,(ii r.2.2.bc)])]
theorem vO.c (H:vO.f ag w h=some r) (hG:fU 414 fh il el F) (mX:aU (Fl.int .u8) ag.b hU F) (kB:List.length ag.b<=gY):
 QR 230 [(pp aY),(ii w),(ii h)] [(cl aY 340 [(ll hU ag.b gY),(ii ag.bc)])] [] F (vO.R el aY (ll hU ag.b gY) r):=by
 unfold vO.f at H;refine aG Tryz.func230 J J (λW=>rc T 2 (nc T J (λb2=>ro T 9 (kr (sY.R el aY (ll hU ag.b gY) ag.b hU gY) [] [0] J adu H (sY.c · (dI hG (j:=0) J) (rO mX 0) kB) (λv1 H=>?_)))));rintro _ _ ⟨a3,n3,H3,v4,H4,s3,s4,rfl,rfl⟩;refine fz J (ro T 12 (kr nX.R [] [] J M6 H (nX.c · (Z0 s3 (j:=2) J (rO mX 0) kB) s3.bW) (λv2 H=>?_)));rintro _ _ ⟨a5,n5,H5,s5,rfl,rfl⟩;refine fz J (ro T 1 (nc T J (λb6=>sg T 6 J (ro T 1 (ke [0,6,9,10] [0,0,1,1,1,1] J J (rx T 1 (mq H [0,6,10] [0,2,0,2,1] (λz4 (⟨x3,Dm,H7⟩:Er×Value×Hp)=>(x3=z4/\gj 414 el x3 Dm H7,[(9,Dm)],[H7])) J J (λz4 Z3 _=>?_) ?_)))))))
 ·refine rc T 3 (bz J (Jm T J J J (rD s4 (j:=2) J)) (ro T 2 (cb J Z3 (λZ3=>?_) (λZ3=>?_))))
  ·refine rc T 2 (lm T 5 J (kr sX.R [] [] J adv Z3 (sX.c (t:=(aM.mk w h v2)) · (oO s5 4) s5.bW) (λv5 Z3=>?_)));rintro _ _ ⟨a8,n8,H8,s8,rfl,rfl⟩;refine fz J (ro T 8 (dD mix az ?_))
   iterate 4 refine au T J ?_
   refine aO J J J (aw T J J J J (aI (j:=3) J J)) (au T J (au T J (au T J (aO J J J (aw T J J J J (aI (j:=3) J J)) ?_))));obtain⟨c6,Z3⟩:=aA Z3;refine aO J J J (kF T J J J J J J c6 kB) ?_;obtain⟨v6,V7,Z3⟩:=gx Z3;refine uV J J J J J J adw J (DK.c V7 (oO s8 6) s8.bW (ng (rO mX 0) c6 kB) (mL c6 kB)) (au T J (dg (rx T 1 (cb J Z3 (λZ3=>?_) (λZ3=>?_)))))
   ·refine rc T 1 (lg T J (rM (j:=0) J hG (g:=5) (by decide)) (ro T 3 (bC (am (_,_,_) [0,2,0,2,1,2] ⟨oi Z3,oA⟩ J J))))
   refine rc T 2 (am (_,_,_) [0,2,0,2,1,0] ⟨oi Z3,s4⟩ J J)
  refine rc T 2 (am (_,_,_) [0,2,0,2,1,0] ⟨oi Z3,s4⟩ J J)
 rintro _ ⟨x3,Dm,H7⟩ ⟨rfl,s7⟩ H;refine rc T 4 (bz J (Jm T J J J (rD s7 (j:=5) J)) (ro T 2 (cb J H (λH=>?_) (λH=>?_))))
 ·refine rc T 2 (lm T 3 J (sg T 2 J (ro T 5 ?_)))
  cases H;refine bC (pb T J (.cN (j:=2) [(ii w),(ii h),(ll a5 v2 n5)] J J J J J J J (.tmp J .nil)) [4,5,1,0] ⟨(_,_),a5,n5,H5,.nilIface,[],s5,tU,J,J⟩ J J)
 refine rc T 7 (lf T 1 J (ro T 1 (bz J (R5 (vs:=[(0,(ii v1.2.2.bc)),(1,(ii 3)),(2,Dm)]) T [(0,[(ii v1.2.2.bc)]),(1,[(ii 3)]),(2,[Dm])] J J J J J (by simp only[List.map,RH s7];rfl) J) ?_)))
 refine nc T J (λfR=>ro T 7 (lg T J (rM (j:=0) J hG (g:=6) (by decide)) (k [] J JJ H (vc.c x3 (Er.eB 6) _ _ · (dI hG (j:=0) J) (rD s7 (j:=5) J) Jb) (λv7 H=>ro T 2 (cb J H (λH=>?_) (λH=>?_))))))
 ·refine rc T 4 (sg T 6 J (ro T 6 (gw [6,5] J (bz J (hZ T J J J J) (sg T 2 J (ro T 2 (ke [6,7] [0,0,0,2] J J (rx T 2 ?_))))))))
  cases H;refine bC (pb T J (.cN (j:=2) [(ii 0),(ii 0),nl] J J J J J J J (.tmp J .nil)) [4,3,1,0] ⟨(_,_),none,0,[],(.iface 343 (pp fR)),(List.flatten [(cl fR 346 [(ii v1.2.2.bc),(ii 2),Dm]),H7]),aj.nil,(p7 s7),J,J⟩ J J)
 refine rc T 6 (gw [6,5] J (bz J (hZ T J J J J) (sg T 2 J (ro T 4 ?_))))
 cases H;refine bC (pb T J (.cN (j:=2) [(ii 0),(ii 0),nl] J J J J J J J (.tmp J .nil)) [6,5,1,0] ⟨(_,_),none,0,[],(.iface 343 (pp fR)),(List.flatten [(cl fR 346 [(ii v1.2.2.bc),(ii 3),Dm]),H7]),aj.nil,(p7 s7),J,J⟩ J J)
def qO.f (b:(List Int)) (w:Int) (h:Int):Option (aM×Int×Int):=if((((decide (w<1))||(decide (w>16)))||(decide (h<1)))||(decide (h>16)))=true then(some ((aM.mk 0 0 []),0,1)) else((vO.f (eV.mk b 0) w h).bind λv1=>(Er.Fz 343 v1.2.1).bind λv2=>du v2 (some (v1.1,v1.2.2.bc,0)) (λsa=>some ((aM.mk 0 0 []),0,sa.2.1)))
def qO.R (el:Nat->Addr) (r:(aM×Int×Int)):bm:=λu G=> ∃a0 n0 H0,aj (Fl.int .u8) 5 r.1.C a0 n0 H0/\u=(.tuple #[(.agg #[(ii r.1.W),(ii r.1.H),(ll a0 r.1.C n0)]),(ii r.2.1),(ii r.2.2)])/\G=[H0]
theorem qO.c (H:qO.f b w h=some r) (hG:fU 414 fh il el F) (ic:aU (Fl.int .u8) b j7 F) (gy:List.length b<=jU):
 QR 192 [(ll j7 b jU),(ii w),(ii h)] [] [] F (qO.R el r):=by
 unfold qO.f at H;refine aG Tryz.func192 J J (λW=>rc T 2 (nc T J (λb1=>ro T 10 (go T [3,4,5] 14 [0,1,2,6] 17 J J J J J J J (ro T 1 (go T [7,8,9] 18 [0,1,2,6] 21 J J J J J J J (ro T 1 (go T [11,12,13] 22 [0,1,2,6] 25 J J J J J J J (ro T 2 (cb J H (λH=>?_) (λH=>?_)))))))))))
 ·refine rc T 3 (sg T 1 J (ro T 6 ?_))
  cases H;refine bC (pb T J (.cN (j:=1) [(ii 0),(ii 0),nl] J J J J J J J (.tmp J (.tmp J .nil))) [2,0] ⟨(_,_),none,0,[],aj.nil,J,J⟩ J J)
 refine rc T 6 (nc T J (λb3=>ro T 8 (kr (vO.R el b3 (ll j7 b jU)) [] [2] J adf H (vO.c (ag:=(eV.mk b 0)) · (dI hG (j:=0) J) (rO ic 0) gy) (λv1 H=>?_))));rintro _ _ ⟨a4,n4,H4,v5,H5,s4,s5,rfl,rfl⟩;refine fz J (ro T 3 (sg T 1 J (ro T 2 (ks [6,9,10] J (rx T 4 (nc T J (λb6=>sg T 5 J (ro T 5 (bz J (hZ T J J J J) ?_)))))))));obtain⟨v2,V3,H⟩:=gx H;rcases v2 with _ |sa
 ·replace H:=fi J H;obtain⟨MC,Ms⟩:=YK V3 s5;subst MC;subst Ms;refine aZ (uT (As:=[(cl b6 343 [(.pointer none)])]) (R:=[F,(cl b1 139 [(ii v1.1.W),(ii v1.1.H),(ll a4 v1.1.C n4)]),H4,[],(cl b3 340 [(ll j7 b jU),(ii v1.2.2.bc)])]) (B:=λ_=>[(cl b6 343 [(.pointer none)])]) [5] J J J J JK J J (Mz.n _ (dI hG (j:=0) J)) (λ_=>ro T 2 (eY J (rc T 3 (ke [6,9] [0,0,0,1] J J (fz J (rz [] mix (bM bL) (λhg pf=>av 0 sz hg pf J (gA T 1 J J J J J J J) (ha T 4 [1,2,3] sz hg pf J (av 4 sz hg pf J (aw T J J J J (aI (j:=3) J J)) (ao 5 (sf T 1 J (an sz (ha T 0 [6,7] sz hg pf J (ae (rx T 2 ?_))))))))))))))))
  cases H;exact pb T J (.cN (j:=1) [(ii v1.1.W),(ii v1.1.H),(ll a4 v1.1.C n4)] J J J J J J J (.tmp J (.tmp J .nil))) [2,0] ⟨(_,_),a4,n4,H4,s4,J,J⟩ J J
 replace H:=fj J H;obtain⟨b7,v8_,Ya,H8,MC,Ms,s8⟩:=YL V3 s5;subst MC;subst Ms;refine I3 (j:=3) J (aZ (uT (As:=[(cl b6 343 [(.pointer none)])]) (R:=[F,(cl b1 139 [(ii v1.1.W),(ii v1.1.H),(ll a4 v1.1.C n4)]),H4,[(b7,Obj.cells #[(ii sa.1),(ii sa.2.1),v8_] Ya (0,0))],(cl b3 340 [(ll j7 b jU),(ii v1.2.2.bc)]),H8]) (B:=λ_=>[(cl b6 343 [(pp b7)])]) [5] J J J J JK J J (Mz.s _ _ (dI hG (j:=0) J)) (λ_=>ro T 2 (ov J (rc T 1 (ke [6,11] [0,0,0,0,1,1] J J (fz J (rg [] [0,1,1,1,1] mix (bM bL) (λhg pf=>ha T 7 [0] (so [0,1,1,1,1]) hg pf J (av 1 (so [0,1,1,1,1]) hg pf J (aw T J J J J (aI (j:=4) J J)) (ha T 4 [2,3] (so [0,1,1,1,1]) hg pf J (av 4 (so [0,1,1,1,1]) hg pf J (aw T J J J J (aI (j:=2) J J)) (ao 5 (sf T 1 J (an (so [0,1,1,1,1]) (ha T 1 [6] (so [0,1,1,1,1]) hg pf J (ha T 0 [7] (so [0,1,1,1,1]) hg pf J (ae (rx T 3 ?_)))))))))))))))))))
 cases H;refine bC (pb T J (.cN (j:=1) [(ii 0),(ii 0),nl] J J J J J J J (.tmp J (.tmp J .nil))) [6,0] ⟨(_,_),none,0,[],aj.nil,J,J⟩ J J)
end
noncomputable section
def BO.f (w:Int) (h:Int):Option Int:=(qu.f w h).bind λv1=>some (aa (v1.1*v1.2))
theorem BO.c (H:BO.f w h=some r):
 QU 191 [(ii w),(ii h)] [] F (ii r):=by
 unfold BO.f at H;refine aG Tryz.func191 J J (λW=>rc T 9 (k [] J Gd H (qu.c ·) (λv1 H=>ro T 16 ?_)))
 cases H;exact p0 T J [0] J
def ox.l0:Nat->aM->aM->Int->List Int->Int->Option (List Int)
 |0,_,_,_,_,_=>none
 |k6+1,m,t,v1,x4,x5=>if x5<t.H then(if(0<=(aa (v1+(aa (x5*m.W))))/\(aa (v1+(aa (x5*m.W))))<=(List.length x4:Int)/\(List.length x4:Int)<=(List.length x4:Int)) then(if(0<=(aa (x5*t.W))/\(aa (x5*t.W))<=(aa ((aa (x5+1))*t.W))/\(aa ((aa (x5+1))*t.W))<=(List.length t.C:Int)) then(ox.l0 k6 m t v1 (cg x4 (Int.toNat (aa (v1+(aa (x5*m.W))))) (min (List.length (aB t.C (aa (x5*t.W)) (aa ((aa (x5+1))*t.W)))) (List.length (aB x4 (aa (v1+(aa (x5*m.W)))) (List.length x4:Int)))) (aB t.C (aa (x5*t.W)) (aa ((aa (x5+1))*t.W)))) (aa (x5+1))) else none) else none) else(some x4)
def ox.f (m:aM) (bG:Int) (t:aM):Option (List Int):=(tJ.f m.W m.H bG 0).bind λv1=>ox.l0 fuel m t v1 m.C 0
def ox.R (ajo:Option Addr) (ajv:Nat) (ajt:Nat) (r:(List Int)):bm:=λu G=> ∃(H0:Hp),aj (Fl.int .u8) 5 r ajo ajv H0/\List.length r=ajt/\u=(.tuple #[])/\G=[H0]
theorem ox.c (H:ox.f m bG t=some r) (ah6:aj (Fl.int .u8) 5 m.C oX oG PZ) (dS:aU (Fl.int .u8) t.C iz F) (fo:List.length t.C<=iC):
 QR 193 [(.agg #[(ii m.W),(ii m.H),(ll oX m.C oG)]),(ii bG),(.agg #[(ii t.W),(ii t.H),(ll iz t.C iC)])] [PZ] [] F (ox.R oX oG (List.length m.C) r):=by
 unfold ox.f at H;refine aG Tryz.func193 J J (λW=>rc T 2 (nc T J (λb2=>nc T J (λb3=>ro T 5 (lf T 2 J (ro T 1 (lf T 2 J (ro T 1 (k [] J JA H (tJ.c ·) (λv1 H=>ro T 6 (lf T 3 J (ro T 4 (lq [3,5,6,15] [1,2] (λ(⟨k6,x4,x5,H5⟩:Nat×List Int×Int×Hp)=>(ox.l0 k6 m t v1 x4 x5=some r/\aj (Fl.int .u8) 5 x4 oX oG H5/\List.length x4=List.length m.C,[(16,(ii x5))],[(cl b2 30 [(ii m.W),(ii m.H),(ll oX x4 oG)]),H5])) J J (fuel,m.C,0,PZ) [1,2,1,0] ⟨H,ah6,J⟩ J J ?_)))))))))))));rintro k6 ⟨x4,x5,H5⟩ ⟨Z2,s5,l5⟩;rw[ox.l0] at Z2;refine rc T 6 (cd J Z2 (λZ2=>?_) (λZ2=>?_))
 ·refine rc T 10 (fz J (rz [21] mix (bM bL) (λhg pf=>ha T 21 [0] sz hg pf J (av 1 sz hg pf J (aw T J J J J (aI (j:=2) J J)) (ha T 17 [2,3,4] sz hg pf J (av 5 sz hg pf J (aw T J J J J (aI (j:=2) J J)) (ha T 14 [6,7] sz hg pf J ?_)))))));obtain⟨c4,Z2⟩:=aA Z2;refine av 8 sz hg pf J (kF T J J J J J J c4 s5.bW) (ha T 12 [9] sz hg pf J (av 10 sz hg pf J (aw T J J J J (aI (j:=1) J J)) (ha T 9 [11,12] sz hg pf J (av 13 sz hg pf J (aw T J J J J (aI (j:=1) J J)) (ha T 4 [14,15,16,17] sz hg pf J (av 18 sz hg pf J (aw T J J J J (aI (j:=1) J J)) (ha T 2 [19] sz hg pf J ?_)))))));obtain⟨c5,Z2⟩:=aA Z2;refine av 20 sz hg pf J (kF T J J J J J J c5 fo) (ao 21 ?_);have L6:(Int.toNat (aa (v1+(aa (x5*m.W)))))+(List.length (aB x4 (aa (v1+(aa (x5*m.W)))) (List.length x4:Int)))<=List.length x4:=(HX c4);refine BN (k:=(Fl.int .u8)) (xs:=x4) (ys:=(aB t.C (aa (x5*t.W)) (aa ((aa (x5+1))*t.W)))) (lo:=(Int.toNat (aa (v1+(aa (x5*m.W)))))) (g:=3) T J J J J J J J J s5 (ng (rO dS 0) c5 fo) (.inr J) L6 (λH6 s6=>?_);have V7:(0<=(aa (v1+(aa (x5*m.W))))/\(aa (v1+(aa (x5*m.W))))<=(List.length x4:Int)/\(List.length x4:Int)<=(List.length (cg x4 (Int.toNat (aa (v1+(aa (x5*m.W))))) (min (List.length (aB t.C (aa (x5*t.W)) (aa ((aa (x5+1))*t.W)))) (List.length (aB x4 (aa (v1+(aa (x5*m.W)))) (List.length x4:Int)))) (aB t.C (aa (x5*t.W)) (aa ((aa (x5+1))*t.W)))):Int)):=by simp only[lZ L6];exact c4
  refine kg [3,5,6,7,15,16,19,21,22,23,24,25,26,28,29,30,31,32,33,34,35,36,37,38,39,40] [0,0,1] [0,0,1,0] [(20,(ll oX (cg x4 (Int.toNat (aa (v1+(aa (x5*m.W))))) (min (List.length (aB t.C (aa (x5*t.W)) (aa ((aa (x5+1))*t.W)))) (List.length (aB x4 (aa (v1+(aa (x5*m.W)))) (List.length x4:Int)))) (aB t.C (aa (x5*t.W)) (aa ((aa (x5+1))*t.W)))) oG)),(27,(ll (gi oX oG (Int.toNat (aa (v1+(aa (x5*m.W))))) 1) (aB (cg x4 (Int.toNat (aa (v1+(aa (x5*m.W))))) (min (List.length (aB t.C (aa (x5*t.W)) (aa ((aa (x5+1))*t.W)))) (List.length (aB x4 (aa (v1+(aa (x5*m.W)))) (List.length x4:Int)))) (aB t.C (aa (x5*t.W)) (aa ((aa (x5+1))*t.W)))) (aa (v1+(aa (x5*m.W)))) (List.length x4:Int)) (oG-Int.toNat (aa (v1+(aa (x5*m.W)))))))] [(cl b2 30 [(ii m.W),(ii m.H),(ll oX (cg x4 (Int.toNat (aa (v1+(aa (x5*m.W))))) (min (List.length (aB t.C (aa (x5*t.W)) (aa ((aa (x5+1))*t.W)))) (List.length (aB x4 (aa (v1+(aa (x5*m.W)))) (List.length x4:Int)))) (aB t.C (aa (x5*t.W)) (aa ((aa (x5+1))*t.W)))) oG)])] J J ⟨(by first |rfl |(simp only[ll,lZ L6];rfl)),(by simp only[ll];rw[iP V7,<-iP c4];rfl),trivial⟩ (by first |rfl |(simp only[ll,lZ L6];rfl)) (an sl (ae (rx T 7 ?_)))
  exact ar (_,_,_) [0,0,1,0] ⟨Z2,s6,(Eq.trans (lZ L6) l5)⟩ J J
 refine rc T 4 (jf ?_)
 cases Z2;exact p1 T J [3,0] ⟨H5,s5,l5,J,J⟩ J
def o0.l0:Nat->(List Int)->Int->List Int->List Int->Int->Option (aM×Er)
 |0,_,_,_,_,_=>none
 |k9+1,b,v2,x6,x7,x8=>if x8<v2 then((rf.f (aa (BitVec.toNat (BitVec.ofInt (IntKind.bits .i64) (aa (rd b 0))|||BitVec.ofInt (IntKind.bits .i64) (aa ((aa (rd b 1))*2^8))))) (aa (BitVec.toNat (BitVec.ofInt (IntKind.bits .i64) (aa (rd b 2))|||BitVec.ofInt (IntKind.bits .i64) (aa ((aa (rd b 3))*2^8))))) x8).bind λv10=>(qO.f x6 v10.1 v10.2).bind λv11=>if(v11.2.2 !=0)=true then(some ((aM.mk 0 0 []),(Er.wrap 301 [x8] (Er.num 243 v11.2.2)))) else((ox.f (aM.mk (aa (BitVec.toNat (BitVec.ofInt (IntKind.bits .i64) (aa (rd b 0))|||BitVec.ofInt (IntKind.bits .i64) (aa ((aa (rd b 1))*2^8))))) (aa (BitVec.toNat (BitVec.ofInt (IntKind.bits .i64) (aa (rd b 2))|||BitVec.ofInt (IntKind.bits .i64) (aa ((aa (rd b 3))*2^8))))) x7) x8 v11.1).bind λv12=>if(0<=v11.2.1/\v11.2.1<=(List.length x6:Int)/\(List.length x6:Int)<=(List.length x6:Int)) then(o0.l0 k9 b v2 (aB x6 v11.2.1 (List.length x6:Int)) v12 (aa (x8+1))) else none)) else(if(List.length x6:Int)>0 then(some ((aM.mk 0 0 []),(Er.num 243 3))) else(some ((aM.mk (aa (BitVec.toNat (BitVec.ofInt (IntKind.bits .i64) (aa (rd b 0))|||BitVec.ofInt (IntKind.bits .i64) (aa ((aa (rd b 1))*2^8))))) (aa (BitVec.toNat (BitVec.ofInt (IntKind.bits .i64) (aa (rd b 2))|||BitVec.ofInt (IntKind.bits .i64) (aa ((aa (rd b 3))*2^8))))) x7),Er.nil)))
def o0.f (b:(List Int)):Option (aM×Er):=if(List.length b:Int)<4 then(some ((aM.mk 0 0 []),(Er.num 243 2))) else(if(0<=(0:Int)/\(0:Int)<(List.length b:Int)) then(if(0<=(1:Int)/\(1:Int)<(List.length b:Int)) then(if(0<=(2:Int)/\(2:Int)<(List.length b:Int)) then(if(0<=(3:Int)/\(3:Int)<(List.length b:Int)) then((oc.f (aa (BitVec.toNat (BitVec.ofInt (IntKind.bits .i64) (aa (rd b 0))|||BitVec.ofInt (IntKind.bits .i64) (aa ((aa (rd b 1))*2^8))))) (aa (BitVec.toNat (BitVec.ofInt (IntKind.bits .i64) (aa (rd b 2))|||BitVec.ofInt (IntKind.bits .i64) (aa ((aa (rd b 3))*2^8)))))).bind λv1=>if(!v1)=true then(some ((aM.mk 0 0 []),(Er.num 243 3))) else(if(0<=(4:Int)/\(4:Int)<=(List.length b:Int)/\(List.length b:Int)<=(List.length b:Int)) then(if(0<=(aa ((aa (BitVec.toNat (BitVec.ofInt (IntKind.bits .i64) (aa (rd b 0))|||BitVec.ofInt (IntKind.bits .i64) (aa ((aa (rd b 1))*2^8)))))*(aa (BitVec.toNat (BitVec.ofInt (IntKind.bits .i64) (aa (rd b 2))|||BitVec.ofInt (IntKind.bits .i64) (aa ((aa (rd b 3))*2^8)))))))/\(aa ((aa (BitVec.toNat (BitVec.ofInt (IntKind.bits .i64) (aa (rd b 0))|||BitVec.ofInt (IntKind.bits .i64) (aa ((aa (rd b 1))*2^8)))))*(aa (BitVec.toNat (BitVec.ofInt (IntKind.bits .i64) (aa (rd b 2))|||BitVec.ofInt (IntKind.bits .i64) (aa ((aa (rd b 3))*2^8)))))))<=1099511627776) then((BO.f (aa (BitVec.toNat (BitVec.ofInt (IntKind.bits .i64) (aa (rd b 0))|||BitVec.ofInt (IntKind.bits .i64) (aa ((aa (rd b 1))*2^8))))) (aa (BitVec.toNat (BitVec.ofInt (IntKind.bits .i64) (aa (rd b 2))|||BitVec.ofInt (IntKind.bits .i64) (aa ((aa (rd b 3))*2^8)))))).bind λv2=>o0.l0 fuel b v2 (aB b 4 (List.length b:Int)) (List.replicate (Int.toNat (aa ((aa (BitVec.toNat (BitVec.ofInt (IntKind.bits .i64) (aa (rd b 0))|||BitVec.ofInt (IntKind.bits .i64) (aa ((aa (rd b 1))*2^8)))))*(aa (BitVec.toNat (BitVec.ofInt (IntKind.bits .i64) (aa (rd b 2))|||BitVec.ofInt (IntKind.bits .i64) (aa ((aa (rd b 3))*2^8)))))))) (0:Int)) 0) else none) else none)) else none) else none) else none) else none)
def o0.R (el:Nat->Addr) (r:(aM×Er)):bm:=λu G=> ∃(a0 n0 H0:_) (v1:Value) (H1:Hp),aj (Fl.int .u8) 5 r.1.C a0 n0 H0/\gj 414 el r.2 v1 H1/\u=(.tuple #[(.agg #[(ii r.1.W),(ii r.1.H),(ll a0 r.1.C n0)]),v1])/\G=[H0,H1]
theorem o0.c (H:o0.f b=some r) (hG:fU 414 fh il el F) (ic:aU (Fl.int .u8) b j7 F) (gy:List.length b<=jU):
 QR 147 [(ll j7 b jU)] [] [] F (o0.R el r):=by
 unfold o0.f at H;refine aG Tryz.func147 J J (λW=>rc T 2 (nc T J (λb1=>ro T 11 (cd J H (λH=>?_) (λH=>?_)))))
 ·refine rc T 3 (bz J (hZ T J J J J) (sg T 1 J (ro T 5 ?_)))
  cases H;refine bC (bC (pb T J (.cN (j:=1) [(ii 0),(ii 0),nl] J J J J J J J (.tmp J .nil)) [2,2,0] ⟨(_,_),none,0,[],(.iface 243 (ii 2)),[],aj.nil,rC,J,J⟩ J J))
 refine rc T 3 (ks [0,2] J (fz J (rg [] [0,0] mix (bM bL) (λhg pf=>ha T 22 [0] sz hg pf J ?_))));obtain⟨c2,H⟩:=aA H;obtain⟨q4,o4,e4⟩:=ic.addr c2.1 c2.2;refine av 1 sz hg pf J (cT T J J J J J e4 c2.1 c2.2) (av 2 sz hg pf J (aw T J J J J (iY (k:=(Fl.int .u8)) (rO ic 0) e4 c2 0 J)) (ha T 18 [3,4] sz hg pf J ?_));obtain⟨c3,H⟩:=aA H;refine av 5 sz hg pf J (cT T J J J J J e4 c3.1 c3.2) (av 6 sz hg pf J (aw T J J J J (iY (k:=(Fl.int .u8)) (rO ic 0) e4 c3 0 J)) (ha T 12 [7,8,9,10] sz hg pf J ?_));obtain⟨c4,H⟩:=aA H;refine av 11 sz hg pf J (cT T J J J J J e4 c4.1 c4.2) (av 12 sz hg pf J (aw T J J J J (iY (k:=(Fl.int .u8)) (rO ic 0) e4 c4 0 J)) (ha T 8 [13,14] sz hg pf J ?_));obtain⟨c5,H⟩:=aA H;refine av 15 sz hg pf J (cT T J J J J J e4 c5.1 c5.2) (av 16 sz hg pf J (aw T J J J J (iY (k:=(Fl.int .u8)) (rO ic 0) e4 c5 0 J)) (ha T 2 [17,18,19,20] sz hg pf J (ao 21 (nw T J (λb5=>an (so [0,0]) (ao 22 (sf T 2 J (an (so [0,0]) (ae (rx T 5 (lf T 2 J (ro T 1 (lf T 2 J (k [] J B8 H (oc.c ·) (λv1 H=>ro T 3 (cb J H (λH=>?_) (λH=>?_)))))))))))))))))
 ·refine rc T 3 (bz J (hZ T J J J J) (sg T 1 J (ro T 5 ?_)))
  cases H;refine bC (bC (pb T J (.cN (j:=1) [(ii 0),(ii 0),nl] J J J J J J J (.tmp J .nil)) [3,3,0] ⟨(_,_),none,0,[],(.iface 243 (ii 3)),[],aj.nil,rC,J,J⟩ J J))
 refine rc T 5 ?_;obtain⟨c8,H⟩:=aA H;refine bz J (kF T J J J J J J c8 gy) (ro T 6 (lf T 2 J (ro T 1 (lf T 2 J (ro T 1 ?_)))));obtain⟨c9,H⟩:=aA H;refine aZ (yu (k:=(Fl.int .u8)) T (0:Int) J J J J J J J J c9 J (λa8 n8 H8 s8=>ro T 1 (sg T 2 J (ro T 6 (lf T 2 J (ro T 1 (lf T 2 J (k [] J acT H (BO.c ·) (λv2 H=>ro T 4 (lq [2,4,58] [0,0] (λ(⟨k9,x6,x7,x8,dA,n11,a12,n12,dz⟩:Nat×List Int×List Int×Int×Option Addr×Nat×Option Addr×Nat×Hp)=>(o0.l0 k9 b v2 x6 x7 x8=some r/\dx (Fl.int .u8) b j7 jU x6 dA n11/\List.length x6<=n11/\aj (Fl.int .u8) 5 x7 a12 n12 dz,[(0,(ll dA x6 n11)),(59,(ii x8))],[(cl b5 30 [(ii (aa (BitVec.toNat (BitVec.ofInt (IntKind.bits .i64) (aa (rd b 0))|||BitVec.ofInt (IntKind.bits .i64) (aa ((aa (rd b 1))*2^8)))))),(ii (aa (BitVec.toNat (BitVec.ofInt (IntKind.bits .i64) (aa (rd b 2))|||BitVec.ofInt (IntKind.bits .i64) (aa ((aa (rd b 3))*2^8)))))),(ll a12 x7 n12)]),dz])) J J (fuel,(aB b 4 (List.length b:Int)),(List.replicate (Int.toNat (aa ((aa (BitVec.toNat (BitVec.ofInt (IntKind.bits .i64) (aa (rd b 0))|||BitVec.ofInt (IntKind.bits .i64) (aa ((aa (rd b 1))*2^8)))))*(aa (BitVec.toNat (BitVec.ofInt (IntKind.bits .i64) (aa (rd b 2))|||BitVec.ofInt (IntKind.bits .i64) (aa ((aa (rd b 3))*2^8)))))))) (0:Int)),0,(gi j7 jU (Int.toNat 4) 1),(jU-Int.toNat 4),a8,n8,H8) [0,0,0,0] ⟨H,(dx.sub dx.self gy c8),(mL c8 gy),s8⟩ J J ?_))))))))))
 rintro k9 ⟨x6,x7,x8,dA,n11,a12,n12,dz⟩ ⟨aW,yx,Af,dL⟩;rw[o0.l0] at aW;refine rc T 6 (cd J aW (λaW=>?_) (λaW=>?_))
 ·refine rc T 13 (lf T 2 J (ro T 1 (lf T 2 J (ro T 1 (k [] J F_ aW (rf.c ·) (λv10 aW=>ro T 12 (kr (qO.R el) [] [] J acU aW (qO.c · (dI hG (j:=0) J) (oy yx (rO ic 0) gy) Af) (λv11 aW=>?_))))))));rintro _ _ ⟨dH,n13,eJ,dm,rfl,rfl⟩;refine fz J (ro T 4 (nc T J (λFG=>sg T 5 J (ro T 11 (cb J aW (λaW=>?_) (λaW=>?_))))))
  ·refine rc T 5 (bz J (hZ T J J J J) (ro T 1 (nc T J (λnt=>bC (gw [6,6] J (bz J (hZ T J J J J) (sg T 1 J (ro T 10 ?_))))))))
   cases aW;refine bC (pb T J (.cN (j:=1) [(ii 0),(ii 0),nl] J J J J J J J (.tmp J .nil)) [7,6,0] ⟨(_,_),none,0,[],(.iface 301 (pp nt)),(List.flatten [(cl nt 303 [(ii x8),(.iface 243 (ii v11.2.2))]),[]]),aj.nil,(p7 rC),J,J⟩ J J)
  refine rc T 4 (lm T 2 J (ro T 1 (lm T 5 J (kr (ox.R a12 n12 (List.length x7)) [] [3] J acV aW (ox.c (m:=(aM.mk (aa (BitVec.toNat (BitVec.ofInt (IntKind.bits .i64) (aa (rd b 0))|||BitVec.ofInt (IntKind.bits .i64) (aa ((aa (rd b 1))*2^8))))) (aa (BitVec.toNat (BitVec.ofInt (IntKind.bits .i64) (aa (rd b 2))|||BitVec.ofInt (IntKind.bits .i64) (aa ((aa (rd b 3))*2^8))))) x7)) · dL (oO dm 3) dm.bW) (λv12 aW=>?_)))))
  rintro _ _ ⟨kn,gp,l19,rfl,rfl⟩;refine fz J (kg [0,2,4,9,58,59] [0,0,3] [0,0,3,0] [] [(cl b5 30 [(ii (aa (BitVec.toNat (BitVec.ofInt (IntKind.bits .i64) (aa (rd b 0))|||BitVec.ofInt (IntKind.bits .i64) (aa ((aa (rd b 1))*2^8)))))),(ii (aa (BitVec.toNat (BitVec.ofInt (IntKind.bits .i64) (aa (rd b 2))|||BitVec.ofInt (IntKind.bits .i64) (aa ((aa (rd b 3))*2^8)))))),(ll a12 v12 n12)])] J J trivial (by first |rfl |(simp only[ll,l19];rfl)) (ro T 5 ?_))
  obtain⟨jD,aW⟩:=aA aW;refine bz J (kF T J J J J J J jD Af) (ro T 9 (ar (_,_,_,_,_,_,_,_) [0,0,1,0] ⟨aW,(dx.sub yx gy jD),(mL jD Af),gp⟩ J J))
 refine rc T 13 (cd J aW (λaW=>?_) (λaW=>?_))
 ·refine rc T 3 (bz J (hZ T J J J J) (sg T 1 J (ro T 5 ?_)))
  cases aW;refine bC (bC (pb T J (.cN (j:=1) [(ii 0),(ii 0),nl] J J J J J J J (.tmp J .nil)) [4,4,0] ⟨(_,_),none,0,[],(.iface 243 (ii 3)),[],aj.nil,rC,J,J⟩ J J))
 refine rc T 4 (lm T 2 J (sg T 1 J (ro T 4 ?_)))
 cases aW;refine bC (pb T J (.cN (j:=1) [(ii (aa (BitVec.toNat (BitVec.ofInt (IntKind.bits .i64) (aa (rd b 0))|||BitVec.ofInt (IntKind.bits .i64) (aa ((aa (rd b 1))*2^8)))))),(ii (aa (BitVec.toNat (BitVec.ofInt (IntKind.bits .i64) (aa (rd b 2))|||BitVec.ofInt (IntKind.bits .i64) (aa ((aa (rd b 3))*2^8)))))),(ll a12 x7 n12)] J J J J J J J (.tmp J .nil)) [3,3,0] ⟨(_,_),a12,n12,dz,.nilIface,[],dL,tU,J,J⟩ J J)
def wN.f (b:(List Int)):Option (aM×Int):=(o0.f b).bind λv1=>(yF.f v1.2).bind λv2=>if(Option.isSome v2)=true then(some ((aM.mk 0 0 []),(Option.getD v2 0))) else(some (v1.1,0))
def wN.R (el:Nat->Addr) (r:(aM×Int)):bm:=λu G=> ∃a0 n0 H0,aj (Fl.int .u8) 5 r.1.C a0 n0 H0/\u=(.tuple #[(.agg #[(ii r.1.W),(ii r.1.H),(ll a0 r.1.C n0)]),(ii r.2)])/\G=[H0]
theorem wN.c (H:wN.f b=some r) (hG:fU 414 fh il el F) (ic:aU (Fl.int .u8) b j7 F) (gy:List.length b<=jU):
 QR 114 [(ll j7 b jU)] [] [] F (wN.R el r):=by
 unfold wN.f at H;refine aG Tryz.func114 J J (λW=>rc T 2 (nc T J (λb1=>ro T 6 (kr (o0.R el) [] [] J acy H (o0.c · (dI hG (j:=0) J) (rO ic 0) gy) (λv1 H=>?_)))));rintro _ _ ⟨a2,n2,H2,v3,H3,s2,s3,rfl,rfl⟩;refine fz J (ro T 3 (nc T J (λb4=>sg T 4 J (ro T 6 (nc T J (λb5=>sg T 5 J (ro T 1 (ks [2,4,5,6] J (rx T 4 (bz J (hZ T J J J J) ?_))))))))));obtain⟨v2,V2,H⟩:=gx H;refine aZ (uT (As:=[(cl b5 243 [(ii 0)])]) (R:=[F,(cl b1 30 [(ii 0),(ii 0),nl]),H2,H3,(cl b4 30 [(ii v1.1.W),(ii v1.1.H),(ll a2 v1.1.C n2)])]) (B:=λ_=>[(cl b5 243 [(ii (Option.getD v2 0))])]) [5] J J J J JK J J (yF.c v1.2 v2 _ V2 (dI hG (j:=0) J) (rD s3 (j:=3) J)) (λ_=>ro T 2 (cb J H (λH=>?_) (λH=>?_))))
 ·refine rc T 1 (ke [2,6] [0,0,3] J J (fz J (rz [] mix (bM bL) (λhg pf=>ha T 3 [0] sz hg pf J (av 1 sz hg pf J (aw T J J J J (aI (j:=2) J J)) (ao 2 (sf T 1 J (an sz (ha T 0 [3] sz hg pf J (ae (rx T 1 (rc T 2 ?_))))))))))))
  cases H;refine bC (pb T J (.cN (j:=1) [(ii 0),(ii 0),nl] J J J J J J J (.tmp J .nil)) [3,0] ⟨(_,_),none,0,[],aj.nil,J,J⟩ J J)
 refine rc T 4 (lm T 4 J (sg T 1 J (ro T 4 ?_)))
 cases H;exact pb T J (.cN (j:=1) [(ii v1.1.W),(ii v1.1.H),(ll a2 v1.1.C n2)] J J J J J J J (.tmp J .nil)) [2,0] ⟨(_,_),a2,n2,H2,s2,J,J⟩ J J
def yw.f (m:aM):Option Bool:=((oc.f m.W m.H).bind λv3=>if v3=true then(if((List.length m.C:Int)==(aa (m.W*m.H)))=true then((wh.f m.C 0).bind λv4=>some (!v4)) else(some false)) else(some false)).bind λx1=>some x1
theorem yw.c (H:yw.f m=some r) (sJ:aU (Fl.int .u8) m.C oX F) (uZ:List.length m.C<=oG):
 QU 148 [(.agg #[(ii m.W),(ii m.H),(ll oX m.C oG)])] [] F (bb r):=by
 unfold yw.f at H;refine aG Tryz.func148 J J (λW=>rc T 2 (nc T J (λb1=>ro T 3 (mq H [] [0] (λz2 (x1:Bool)=>(x1=z2,[(2,(bb x1))],[])) J J (λz2 Z1 _=>?_) ?_))))
 ·refine rc T 2 (lf T 1 J (ro T 1 (lf T 1 J (k [] J B8 Z1 (oc.c ·) (λv3 Z1=>ro T 1 (ab 8 J Z1 (λZ1=>?_) (λZ1=>?_)))))))
  ·refine ro T 1 (lf T 1 J (ro T 2 (lf T 1 J (ro T 1 (lf T 1 J (ro T 4 (ab 19 J Z1 (λZ1=>?_) (λZ1=>?_))))))))
   ·refine ro T 1 (lf T 1 J (k [] J Nd Z1 (wh.c · (rO sJ 0) uZ) (λv4 Z1=>ro T 5 (am _ [0] (oi Z1) J J))))
   refine ro T 8 (am _ [0] (oi Z1) J J)
  refine ro T 19 (am _ [0] (oi Z1) J J)
 rintro _ x1 rfl H;refine rc T 1 ?_
 cases H;exact p0 T J [0] J
end
noncomputable section
def sH.f (cells:Int):Option (Option fJ):=if((decide (cells<1))||(decide (cells>1048576)))=true then(some none) else(if(0<=cells/\cells<=1099511627776) then(some (some (fJ.mk (List.replicate (Int.toNat cells) (0:Int)) 0))) else none)
def sH.R (r:(Option fJ)):bm:=λu G=> ∃(u0:Value) (G0:List Hp),XV r u0 G0/\u=u0/\G=G0
theorem sH.c (H:sH.f cells=some r):
 QR 153 [(ii cells)] [] [] F (sH.R r):=by
 unfold sH.f at H;refine aG Tryz.func153 J J (λW=>rc T 11 (go T [3,4,5] 5 [0] 8 J J J J J J J (ro T 2 (cb J H (λH=>?_) (λH=>?_)))))
 ·refine rc T 7 ?_
  cases H;exact p1 T J [0] ⟨_,_,⟨J,J⟩,J,J⟩ J
 refine rc T 5 ?_;obtain⟨c2,H⟩:=aA H;refine aZ (yu (k:=(Fl.int .u32)) T (0:Int) J J J J J J J J c2 J (λa1 n1 H1 s1=>ro T 1 (nc T J (λb2=>ro T 4 ?_))))
 cases H;exact p1 T J [2,1,0] ⟨_,_,⟨b2,a1,n1,H1,s1,J,J⟩,J,J⟩ J
def yH.f (ag:fJ) (cell:Int):Option Bool:=(if cell≥0 then(some (decide (cell<(List.length ag.words:Int)))) else(some false)).bind λx1=>some x1
theorem yH.c (H:yH.f ag cell=some r) (lP:aj (Fl.int .u32) 65 ag.words ot oH rn):
 QU 195 [(pp aY),(ii cell)] [(cl aY 221 [(ll ot ag.words oH),(ii ag.count)]),rn] F (bb r):=by
 unfold yH.f at H;refine aG Tryz.func195 J J (λW=>rc T 5 (mq H [] [2,0,0] (λz2 (x1:Bool)=>(x1=z2,[(4,(bb x1))],[])) J J (λz2 Z1 _=>?_) ?_))
 ·refine rc T 8 (ad 11 J Z1 (λZ1=>?_) (λZ1=>?_))
  ·refine ro T 4 (lf T 0 J (ro T 6 (am _ [2,0,0] (oi Z1) J J)))
  refine ro T 11 (am _ [2,0,0] (oi Z1) J J)
 rintro _ x1 rfl H;refine rc T 1 ?_
 cases H;exact p0 T J [1,1,0] J
def qD.f (ag:fJ) (cell:Int):Option Int:=(yH.f ag cell).bind λv1=>if(!v1)=true then(some (-1)) else(if(0<=cell/\cell<(List.length ag.words:Int)) then(some (aa ((aa (rd ag.words cell))-1))) else none)
theorem qD.c (H:qD.f ag cell=some r) (lP:aj (Fl.int .u32) 65 ag.words ot oH rn):
 QU 154 [(pp aY),(ii cell)] [(cl aY 221 [(ll ot ag.words oH),(ii ag.count)]),rn] F (ii r):=by
 unfold qD.f at H;refine aG Tryz.func154 J J (λW=>rc T 10 (k [0,0] J S7 H (yH.c · lP) (λv1 H=>ro T 3 (cb J H (λH=>?_) (λH=>?_)))))
 ·refine rc T 7 ?_
  cases H;exact p0 T J [0,0,0] J
 refine rc T 7 (lf T 0 J (ro T 1 ?_));obtain⟨c3,H⟩:=aA H;obtain⟨q3,o3,e3⟩:=lP.r.addr c3.1 c3.2;refine ix T J e3 c3 (le T 0 (oO lP 1) e3 c3 J J (ro T 6 ?_))
 cases H;exact p0 T J [0,0,0] J
def yG.f (ag:fJ) (cell:Int):Option Bool:=((yH.f ag cell).bind λv3=>if v3=true then(if(0<=cell/\cell<(List.length ag.words:Int)) then(some ((rd ag.words cell)==0)) else none) else(some false)).bind λx1=>some x1
theorem yG.c (H:yG.f ag cell=some r) (lP:aj (Fl.int .u32) 65 ag.words ot oH rn):
 QU 196 [(pp aY),(ii cell)] [(cl aY 221 [(ll ot ag.words oH),(ii ag.count)]),rn] F (bb r):=by
 unfold yG.f at H;refine aG Tryz.func196 J J (λW=>rc T 5 (mq H [] [2,0,0] (λz2 (x1:Bool)=>(x1=z2,[(4,(bb x1))],[])) J J (λz2 Z1 _=>?_) ?_))
 ·refine rc T 3 (k [0,0] J S7 Z1 (yH.c · lP) (λv3 Z1=>ro T 1 (ab 8 J Z1 (λZ1=>?_) (λZ1=>?_))))
  ·refine ro T 3 (lf T 0 J (ro T 1 ?_));obtain⟨c4,Z1⟩:=aA Z1;obtain⟨q3,o3,e3⟩:=lP.r.addr c4.1 c4.2;refine ix T J e3 c4 (le T 0 (oO lP 1) e3 c4 J J (ro T 5 (am _ [2,0,0] (oi Z1) J J)))
  refine ro T 12 (am _ [2,0,0] (oi Z1) J J)
 rintro _ x1 rfl H;refine rc T 1 ?_
 cases H;exact p0 T J [1,1,0] J
def sF.f (ag:fJ) (cell:Int) (p2:Int):Option (Bool×fJ):=(yG.f ag cell).bind λv1=>if(((!v1)||(decide (p2<0)))||(decide (p2≥4294967295)))=true then(some (false,ag)) else(if(0<=cell/\cell<(List.length ag.words:Int)) then(some (true,(fJ.mk (List.set ag.words (Int.toNat cell) (Ib (aa (p2+1)))) (aa (ag.count+1))))) else none)
def sF.R (aY:Nat) (r:(Bool×fJ)):bm:=λu G=> ∃a0 n0 H0,aj (Fl.int .u32) 65 r.2.words a0 n0 H0/\u=(bb r.1)/\G=[(cl aY 221 [(ll a0 r.2.words n0),(ii r.2.count)]),H0]
theorem sF.c (H:sF.f ag cell p2=some r) (lP:aj (Fl.int .u32) 65 ag.words ot oH rn):
 QR 157 [(pp aY),(ii cell),(ii p2)] [(cl aY 221 [(ll ot ag.words oH),(ii ag.count)]),rn] [] F (sF.R aY r):=by
 unfold sF.f at H;refine aG Tryz.func157 J J (λW=>rc T 10 (k [0,0] J S8 H (yG.c · lP) (λv1 H=>ro T 2 (go T [5,6,7] 11 [0,1,2] 14 J J J J J J J (ro T 1 (go T [9,10,11] 15 [0,1,2] 18 J J J J J J J (ro T 2 (cb J H (λH=>?_) (λH=>?_)))))))))
 ·refine rc T 7 ?_
  cases H;exact p1 T J [0,0,0] ⟨ot,oH,rn,lP,J,J⟩ J
 refine rc T 7 (lf T 0 J (ro T 4 ?_));obtain⟨c3,H⟩:=aA H;obtain⟨q3,o3,e3⟩:=lP.r.addr c3.1 c3.2;refine ix T J e3 c3 (aZ (kU (k:=(Fl.int .u32)) T 1 0 (Ib (aa (p2+1))) J J J J J J lP e3 c3 J J J (λH4 s4=>kg [0] [1,1] [1,1,0] [] [(cl aY 221 [(ll ot (List.set ag.words (Int.toNat cell) (Ib (aa (p2+1)))) oH),(ii ag.count)])] J J trivial dN (ro T 7 (lf T 2 J (ro T 3 (sg T 2 J (ro T 8 ?_))))))))
 cases H;exact p1 T J [2,0,0] ⟨ot,oH,H4,s4,J,J⟩ J
def sG.f (ag:fJ) (cell:Int):Option (Int×fJ):=(qD.f ag cell).bind λv1=>if(v1 !=(-1))=true then(if(0<=cell/\cell<(List.length ag.words:Int)) then(some (v1,(fJ.mk (List.set ag.words (Int.toNat cell) 0) (aa (ag.count-1))))) else none) else(some (v1,ag))
def sG.R (aY:Nat) (r:(Int×fJ)):bm:=λu G=> ∃a0 n0 H0,aj (Fl.int .u32) 65 r.2.words a0 n0 H0/\u=(ii r.1)/\G=[(cl aY 221 [(ll a0 r.2.words n0),(ii r.2.count)]),H0]
theorem sG.c (H:sG.f ag cell=some r) (lP:aj (Fl.int .u32) 65 ag.words ot oH rn):
 QR 160 [(pp aY),(ii cell)] [(cl aY 221 [(ll ot ag.words oH),(ii ag.count)]),rn] [] F (sG.R aY r):=by
 unfold sG.f at H;refine aG Tryz.func160 J J (λW=>rc T 9 (k [0,0] J F8 H (qD.c · lP) (λv1 H=>ro T 10 (cb J H (λH=>?_) (λH=>?_)))))
 ·refine rc T 5 (lf T 0 J (ro T 1 ?_));obtain⟨c3,H⟩:=aA H;obtain⟨q3,o3,e3⟩:=lP.r.addr c3.1 c3.2;refine ix T J e3 c3 (aZ (kU (k:=(Fl.int .u32)) T 1 0 0 J J J J J J lP e3 c3 J J J (λH4 s4=>kg [0,5] [1,1] [1,1,0] [] [(cl aY 221 [(ll ot (List.set ag.words (Int.toNat cell) 0) oH),(ii ag.count)])] J J trivial dN (ro T 6 (lf T 2 J (ro T 3 (sg T 2 J (ro T 9 ?_))))))))
  cases H;exact p1 T J [2,0,0] ⟨ot,oH,H4,s4,J,J⟩ J
 refine rc T 9 ?_
 cases H;exact p1 T J [0,0,0] ⟨ot,oH,rn,lP,J,J⟩ J
def wZ.f (ag:fJ) (ai:Int) (p2:Int):Option (Bool×fJ):=((qD.f ag ai).bind λv3=>if(v3==(-1))=true then(some true) else((yG.f ag p2).bind λv4=>some (!v4))).bind λx1=>if x1=true then(some (false,ag)) else((sG.f ag ai).bind λv5=>(sF.f v5.2 p2 v5.1).bind λv6=>some (v6.1,v6.2))
def wZ.R (aY:Nat) (r:(Bool×fJ)):bm:=λu G=> ∃a0 n0 H0,aj (Fl.int .u32) 65 r.2.words a0 n0 H0/\u=(bb r.1)/\G=[(cl aY 221 [(ll a0 r.2.words n0),(ii r.2.count)]),H0]
theorem wZ.c (H:wZ.f ag ai p2=some r) (lP:aj (Fl.int .u32) 65 ag.words ot oH rn):
 QR 167 [(pp aY),(ii ai),(ii p2)] [(cl aY 221 [(ll ot ag.words oH),(ii ag.count)]),rn] [] F (wZ.R aY r):=by
 unfold wZ.f at H;refine aG Tryz.func167 J J (λW=>rc T 6 (mq H [0,1,2] [2,0,0] (λz2 (x1:Bool)=>(x1=z2,[(16,(bb x1))],[])) J J (λz2 Z1 _=>?_) ?_))
 ·refine rc T 3 (k [0,0] J F8 Z1 (qD.c · lP) (λv3 Z1=>ro T 2 (ab 11 J Z1 (λZ1=>?_) (λZ1=>?_))))
  ·refine ro T 7 (am _ [2,0,0] (oi Z1) J J)
  refine ro T 2 (k [0,0] J S8 Z1 (yG.c · lP) (λv4 Z1=>ro T 4 (am _ [2,0,0] (oi Z1) J J)))
 rintro _ x1 rfl H;refine cb J H (λH=>?_) (λH=>?_)
 ·refine rc T 7 ?_
  cases H;exact p1 T J [1,1,0] ⟨ot,oH,rn,lP,J,J⟩ J
 refine rc T 8 (kr (sG.R aY) [] [1,1] J SZ H (sG.c · lP) (λv5 H=>?_));rintro _ _ ⟨a3,n3,H3,s3,rfl,rfl⟩;refine fz J (kr (sF.R aY) [] [1,1] J SY H (sF.c · s3) (λv6 H=>?_));rintro _ _ ⟨a4,n4,H4,s4,rfl,rfl⟩;refine fz J (ro T 4 ?_)
 cases H;exact p1 T J [1,1,0] ⟨a4,n4,H4,s4,J,J⟩ J
end
end Go.Proofs.YthodkonhneebbaaGreatDoor
