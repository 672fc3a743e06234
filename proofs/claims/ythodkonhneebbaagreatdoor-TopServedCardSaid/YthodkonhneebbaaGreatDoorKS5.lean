/- What the functions of some packages compute, each as a function of plain Lean, with its contract. No condition. -/
import Derived.Test.YthodkonhneebbaaGreatDoorKST
namespace Go.Proofs.YthodkonhneebbaaGreatDoor
open Go.Hx
open Int renaming tmod->fC,tdiv->di,fdiv->fQ,toNat->ax
open List renaming length->aa,set->aD,replicate->cy,length_set->nO
open BitVec renaming toNat->gf,ofInt->cj
open Nat renaming le_refl->jW
set_option maxRecDepth 100000
set_option linter.unusedSimpArgs false
set_option linter.unusedVariables false
set_option maxHeartbeats 4000000
set_option autoImplicit true
set_option relaxedAutoImplicit true
noncomputable section
def eW.f (n:Int) (lo:Int) (hi:Int):Option Int:=if(¬(af ((af (hi-lo))+1))=0) then(if(fC n (af ((af (hi-lo))+1)))<0 then(some (af (lo+(af ((af ((af ((fC n (af ((af (hi-lo))+1)))+hi))-lo))+1))))) else(some (af (lo+(fC n (af ((af (hi-lo))+1))))))) else none
theorem eW.c (H:eW.f n lo hi=some r):
 QU 12 [(ii n),(ii lo),(ii hi)] [] F (ii r):=by
 unfold eW.f at H;refine aF Tryz.func12 J J (λW=>rc T 12 ?_);obtain⟨c1,H⟩:=az H;refine bA J (va J J J c1) (ro T 10 (cd J H (λH=>?_) (λH=>?_)))
 ·refine rc T 19 ?_
  cases H;exact p0 T J [0] J
 refine rc T 11 ?_
 cases H;exact p0 T J [0] J
def wN.f (x:Int):Option Int:=if((fC x 8)==7)=true then(some 255) else(if x<160 then(some (bQ (1+(fC x 4)))) else(some x))
theorem wN.c (H:wN.f x=some r):
 QU 49 [(.int .u8 x)] [] F (.int .u8 r):=by
 unfold wN.f at H;refine aF Tryz.func49 J J (λW=>rc T 13 (cb J H (λH=>?_) (λH=>?_)))
 ·refine rc T 7 ?_
  cases H;exact p0 T J [0] J
 refine rc T 9 (cd J H (λH=>?_) (λH=>?_))
 ·refine rc T 10 ?_
  cases H;exact p0 T J [0] J
 refine rc T 9 ?_
 cases H;exact p0 T J [0] J
def lI.l0:Nat->(List Int)->Int->Int->List Int->Int->Option aG
 |0,_,_,_,_,_=>none
 |k7+1,p2,v1,v2,x5,x6=>if x6<(af (v1*v2)) then(if(aa p2:Int)>0 then(if(¬(aa p2:Int)=0) then(if(¬(aa p2:Int)=0) then(if(0<=(fC (af (x6+(af ((af (di x6 (aa p2:Int)))*5)))) (aa p2:Int))/\(fC (af (x6+(af ((af (di x6 (aa p2:Int)))*5)))) (aa p2:Int))<(aa p2:Int)) then((wN.f (rd p2 (fC (af (x6+(af ((af (di x6 (aa p2:Int)))*5)))) (aa p2:Int)))).bind λv8=>if(aa x5+1<=1099511627776) then(lI.l0 k7 p2 v1 v2 (x5++[v8]) (af (x6+1))) else none) else none) else none) else none) else((wN.f 1).bind λv9=>if(aa x5+1<=1099511627776) then(lI.l0 k7 p2 v1 v2 (x5++[v9]) (af (x6+1))) else none)) else(some (aG.mk v1 v2 x5))
def lI.f (w:Int) (h:Int) (p2:(List Int)):Option aG:=(eW.f w 1 40).bind λv1=>(eW.f h 1 40).bind λv2=>lI.l0 fuel p2 v1 v2 [] 0
def lI.R (r:aG):bj:=λu G=> ∃a0 n0 H0,aj (Fl.int .u8) 5 r.C a0 n0 H0/\u=(.agg #[(ii r.W),(ii r.H),(ll a0 r.C n0)])/\G=[H0]
theorem lI.c (H:lI.f w h p2=some r) (Gt:aO (Fl.int .u8) p2 L1 F) (Ms:aa p2<=OR):
 QR 48 [(ii w),(ii h),(ll L1 p2 OR)] [] [] F (lI.R r):=by
 unfold lI.f at H;refine aF Tryz.func48 J J (λW=>rc T 2 (nc T J (λb1=>ro T 5 (k [] J kT H (eW.c ·) (λv1 H=>ro T 1 (k [] J kT H (eW.c ·) (λv2 H=>ro T 1 (nc T J (λb2=>sg T 2 J (ro T 9 (bz (lq [2,6,7] [0,0] (λ(⟨k7,x5,x6,a4,n4,H4⟩:Nat×List Int×Int×Option Addr×Nat×Hp)=>(lI.l0 k7 p2 v1 v2 x5 x6=some r/\aj (Fl.int .u8) 5 x5 a4 n4 H4,[(8,(ii x6))],[(cl b2 30 [(ii v1),(ii v2),(ll a4 x5 n4)]),H4])) J J (fuel,[],0,none,0,[]) [0,0,0,0] ⟨H,aj.nil⟩ J J ?_))))))))))));rintro k7 ⟨x5,x6,a4,n4,H4⟩ ⟨Z3,s4⟩;rw[lI.l0] at Z3;refine rc T 5 (lf T 2 J (ro T 1 (lf T 2 J (ro T 4 (cd J Z3 (λZ3=>?_) (λZ3=>?_))))))
 ·refine rc T 23 (cd J Z3 (λZ3=>?_) (λZ3=>?_))
  ·refine rc T 5 ?_;obtain⟨c6,Z3⟩:=az Z3;refine bA J (u' J J J c6) (ro T 3 ?_);obtain⟨c7,Z3⟩:=az Z3;refine bA J (va J J J c7) ?_;obtain⟨c8,Z3⟩:=az Z3;obtain⟨q5,o5,e5⟩:=Gt.addr c8.1 c8.2;refine ix T J e5 c8 (le T 0 (rO Gt 0) e5 c8 J J (ro T 3 (fz J (rg [5,7] [0,0,0,0] mix (bH bG) (λhg pf=>ha T 7 [0] sz hg pf J (al T 1 2 sz hg pf J J J (ha T 5 [2] sz hg pf J (ao 3 (kh [] J NF Z3 (wN.c ·) (λv8 Z3=>an sz (ao 4 (cW (k:=(Fl.int .u8)) T [v8] J J J J J J J J J (λa6 H6 s6=>an (so [0,0,0,0]) (ao 5 ?_))))))))))))));obtain⟨iP,Z3⟩:=az Z3;refine dQ (k:=(Fl.int .u8)) (xs:=x5) T (g:=3) J J J J J J J J J J s4 (oO s6 4) iP J (λa7 n7 H7 s7=>an sl (hb T 6 sl hg pf J (ao 7 (sf T 2 J (an sl (ae (rx T 8 (ar (_,_,_,_,_) [0,0,0,0] ⟨Z3,s7⟩ J J))))))))
  refine rc T 2 (fz J (rg [5,7] [0,0,0,0] mix (bH bG) (λhg pf=>ha T 7 [0] sz hg pf J (al T 1 2 sz hg pf J J J (ha T 5 [2] sz hg pf J (ao 3 (kh [] J NF Z3 (wN.c ·) (λv9 Z3=>an sz (ao 4 (cW (k:=(Fl.int .u8)) T [v9] J J J J J J J J J (λa8 H8 s8=>an (so [0,0,0,0]) (ao 5 ?_))))))))))));obtain⟨gy,Z3⟩:=az Z3;refine dQ (k:=(Fl.int .u8)) (xs:=x5) T (g:=3) J J J J J J J J J J s4 (oO s8 4) gy J (λa9 n9 H9 s9=>an sl (hb T 6 sl hg pf J (ao 7 (sf T 2 J (an sl (ae (rx T 8 (ar (_,_,_,_,_) [0,0,0,0] ⟨Z3,s9⟩ J J))))))))
 refine rc T 7 (lm T 2 J (sg T 1 J (ro T 3 ?_)))
 cases Z3;exact pb T J (.cS (j:=1) [(ii v1),(ii v2),(ll a4 x5 n4)] J J J J J J J .nil) [3,0] ⟨(_,_),a4,n4,H4,s4,J,J⟩ J J
def mS.f (n:Int) (lo:Int) (hi:Int):Option Bool:=some ((decide (n≥lo))&&(decide (n<=hi)))
theorem mS.c (H:mS.f n lo hi=some r):
 QU 47 [(ii n),(ii lo),(ii hi)] [] F (bb r):=by
 unfold mS.f at H;refine aF Tryz.func47 J J (λW=>rc T 11 (ga T [4,5,6,7] 10 [] 14 J J J J J J J (ro T 4 ?_)))
 cases H;exact p0 T J [0] J
def wP.f (w:Int) (h:Int):Option Bool:=((mS.f w 1 1024).bind λv3=>if v3=true then((mS.f h 1 1024).bind λv4=>some v4) else(some false)).bind λx1=>some x1
theorem wP.c (H:wP.f w h=some r):
 QU 67 [(ii w),(ii h)] [] F (bb r):=by
 unfold wP.f at H;refine aF Tryz.func67 J J (λW=>rc T 5 (mq H [] [0] (λz2 (x1:Bool)=>(x1=z2,[(4,(bb x1))],[])) J J (λz2 Z1 _=>?_) ?_))
 ·refine rc T 2 (k [] J A_ Z1 (mS.c ·) (λv3 Z1=>ro T 1 (ab 7 J Z1 (λZ1=>?_) (λZ1=>?_))))
  ·refine ro T 1 (k [] J A_ Z1 (mS.c ·) (λv4 Z1=>ro T 4 (am _ [0] (oi Z1) J J)))
  refine ro T 6 (am _ [0] (oi Z1) J J)
 rintro _ x1 rfl H;refine rc T 1 ?_
 cases H;exact p0 T J [0] J
def wQ.f (w:Int) (h:Int):Option (Int×Int):=(wP.f w h).bind λv1=>if(!v1)=true then(some (0,0)) else(some ((af (di (af ((af (w+16))-1)) 16)),(af (di (af ((af (h+16))-1)) 16))))
theorem wQ.c (H:wQ.f w h=some r):
 QU 57 [(ii w),(ii h)] [] F (.tuple #[(ii r.1),(ii r.2)]):=by
 unfold wQ.f at H;refine aF Tryz.func57 J J (λW=>rc T 11 (k [] J NI H (wP.c ·) (λv1 H=>ro T 3 (cb J H (λH=>?_) (λH=>?_)))))
 ·refine rc T 8 ?_
  cases H;exact p0 T J [0] J
 refine rc T 17 ?_
 cases H;exact p0 T J [0] J
def wO.f (w:Int) (h:Int):Option Int:=(wQ.f w h).bind λv1=>some (af (v1.1*v1.2))
theorem wO.c (H:wO.f w h=some r):
 QU 25 [(ii w),(ii h)] [] F (ii r):=by
 unfold wO.f at H;refine aF Tryz.func25 J J (λW=>rc T 9 (k [] J NG H (wQ.c ·) (λv1 H=>ro T 16 ?_)))
 cases H;exact p0 T J [0] J
def wR.f (w:Int) (h:Int) (s:Int):Option (Int×Int):=(wO.f w h).bind λv1=>(mS.f s 0 (af (v1-1))).bind λv2=>if(!v2)=true then(some (0,0)) else((wQ.f w h).bind λv3=>if(¬v3.1=0) then(if(¬v3.1=0) then(some ((if(af (w-(af (16*(fC s v3.1)))))<16 then(af (w-(af (16*(fC s v3.1))))) else 16),(if(af (h-(af (16*(af (di s v3.1))))))<16 then(af (h-(af (16*(af (di s v3.1)))))) else 16))) else none) else none)
theorem wR.c (H:wR.f w h s=some r):
 QU 70 [(ii w),(ii h),(ii s)] [] F (.tuple #[(ii r.1),(ii r.2)]):=by
 unfold wR.f at H;refine aF Tryz.func70 J J (λW=>rc T 12 (k [] J Ny H (wO.c ·) (λv1 H=>ro T 1 (k [] J A_ H (mS.c ·) (λv2 H=>ro T 3 (cb J H (λH=>?_) (λH=>?_)))))))
 ·refine rc T 8 ?_
  cases H;exact p0 T J [0] J
 refine rc T 6 (k [] J NG H (wQ.c ·) (λv3 H=>ro T 8 (dw mix aB (au T J (au T J (au T J ?_))))));obtain⟨c5,H⟩:=az H;refine bf J J J (va J J J c5) ?_
 iterate 6 refine au T J ?_
 obtain⟨c6,H⟩:=az H;refine bf J J J (u' J J J c6) ?_
 iterate 5 refine au T J ?_
 refine cO (rx T 2 ?_)
 cases H;exact p0 T J [0] J
def z_.f (w:Int) (h:Int) (s:Int) (l:Int):Option Int:=(wR.f w h s).bind λv1=>(mS.f l 0 (af ((af (v1.1*v1.2))-1))).bind λv2=>if(!v2)=true then(some (-1)) else((wQ.f w h).bind λv3=>if(¬v3.1=0) then(if(¬v1.1=0) then(if(¬v3.1=0) then(if(¬v1.1=0) then(some (af ((af ((af ((af ((af (16*(af (di s v3.1))))+(af (di l v1.1))))*w))+(af (16*(fC s v3.1)))))+(fC l v1.1)))) else none) else none) else none) else none)
theorem z_.c (H:z_.f w h s l=some r):
 QU 71 [(ii w),(ii h),(ii s),(ii l)] [] F (ii r):=by
 unfold z_.f at H;refine aF Tryz.func71 J J (λW=>rc T 10 (k [] J NK H (wR.c ·) (λv1 H=>ro T 15 (k [] J A_ H (mS.c ·) (λv2 H=>ro T 3 (cb J H (λH=>?_) (λH=>?_)))))))
 ·refine rc T 7 ?_
  cases H;exact p0 T J [0] J
 refine rc T 6 (k [] J NG H (wQ.c ·) (λv3 H=>ro T 8 (dw mix aB (au T J (au T J ?_)))));obtain⟨c5,H⟩:=az H;refine bf J J J (u' J J J c5) (au T J (au T J (au T J ?_)));obtain⟨c6,H⟩:=az H;refine bf J J J (u' J J J c6) ?_
 iterate 5 refine au T J ?_
 obtain⟨c7,H⟩:=az H;refine bf J J J (va J J J c7) ?_
 iterate 4 refine au T J ?_
 obtain⟨c8,H⟩:=az H;refine bf J J J (va J J J c8) (au T J (au T J (cO (rx T 2 ?_))))
 cases H;exact p0 T J [0] J
def oq.l0:Nat->aG->Int->(Int×Int)->List Int->Int->Option aG
 |0,_,_,_,_,_=>none
 |k6+1,m,s,v1,x4,x5=>if x5<(af (v1.1*v1.2)) then((z_.f m.W m.H s x5).bind λv7=>if(0<=v7/\v7<(aa m.C:Int)) then(if(aa x4+1<=1099511627776) then(oq.l0 k6 m s v1 (x4++[(rd m.C v7)]) (af (x5+1))) else none) else none) else(some (aG.mk v1.1 v1.2 x4))
def oq.f (m:aG) (s:Int):Option aG:=(wR.f m.W m.H s).bind λv1=>oq.l0 fuel m s v1 [] 0
def oq.R (r:aG):bj:=λu G=> ∃a0 n0 H0,aj (Fl.int .u8) 5 r.C a0 n0 H0/\u=(.agg #[(ii r.W),(ii r.H),(ll a0 r.C n0)])/\G=[H0]
theorem oq.c (H:oq.f m s=some r) (hZ:aO (Fl.int .u8) m.C jY F) (nk:aa m.C<=jN):
 QR 76 [(.agg #[(ii m.W),(ii m.H),(ll jY m.C jN)]),(ii s)] [] [] F (oq.R r):=by
 unfold oq.f at H;refine aF Tryz.func76 J J (λW=>rc T 2 (nc T J (λb1=>nc T J (λb2=>ro T 5 (lf T 1 J (ro T 1 (lf T 1 J (ro T 1 (k [] J NK H (wR.c ·) (λv1 H=>ro T 12 (nc T J (λb3=>sg T 3 J (ro T 9 (bz (lq [1,2,4,5,6,7] [0,0,0] (λ(⟨k6,x4,x5,a5,n5,H5⟩:Nat×List Int×Int×Option Addr×Nat×Hp)=>(oq.l0 k6 m s v1 x4 x5=some r/\aj (Fl.int .u8) 5 x4 a5 n5 H5,[(8,(ii x5))],[(cl b3 139 [(ii v1.1),(ii v1.2),(ll a5 x4 n5)]),H5])) J J (fuel,[],0,none,0,[]) [0,0,0,0,0] ⟨H,aj.nil⟩ J J ?_)))))))))))))));rintro k6 ⟨x4,x5,a5,n5,H5⟩ ⟨Z2,s5⟩;rw[oq.l0] at Z2;refine rc T 10 (cd J Z2 (λZ2=>?_) (λZ2=>?_))
 ·refine rc T 4 (fz J (rg [14,16] [0,0,0,0,0] mix (bH bG) (λhg pf=>ha T 16 [0] sz hg pf J (al T 1 3 sz hg pf J J J (ha T 14 [2] sz hg pf J (al T 3 1 sz hg pf J J J (ha T 12 [4] sz hg pf J (al T 5 1 sz hg pf J J J (ha T 10 [6] sz hg pf J (al T 7 1 sz hg pf J J J (ha T 7 [8,9] sz hg pf J (ao 10 (kh [] J TB Z2 (z_.c ·) (λv7 Z2=>an sz ?_))))))))))))));obtain⟨c5,Z2⟩:=az Z2;obtain⟨q6,o6,e6⟩:=hZ.addr c5.1 c5.2;refine av 11 sz hg pf J (cu T J J J J J e6 c5.1 c5.2) (av 12 sz hg pf J (cw T J J J J (eH (k:=(Fl.int .u8)) (rO hZ 0) e6 c5 0 J)) (ao 13 (cW (k:=(Fl.int .u8)) T [(rd m.C v7)] J J J J J J J J J (λa7 H7 s7=>an (so [0,0,0,0,0]) (ao 14 ?_)))));obtain⟨c6,Z2⟩:=az Z2;refine dQ (k:=(Fl.int .u8)) (xs:=x4) T (g:=4) J J J J J J J J J J s5 (oO s7 5) c6 J (λa8 n8 H8 s8=>an sl (hb T 15 sl hg pf J (ao 16 (sf T 3 J (an sl (ae (rx T 8 (ar (_,_,_,_,_) [0,0,0,0,0] ⟨Z2,s8⟩ J J))))))))
 refine rc T 7 (lm T 3 J (sg T 2 J (ro T 3 ?_)))
 cases Z2;exact pb T J (.cS (j:=2) [(ii v1.1),(ii v1.2),(ll a5 x4 n5)] J J J J J J J .nil) [4,0] ⟨(_,_),a5,n5,H5,s5,J,J⟩ J J
def iF.l1:Nat->(List Int)->Int->Int->Option Int
 |0,_,_,_=>none
 |pL+1,ag,x4,bl=>(if(af (x4+bl))<(aa ag:Int) then(if(0<=(af (x4+bl))/\(af (x4+bl))<(aa ag:Int)) then(if(0<=x4/\x4<(aa ag:Int)) then(some ((rd ag (af (x4+bl)))==(rd ag x4))) else none) else none) else(some false)).bind λbh=>if bh=true then(iF.l1 pL ag x4 (af (bl+1))) else(some bl)
def iF.l0:Nat->(List Int)->List Int->Int->Option (List Int)
 |0,_,_,_=>none
 |k5+1,ag,x3,x4=>if x4<(aa ag:Int) then(((iF.l1 fuel ag x4 1).bind λx9=>if(0<=x4/\x4<(aa ag:Int)) then(if(aa x3+2<=1099511627776) then(some ((x3++[(bQ (af (x9-1))),(rd ag x4)]),(af (x4+x9)))) else none) else none).bind λ(x6,x7)=>iF.l0 k5 ag x6 x7) else(some x3)
def iF.f (ag:(List Int)):Option (List Int):=iF.l0 fuel ag [2] 0
def iF.R (r:(List Int)):bj:=λu G=> ∃a0 n0 H0,aj (Fl.int .u8) 5 r a0 n0 H0/\u=(ll a0 r n0)/\G=[H0]
theorem iF.c (H:iF.f ag=some r) (wg:aO (Fl.int .u8) ag FI F) (Re:aa ag<=HA):
 QR 104 [(ll FI ag HA)] [] [] F (iF.R r):=by
 unfold iF.f at H;refine aF Tryz.func104 J J (λW=>rc T 7 (aV (cW (k:=(Fl.int .u8)) T [2] J J J J J J J J J (λa1 H1 s1=>ro T 10 (lq [0] [0] (λ(⟨k5,x3,x4,a3,n3,H3⟩:Nat×List Int×Int×Option Addr×Nat×Hp)=>(iF.l0 k5 ag x3 x4=some r/\aj (Fl.int .u8) 5 x3 a3 n3 H3,[(3,(ll a3 x3 n3)),(4,(ii x4))],[H3])) J J (fuel,[2],0,a1,(aa [2]),H1) [0,0] ⟨H,s1⟩ J J ?_)))));rintro k5 ⟨x3,x4,a3,n3,H3⟩ ⟨Z1,s3⟩;rw[iF.l0] at Z1;refine rc T 9 (cd J Z1 (λZ1=>?_) (λZ1=>?_))
 ·refine rc T 2 (mn Z1 [0] [0] (λz8 (⟨x6,x7,a4,n4,H4⟩:List Int×Int×Option Addr×Nat×Hp)=>((x6,x7)=z8/\aj (Fl.int .u8) 5 x6 a4 n4 H4,[(3,(ll a4 x6 n4)),(4,(ii x7))],[H4])) J J (λz8 Z3 _=>?_) ?_)
  ·refine rc T 6 (mq Z3 [0,3,4] [0,0] (λmy (x9:Int)=>(x9=my,[(5,(ii x9))],[])) J J (λmy Z4 _=>?_) ?_)
   ·refine rc T 1 (lq [0,3,4] [0,0] (λ(⟨pL,bl⟩:Nat×Int)=>(iF.l1 pL ag x4 bl=some my,[(5,(ii bl))],[])) J J (fuel,1) [0,0] Z4 J J ?_);rintro pL bl Z5;replace Z5:iF.l1 (pL+1) ag x4 bl=some my:=Z5;rw[iF.l1] at Z5;refine rc T 1 (mq Z5 [0,3,4,5] [0,0] (λID (bh:Bool)=>(bh=ID,[(29,(bb bh))],[])) J J (λID Z6 _=>?_) ?_)
    ·refine dw mix aB ?_
     iterate 7 refine au T J ?_
     refine qd 17 J Z6 (λZ6=>?_) (λZ6=>?_)
     ·iterate 4 refine au T J ?_
      obtain⟨c8,Z6⟩:=az Z6;obtain⟨q5,o5,e5⟩:=wg.addr c8.1 c8.2;refine bf J J J (cu T J J J J J e5 c8.1 c8.2) (bf J J J (cw T J J J J (eH (k:=(Fl.int .u8)) (rO wg 0) e5 c8 0 J)) (au T J (au T J ?_)));obtain⟨c9,Z6⟩:=az Z6;refine bf J J J (cu T J J J J J e5 c9.1 c9.2) (bf J J J (cw T J J J J (eH (k:=(Fl.int .u8)) (rO wg 0) e5 c9 0 J)) (au T J (au T J (cO (rx T 1 (am _ [0,0] (oi Z6) J J))))))
     iterate 12 refine au T J ?_
     refine cO (rx T 1 (am _ [0,0] (oi Z6) J J))
    rintro _ bh rfl Z5;refine cb J Z5 (λZ5=>?_) (λZ5=>?_)
    ·refine rc T 10 (ar _ [0,0] Z5 J J)
    refine rc T 5 (am _ [0,0] (oi Z5) J J)
   rintro _ x9 rfl Z3;refine rc T 8 ?_;obtain⟨dK,Z3⟩:=az Z3;obtain⟨q6,o6,e6⟩:=wg.addr dK.1 dK.2;refine ix T J e6 dK (le T 0 (rO wg 0) e6 dK J J (aV (cW (k:=(Fl.int .u8)) T [(bQ (af (x9-1))),(rd ag x4)] J J J J J J J J J (λa7 H7 s7=>?_))));obtain⟨gy,Z3⟩:=az Z3;refine aV (dQ (k:=(Fl.int .u8)) (xs:=x3) T (g:=1) J J J J J J J J J J s3 (oO s7 2) gy J (λa8 n8 H8 s8=>ro T 11 (am (_,_,_,_,_) [0,0] ⟨oi Z3,s8⟩ J J)))
  rintro _ ⟨x6,x7,a4,n4,H4⟩ ⟨rfl,s4⟩ Z1;refine rx T 1 (ar (_,_,_,_,_) [0,0] ⟨Z1,s4⟩ J J)
 refine rc T 12 ?_
 cases Z1;exact p1 T J [1,0] ⟨a3,n3,H3,s3,J,J⟩ J
def yC.f (t:aG):Option (Int×(List Int)):=(iF.f t.C).bind λv1=>if((aa v1:Int)==3)=true then(if(0<=(0:Int)/\(0:Int)<(aa t.C:Int)) then(some (0,[0,(rd t.C 0)])) else none) else(if(aa v1:Int)<(af (1+(aa t.C:Int))) then(some (2,v1)) else(if(aa [1]+aa t.C<=1099511627776) then(some (1,([1]++t.C))) else none))
def yC.R (r:(Int×(List Int))):bj:=λu G=> ∃a0 n0 H0,aj (Fl.int .u8) 5 r.2 a0 n0 H0/\u=(.tuple #[(ii r.1),(ll a0 r.2 n0)])/\G=[H0]
theorem yC.c (H:yC.f t=some r) (d_:aO (Fl.int .u8) t.C iD F) (fy:aa t.C<=iE):
 QR 75 [(.agg #[(ii t.W),(ii t.H),(ll iD t.C iE)])] [] [] F (yC.R r):=by
 unfold yC.f at H;refine aF Tryz.func75 J J (λW=>rc T 2 (nc T J (λb1=>ro T 7 (lf T 1 J (kr iF.R [] [] J ab3 H (iF.c · (rO d_ 0) fy) (λv1 H=>?_))))));rintro _ _ ⟨a2,n2,H2,s2,rfl,rfl⟩;refine fz J (ro T 11 (cb J H (λH=>?_) (λH=>?_)))
 ·refine rc T 1 (ke [1] [0,0] J J (fz J (rg [] [0,0] mix (bH bG) (λhg pf=>ha T 6 [0] sz hg pf J (al T 1 1 sz hg pf J J J ?_)))));obtain⟨c3,H⟩:=az H;obtain⟨q3,o3,e3⟩:=d_.addr c3.1 c3.2;refine av 2 sz hg pf J (cu T J J J J J e3 c3.1 c3.2) (av 3 sz hg pf J (cw T J J J J (eH (k:=(Fl.int .u8)) (rO d_ 0) e3 c3 0 J)) (ha T 2 [5] sz hg pf J (ao 4 (cW (k:=(Fl.int .u8)) T [0,(rd t.C 0)] J J J J J J J J J (λa4 H4 s4=>an (so [0,0]) (ha T 0 [6] (so [0,0]) hg pf J (ae (rx T 3 ?_))))))))
  cases H;exact p1 T J [2,0] ⟨a4,(aa [0,(rd t.C 0)]),H4,s4,J,J⟩ J
 refine rc T 8 (lf T 1 J (ro T 5 (cd J H (λH=>?_) (λH=>?_))))
 ·refine rc T 9 ?_
  cases H;exact p1 T J [2,0] ⟨a2,n2,H2,s2,J,J⟩ J
 refine rc T 4 (aV (cW (k:=(Fl.int .u8)) T [1] J J J J J J J J J (λa5 H5 s5=>ro T 1 (lf T 1 J ?_))));obtain⟨c5,H⟩:=az H;refine aV (dQ (k:=(Fl.int .u8)) (xs:=[1]) T (g:=3) J J J J J J J J J J s5 (rO d_ 0) c5 J (λa6 n6 H6 s6=>ro T 3 (ke [2,3] [0,2] J J (rx T 2 ?_))))
 cases H;exact p1 T J [1,0] ⟨a6,n6,H6,s6,J,J⟩ J
def lJ.l0:Nat->aG->List Int->Int->Option (List Int)
 |0,_,_,_=>none
 |k5+1,m,x3,x4=>(wO.f m.W m.H).bind λv6=>if x4<v6 then((oq.f m x4).bind λv7=>(yC.f v7).bind λv8=>if(aa x3+aa v8.2<=1099511627776) then(lJ.l0 k5 m (x3++v8.2) (af (x4+1))) else none) else(some x3)
def lJ.f (m:aG):Option (List Int):=lJ.l0 fuel m [(bQ m.W),(bQ (fQ m.W (2^8))),(bQ m.H),(bQ (fQ m.H (2^8)))] 0
def lJ.R (r:(List Int)):bj:=λu G=> ∃a0 n0 H0,aj (Fl.int .u8) 5 r a0 n0 H0/\u=(ll a0 r n0)/\G=[H0]
theorem lJ.c (H:lJ.f m=some r) (hZ:aO (Fl.int .u8) m.C jY F) (nk:aa m.C<=jN):
 QR 45 [(.agg #[(ii m.W),(ii m.H),(ll jY m.C jN)])] [] [] F (lJ.R r):=by
 unfold lJ.f at H;refine aF Tryz.func45 J J (λW=>rc T 2 (nc T J (λb1=>ro T 6 (lf T 1 J (ro T 2 (lf T 1 J (ro T 3 (lf T 1 J (ro T 2 (lf T 1 J (ro T 2 (aV (cW (k:=(Fl.int .u8)) T [(bQ m.W),(bQ (fQ m.W (2^8))),(bQ m.H),(bQ (fQ m.H (2^8)))] J J J J J J J J J (λa2 H2 s2=>ro T 10 (lq [1] [0,0] (λ(⟨k5,x3,x4,a4,n4,H4⟩:Nat×List Int×Int×Option Addr×Nat×Hp)=>(lJ.l0 k5 m x3 x4=some r/\aj (Fl.int .u8) 5 x3 a4 n4 H4,[(3,(ll a4 x3 n4)),(4,(ii x4))],[H4])) J J (fuel,[(bQ m.W),(bQ (fQ m.W (2^8))),(bQ m.H),(bQ (fQ m.H (2^8)))],0,a2,(aa [(bQ m.W),(bQ (fQ m.W (2^8))),(bQ m.H),(bQ (fQ m.H (2^8)))]),H2) [0,0,0] ⟨H,s2⟩ J J ?_)))))))))))))));rintro k5 ⟨x3,x4,a4,n4,H4⟩ ⟨Z1,s4⟩;rw[lJ.l0] at Z1;refine rc T 5 (lf T 1 J (ro T 1 (lf T 1 J (k [] J Ny Z1 (wO.c ·) (λv6 Z1=>ro T 3 (cd J Z1 (λZ1=>?_) (λZ1=>?_)))))))
 ·refine rc T 6 (lm T 1 J (ro T 1 (kr oq.R [] [] J ad1 Z1 (oq.c · (rO hZ 0) nk) (λv7 Z1=>?_))));rintro _ _ ⟨a5,n5,H5,s5,rfl,rfl⟩;refine fz J (kr yC.R [] [] J ad0 Z1 (yC.c · (oO s5 3) s5.bZ) (λv8 Z1=>?_));rintro _ _ ⟨a6,n6,H6,s6,rfl,rfl⟩;refine fz J (ro T 10 ?_);obtain⟨c6,Z1⟩:=az Z1;refine aV (dQ (k:=(Fl.int .u8)) (xs:=x3) T (g:=2) J J J J J J J J J J s4 (oO s6 4) c6 J (λa7 n7 H7 s7=>ro T 10 (ar (_,_,_,_,_) [0,0,0] ⟨Z1,s7⟩ J J)))
 refine rc T 12 ?_
 cases Z1;exact p1 T J [2,0] ⟨a4,n4,H4,s4,J,J⟩ J
def qH.l0:Nat->(List Int)->Int->Option Bool
 |0,_,_=>none
 |k3+1,ag,x2=>if x2<(aa ag:Int) then(if(0<=x2/\x2<(aa ag:Int)) then(if((rd ag x2)==0)=true then(some false) else(qH.l0 k3 ag (af (x2+1)))) else none) else(some true)
def qH.f (ag:(List Int)):Option Bool:=qH.l0 fuel ag 0
theorem qH.c (H:qH.f ag=some r) (wg:aO (Fl.int .u8) ag FI F) (Re:aa ag<=HA):
 QU 73 [(ll FI ag HA)] [] F (bb r):=by
 unfold qH.f at H;refine aF Tryz.func73 J J (λW=>rc T 12 (lq [0] [0] (λ(⟨k3,x2⟩:Nat×Int)=>(qH.l0 k3 ag x2=some r,[(3,(ii x2))],[])) J J (fuel,0) [0] H J J ?_));rintro k3 x2 Z1;replace Z1:qH.l0 (k3+1) ag x2=some r:=Z1;rw[qH.l0] at Z1;refine rc T 9 (cd J Z1 (λZ1=>?_) (λZ1=>?_))
 ·refine rc T 8 ?_;obtain⟨c3,Z1⟩:=az Z1;obtain⟨q1,o1,e1⟩:=wg.addr c3.1 c3.2;refine ix T J e1 c3 (le T 0 (rO wg 0) e1 c3 J J (ro T 3 (cb J Z1 (λZ1=>?_) (λZ1=>?_))))
  ·refine rc T 11 ?_
   cases Z1;exact p0 T J [0] J
  refine rc T 9 (ar _ [0] Z1 J J)
 refine rc T 11 ?_
 cases Z1;exact p0 T J [0] J
def Dj.f (m:aG):Option Bool:=((wP.f m.W m.H).bind λv3=>if v3=true then(if((aa m.C:Int)==(af (m.W*m.H)))=true then((qH.f m.C).bind λv4=>some v4) else(some false)) else(some false)).bind λx1=>some x1
theorem Dj.c (H:Dj.f m=some r) (hZ:aO (Fl.int .u8) m.C jY F) (nk:aa m.C<=jN):
 QU 41 [(.agg #[(ii m.W),(ii m.H),(ll jY m.C jN)])] [] F (bb r):=by
 unfold Dj.f at H;refine aF Tryz.func41 J J (λW=>rc T 2 (nc T J (λb1=>ro T 3 (mq H [] [0] (λz2 (x1:Bool)=>(x1=z2,[(2,(bb x1))],[])) J J (λz2 Z1 _=>?_) ?_))))
 ·refine rc T 2 (lf T 1 J (ro T 1 (lf T 1 J (k [] J NI Z1 (wP.c ·) (λv3 Z1=>ro T 1 (ab 8 J Z1 (λZ1=>?_) (λZ1=>?_)))))))
  ·refine ro T 1 (lf T 1 J (ro T 2 (lf T 1 J (ro T 1 (lf T 1 J (ro T 4 (ab 19 J Z1 (λZ1=>?_) (λZ1=>?_))))))))
   ·refine ro T 1 (lf T 1 J (k [] J adZ Z1 (qH.c · (rO hZ 0) nk) (λv4 Z1=>ro T 4 (am _ [0] (oi Z1) J J))))
   refine ro T 7 (am _ [0] (oi Z1) J J)
  refine ro T 18 (am _ [0] (oi Z1) J J)
 rintro _ x1 rfl H;refine rc T 1 ?_
 cases H;exact p0 T J [0] J
def Aa.f (w:Int) (h:Int) (p2:Int):Option Bool:=((wP.f w h).bind λv3=>if v3=true then((mS.f p2 0 (af ((af (w*h))-1))).bind λv4=>some v4) else(some false)).bind λx1=>some x1
theorem Aa.c (H:Aa.f w h p2=some r):
 QU 36 [(ii w),(ii h),(ii p2)] [] F (bb r):=by
 unfold Aa.f at H;refine aF Tryz.func36 J J (λW=>rc T 5 (mq H [] [0] (λz2 (x1:Bool)=>(x1=z2,[(6,(bb x1))],[])) J J (λz2 Z1 _=>?_) ?_))
 ·refine rc T 3 (k [] J NI Z1 (wP.c ·) (λv3 Z1=>ro T 1 (ab 10 J Z1 (λZ1=>?_) (λZ1=>?_))))
  ·refine ro T 5 (k [] J A_ Z1 (mS.c ·) (λv4 Z1=>ro T 4 (am _ [0] (oi Z1) J J)))
  refine ro T 10 (am _ [0] (oi Z1) J J)
 rintro _ x1 rfl H;refine rc T 1 ?_
 cases H;exact p0 T J [0] J
def Ab.f (w:Int) (h:Int) (p2:Int) (side:Int):Option Int:=((Aa.f w h p2).bind λv3=>if(!v3)=true then(some true) else((mS.f side 0 4).bind λv4=>some (!v4))).bind λx1=>if x1=true then(some (-1)) else(if(¬w=0) then(if(¬w=0) then((if(side==0)=true then(some (af ((af (di p2 w))-1))) else(some (af (di p2 w)))).bind λx5=>(if(side==1)=true then(some (af ((fC p2 w)+1))) else(some (fC p2 w))).bind λx7=>(if(side==2)=true then(some (af (x5+1))) else(some x5)).bind λx9=>(if(side==3)=true then(some (af (x7-1))) else(some x7)).bind λa_=>((mS.f a_ 0 (af (w-1))).bind λdz=>if(!dz)=true then(some true) else((mS.f x9 0 (af (h-1))).bind λdZ=>some (!dZ))).bind λaP=>if aP=true then(some (-1)) else(some (af ((af (x9*w))+a_)))) else none) else none)
theorem Ab.c (H:Ab.f w h p2 side=some r):
 QU 19 [(ii w),(ii h),(ii p2),(ii side)] [] F (ii r):=by
 unfold Ab.f at H;refine aF Tryz.func19 J J (λW=>rc T 6 (mq H [0,1,2,3] [0] (λz2 (x1:Bool)=>(x1=z2,[(20,(bb x1))],[])) J J (λz2 Z1 _=>?_) ?_))
 ·refine rc T 4 (k [] J Tu Z1 (Aa.c ·) (λv3 Z1=>ro T 2 (ab 16 J Z1 (λZ1=>?_) (λZ1=>?_))))
  ·refine ro T 6 (am _ [0] (oi Z1) J J)
  refine ro T 1 (k [] J A_ Z1 (mS.c ·) (λv4 Z1=>ro T 4 (am _ [0] (oi Z1) J J)))
 rintro _ x1 rfl H;refine cb J H (λH=>?_) (λH=>?_)
 ·refine rc T 7 ?_
  cases H;exact p0 T J [0] J
 refine rc T 3 (dw mix aB (au T J (au T J ?_)));obtain⟨c6,H⟩:=az H;refine bf J J J (va J J J c6) (au T J (au T J ?_));obtain⟨c7,H⟩:=az H;refine bf J J J (u' J J J c7) (au T J (au T J (cO (rx T 1 (mq H [0,1,3,9] [0] (λz6 (x5:Int)=>(x5=z6,[(10,(ii x5))],[])) J J (λz6 Z8 _=>?_) ?_)))))
 ·refine rc T 6 (cb J Z8 (λZ8=>?_) (λZ8=>?_))
  ·refine rc T 6 (am _ [0] (oi Z8) J J)
  refine rc T 2 (am _ [0] (oi Z8) J J)
 rintro _ x5 rfl H;refine mq H [0,1,3,10] [0] (λz8 (x7:Int)=>(x7=z8,[(9,(ii x7))],[])) J J (λz8 i_ _=>?_) ?_
 ·refine rc T 6 (cb J i_ (λi_=>?_) (λi_=>?_))
  ·refine rc T 6 (am _ [0] (oi i_) J J)
  refine rc T 2 (am _ [0] (oi i_) J J)
 rintro _ x7 rfl H;refine mq H [0,1,3,9] [0] (λmy (x9:Int)=>(x9=my,[(10,(ii x9))],[])) J J (λmy ba _=>?_) ?_
 ·refine rc T 6 (cb J ba (λba=>?_) (λba=>?_))
  ·refine rc T 6 (am _ [0] (oi ba) J J)
  refine rc T 2 (am _ [0] (oi ba) J J)
 rintro _ x9 rfl H;refine mq H [0,1,10] [0] (λz12 (a_:Int)=>(a_=z12,[(9,(ii a_))],[])) J J (λz12 bY _=>?_) ?_
 ·refine rc T 6 (cb J bY (λbY=>?_) (λbY=>?_))
  ·refine rc T 6 (am _ [0] (oi bY) J J)
  refine rc T 2 (am _ [0] (oi bY) J J)
 rintro _ a_ rfl H;refine rc T 1 (mq H [0,9,10] [0] (λvG (aP:Bool)=>(aP=vG,[(54,(bb aP))],[])) J J (λvG eF _=>?_) ?_)
 ·refine rc T 4 (k [] J A_ eF (mS.c ·) (λdz eF=>ro T 2 (ab 48 J eF (λeF=>?_) (λeF=>?_))))
  ·refine ro T 8 (am _ [0] (oi eF) J J)
  refine ro T 3 (k [] J A_ eF (mS.c ·) (λdZ eF=>ro T 4 (am _ [0] (oi eF) J J)))
 rintro _ aP rfl H;refine cb J H (λH=>?_) (λH=>?_)
 ·refine rc T 7 ?_
  cases H;exact p0 T J [0] J
 refine rc T 13 ?_
 cases H;exact p0 T J [0] J
def oo.l0:Nat->(List Int)->(List Int)->Int->Option Bool
 |0,_,_,_=>none
 |k3+1,a,b,x2=>if x2<(aa a:Int) then(if(0<=x2/\x2<(aa a:Int)) then(if(0<=x2/\x2<(aa b:Int)) then(if((rd a x2)!=(rd b x2))=true then(some false) else(oo.l0 k3 a b (af (x2+1)))) else none) else none) else(some true)
def oo.f (a:(List Int)) (b:(List Int)):Option Bool:=if((aa a:Int)!=(aa b:Int))=true then(some false) else(oo.l0 fuel a b 0)
theorem oo.c (H:oo.f a b=some r) (zB:aO (Fl.int .i64) a B4 F) (Jk:aa a<=CY) (gM:aO (Fl.int .i64) b jG F) (gz:aa b<=jy):
 QU 69 [(ll B4 a CY),(ll jG b jy)] [] F (bb r):=by
 unfold oo.f at H;refine aF Tryz.func69 J J (λW=>rc T 15 (cb J H (λH=>?_) (λH=>?_)))
 ·refine rc T 7 ?_
  cases H;exact p0 T J [0] J
 refine rc T 9 (lq [0,1] [0] (λ(⟨k3,x2⟩:Nat×Int)=>(oo.l0 k3 a b x2=some r,[(5,(ii x2))],[])) J J (fuel,0) [0] H J J ?_);rintro k3 x2 Z2;replace Z2:oo.l0 (k3+1) a b x2=some r:=Z2;rw[oo.l0] at Z2;refine rc T 9 (cd J Z2 (λZ2=>?_) (λZ2=>?_))
 ·refine rc T 5 (dw mix aB (au T J (au T J ?_)));obtain⟨c4,Z2⟩:=az Z2;obtain⟨q1,o1,e1⟩:=zB.addr c4.1 c4.2;refine bf J J J (cu T J J J J J e1 c4.1 c4.2) (bf J J J (cw T J J J J (eH (k:=(Fl.int .i64)) (rO zB 0) e1 c4 0 J)) (au T J (au T J ?_)));obtain⟨c5,Z2⟩:=az Z2;obtain⟨q2,o2,e2⟩:=gM.addr c5.1 c5.2;refine bf J J J (cu T J J J J J e2 c5.1 c5.2) (bf J J J (cw T J J J J (eH (k:=(Fl.int .i64)) (rO gM 0) e2 c5 0 J)) (au T J (cO (rx T 1 (cb J Z2 (λZ2=>?_) (λZ2=>?_))))))
  ·refine rc T 11 ?_
   cases Z2;exact p0 T J [0] J
  refine rc T 9 (ar _ [0] Z2 J J)
 refine rc T 11 ?_
 cases Z2;exact p0 T J [0] J
end
noncomputable section
def Di.f (m:aG) (ai:Int):Option Bool:=(if ai≥0 then(if ai<(aa m.C:Int) then(if(0<=ai/\ai<(aa m.C:Int)) then(some ((rd m.C ai)!=255)) else none) else(some false)) else(some false)).bind λx1=>some x1
theorem Di.c (H:Di.f m ai=some r) (hZ:aO (Fl.int .u8) m.C jY F) (nk:aa m.C<=jN):
 QU 44 [(.agg #[(ii m.W),(ii m.H),(ll jY m.C jN)]),(ii ai)] [] F (bb r):=by
 unfold Di.f at H;refine aF Tryz.func44 J J (λW=>rc T 2 (nc T J (λb1=>ro T 3 (mq H [] [0] (λz2 (x1:Bool)=>(x1=z2,[(4,(bb x1))],[])) J J (λz2 Z1 _=>?_) ?_))))
 ·refine rc T 4 (ad 7 J Z1 (λZ1=>?_) (λZ1=>?_))
  ·refine ro T 2 (lf T 1 J (ro T 4 (ad 14 J Z1 (λZ1=>?_) (λZ1=>?_))))
   ·refine ro T 1 (lf T 1 J (ro T 1 ?_));obtain⟨c4,Z1⟩:=az Z1;obtain⟨q2,o2,e2⟩:=hZ.addr c4.1 c4.2;refine ix T J e2 c4 (le T 0 (rO hZ 0) e2 c4 J J (ro T 5 (am _ [0] (oi Z1) J J)))
   refine ro T 10 (am _ [0] (oi Z1) J J)
  refine ro T 17 (am _ [0] (oi Z1) J J)
 rintro _ x1 rfl H;refine rc T 1 ?_
 cases H;exact p0 T J [0] J
def eV.l3:Nat->aG->Int->List Int->Bool->Int->Option ((List Int)×Bool)
 |0,_,_,_,_,_=>none
 |G3+1,m,fb,iH,rU,nF=>(if nF<=3 then(if(0<=fb/\fb<(aa m.C:Int)) then(some ((rd m.C fb)!=255)) else none) else(some false)).bind λnG=>if nG=true then((Ab.f m.W m.H fb nF).bind λkj=>(if kj≥0 then(if(0<=kj/\kj<(aa m.C:Int)) then(if((rd m.C kj)!=255)=true then(if(0<=kj/\kj<(aa iH:Int)) then(if(rd iH kj)<1099511627776 then(if(0<=fb/\fb<(aa iH:Int)) then(some (decide ((af ((rd iH kj)+(af (rd m.C kj))))<(rd iH fb)))) else none) else(some false)) else none) else(some false)) else none) else(some false)).bind λIo=>if Io=true then(if(0<=kj/\kj<(aa iH:Int)) then(if(0<=kj/\kj<(aa m.C:Int)) then(if(0<=fb/\fb<(aa iH:Int)) then(eV.l3 G3 m fb (aD iH (ax fb) (af ((rd iH kj)+(af (rd m.C kj))))) true (af (nF+1))) else none) else none) else none) else(eV.l3 G3 m fb iH rU (af (nF+1)))) else(some (iH,rU))
def eV.l2:Nat->aG->List Int->Bool->Int->Option ((List Int)×Bool)
 |0,_,_,_,_=>none
 |KE+1,m,c_,dA,il=>if il<(af (2*(aa m.C:Int))) then(((if il≥(aa m.C:Int) then(some (af ((af ((af (2*(aa m.C:Int)))-1))-il))) else(some il)).bind λfb=>eV.l3 fuel m fb c_ dA 0).bind λ(bI,dL)=>eV.l2 KE m bI dL (af (il+1))) else(some (c_,dA))
def eV.l1:Nat->aG->List Int->Bool->Option (List Int)
 |0,_,_,_=>none
 |sL+1,m,x9,aL=>if aL=true then((eV.l2 fuel m x9 false 0).bind λ(bl,aP)=>eV.l1 sL m bl aP) else(some x9)
def eV.l0:Nat->aG->Int->List Int->Int->Option (List Int)
 |0,_,_,_,_=>none
 |k5+1,m,goal,x3,x4=>if x4<(aa m.C:Int) then(if(0<=x4/\x4<(aa x3:Int)) then(eV.l0 k5 m goal (aD x3 (ax x4) 1099511627776) (af (x4+1))) else none) else((Di.f m goal).bind λv6=>if(!v6)=true then(some x3) else(if(0<=goal/\goal<(aa x3:Int)) then(eV.l1 fuel m (aD x3 (ax goal) 0) true) else none))
def eV.f (m:aG) (goal:Int):Option (List Int):=if(0<=(aa m.C:Int)/\(aa m.C:Int)<=1099511627776) then(eV.l0 fuel m goal (cy (ax (aa m.C:Int)) (0:Int)) 0) else none
def eV.R (r:(List Int)):bj:=λu G=> ∃a0 n0 H0,aj (Fl.int .i64) 3 r a0 n0 H0/\u=(ll a0 r n0)/\G=[H0]
theorem eV.c (H:eV.f m goal=some r) (hZ:aO (Fl.int .u8) m.C jY F) (nk:aa m.C<=jN):
 QR 15 [(.agg #[(ii m.W),(ii m.H),(ll jY m.C jN)]),(ii goal)] [] [] F (eV.R r):=by
 unfold eV.f at H;refine aF Tryz.func15 J J (λW=>rc T 2 (nc T J (λb1=>ro T 6 (lf T 1 J (ro T 7 ?_)))));obtain⟨c1,H⟩:=az H;refine aV (xy (k:=(Fl.int .i64)) T (0:Int) J J J J J J J J c1 J (λa2 n2 H2 s2=>ro T 10 (lq [1,2,5] [0,0] (λ(⟨k5,x3,x4,a4,n4,H4⟩:Nat×List Int×Int×Option Addr×Nat×Hp)=>(eV.l0 k5 m goal x3 x4=some r/\aj (Fl.int .i64) 3 x3 a4 n4 H4,[(6,(ll a4 x3 n4)),(7,(ii x4))],[H4])) J J (fuel,(cy (ax (aa m.C:Int)) (0:Int)),0,a2,n2,H2) [0,0,0] ⟨H,s2⟩ J J ?_)));rintro k5 ⟨x3,x4,a4,n4,H4⟩ ⟨Z2,s4⟩;rw[eV.l0] at Z2;refine rc T 8 (cd J Z2 (λZ2=>?_) (λZ2=>?_))
 ·refine rc T 7 ?_;obtain⟨c4,Z2⟩:=az Z2;obtain⟨q5,o5,e5⟩:=s4.r.addr c4.1 c4.2;refine ix T J e5 c4 (aV (jZ (k:=(Fl.int .i64)) T 2 0 1099511627776 J J J J J J s4 e5 c4 J J J (λH6 s6=>kf [1,2,5,7] [0,0,0] [(6,(ll a4 (aD x3 (ax x4) 1099511627776) n4))] J J ⟨dB,trivial⟩ (ro T 9 (ar (_,_,_,_,_) [0,0,0] ⟨Z2,s6⟩ J J)))))
 refine rc T 8 (lm T 1 J (ro T 1 (k [] J adR Z2 (Di.c · (rO hZ 0) nk) (λv6 Z2=>ro T 3 (cb J Z2 (λZ2=>?_) (λZ2=>?_))))))
 ·refine rc T 8 ?_
  cases Z2;exact p1 T J [2,0] ⟨a4,n4,H4,s4,J,J⟩ J
 refine rc T 6 ?_;obtain⟨c7,Z2⟩:=az Z2;obtain⟨q7,o7,e7⟩:=s4.r.addr c7.1 c7.2;refine ix T J e7 c7 (aV (jZ (k:=(Fl.int .i64)) T 2 0 0 J J J J J J s4 e7 c7 J J J (λH8 s8=>kf [2,5] [0,0,0] [(6,(ll a4 (aD x3 (ax goal) 0) n4))] J J ⟨dB,trivial⟩ (ro T 9 (lq [2,5] [0,0] (λ(⟨sL,x9,aL,cC,n10,bT⟩:Nat×List Int×Bool×Option Addr×Nat×Hp)=>(eV.l1 sL m x9 aL=some r/\aj (Fl.int .i64) 3 x9 cC n10 bT,[(6,(ll cC x9 n10)),(8,(bb aL))],[bT])) J J (fuel,(aD x3 (ax goal) 0),true,a4,n4,H8) [0,0,0] ⟨Z2,s8⟩ J J ?_)))));rintro sL ⟨x9,aL,cC,n10,bT⟩ ⟨Z8,bL⟩;rw[eV.l1] at Z8;refine rc T 6 (cb J Z8 (λZ8=>?_) (λZ8=>?_))
 ·refine rc T 2 (mn Z8 [2,5] [0,0] (λvG (⟨bl,aP,dj,n11,cH⟩:List Int×Bool×Option Addr×Nat×Hp)=>((bl,aP)=vG/\aj (Fl.int .i64) 3 bl dj n11 cH,[(6,(ll dj bl n11)),(8,(bb aP))],[cH])) J J (λvG i_ _=>?_) ?_)
  ·refine rc T 12 (lq [2,5] [0,0] (λ(⟨KE,c_,dA,il,dh,n13,dI⟩:Nat×List Int×Bool×Int×Option Addr×Nat×Hp)=>(eV.l2 KE m c_ dA il=some vG/\aj (Fl.int .i64) 3 c_ dh n13 dI,[(6,(ll dh c_ n13)),(8,(bb dA)),(9,(ii il))],[dI])) J J (fuel,x9,false,0,cC,n10,bT) [0,0,0] ⟨i_,bL⟩ J J ?_);rintro KE ⟨c_,dA,il,dh,n13,dI⟩ ⟨aY,cY⟩;rw[eV.l2] at aY;refine rc T 9 (cd J aY (λaY=>?_) (λaY=>?_))
   ·refine rc T 2 (mq aY [2,5,9] [0,0] (λz24 (⟨bI,dL,gU,n14,fp⟩:List Int×Bool×Option Addr×Nat×Hp)=>((bI,dL)=z24/\aj (Fl.int .i64) 3 bI gU n14 fp,[(6,(ll gU bI n14)),(8,(bb dL))],[fp])) J J (λz24 lS _=>?_) ?_)
    ·refine rc T 7 (mq lS [2,5,6,8,9] [0,0,0] (λz26 (fb:Int)=>(fb=z26,[(10,(ii fb))],[])) J J (λz26 bY _=>?_) ?_)
     ·refine rc T 7 (cd J bY (λbY=>?_) (λbY=>?_))
      ·refine rc T 9 (am _ [0,0,0] (oi bY) J J)
      refine rc T 2 (am _ [0,0,0] (oi bY) J J)
     rintro _ fb rfl lS;refine rc T 6 (lq [2,5,9,10] [0,0] (λ(⟨G3,iH,rU,nF,iu,n16,ft⟩:Nat×List Int×Bool×Int×Option Addr×Nat×Hp)=>(eV.l3 G3 m fb iH rU nF=some z24/\aj (Fl.int .i64) 3 iH iu n16 ft,[(6,(ll iu iH n16)),(8,(bb rU)),(11,(ii nF))],[ft])) J J (fuel,c_,dA,0,dh,n13,dI) [0,0,0] ⟨lS,cY⟩ J J ?_);rintro G3 ⟨iH,rU,nF,iu,n16,ft⟩ ⟨eF,eB⟩;rw[eV.l3] at eF;refine rc T 1 (mq eF [2,5,6,8,9,10,11] [0,0,0] (λz35 (nG:Bool)=>(nG=z35,[(59,(bb nG))],[])) J J (λz35 sj _=>?_) ?_)
     ·refine rc T 4 (ad 52 J sj (λsj=>?_) (λsj=>?_))
      ·refine ro T 1 (lf T 1 J (ro T 1 ?_));obtain⟨tK,sj⟩:=az sj;obtain⟨q17,o17,RI⟩:=hZ.addr tK.1 tK.2;refine ix T J RI tK (le T 0 (rO hZ 0) RI tK J J (ro T 4 (am _ [0,0,0] (oi sj) J J)))
      refine ro T 9 (am _ [0,0,0] (oi sj) J J)
     rintro _ nG rfl eF;refine cb J eF (λeF=>?_) (λeF=>?_)
     ·refine rc T 7 (lf T 1 J (ro T 1 (lf T 1 J (ro T 2 (k [] J S6 eF (Ab.c ·) (λkj eF=>ro T 3 (mq eF [2,5,6,8,9,10,11,12] [0,0,0] (λXQ (Io:Bool)=>(Io=XQ,[(103,(bb Io))],[])) J J (λXQ kK _=>?_) ?_)))))))
      ·refine dw mix aB (au T J (au T J (au T J (qd 71 J kK (λkK=>?_) (λkK=>?_)))))
       ·refine au T J (cD T 1 J J J (au T J ?_));obtain⟨uZ,kK⟩:=az kK;obtain⟨q18,o18,Jn⟩:=hZ.addr uZ.1 uZ.2;refine bf J J J (cu T J J J J J Jn uZ.1 uZ.2) (bf J J J (cw T J J J J (eH (k:=(Fl.int .u8)) (rO hZ 0) Jn uZ 0 J)) (au T J (au T J (au T J (qb 79 J kK (λkK=>?_) (λkK=>?_))))))
        ·refine au T J (au T J ?_);obtain⟨xC,kK⟩:=az kK;obtain⟨Wb,Vt,u7⟩:=eB.r.addr xC.1 xC.2;refine bf J J J (cu T J J J J J u7 xC.1 xC.2) (bf J J J (cw T J J J J (eH (k:=(Fl.int .i64)) (oO eB 2) u7 xC 0 J)) (au T J (au T J (au T J (qd 86 J kK (λkK=>?_) (λkK=>?_))))))
         ·refine au T J (au T J (bf J J J (cu T J J J J J u7 xC.1 xC.2) (bf J J J (cw T J J J J (eH (k:=(Fl.int .i64)) (oO eB 2) u7 xC 0 J)) (au T J (cD T 1 J J J (au T J (bf J J J (cu T J J J J J Jn uZ.1 uZ.2) (bf J J J (cw T J J J J (eH (k:=(Fl.int .u8)) (rO hZ 0) Jn uZ 0 J)) ?_))))))))
          iterate 4 refine au T J ?_
          obtain⟨Mp,kK⟩:=az kK;refine bf J J J (cu T J J J J J u7 Mp.1 Mp.2) (bf J J J (cw T J J J J (eH (k:=(Fl.int .i64)) (oO eB 2) u7 Mp 0 J)) (au T J (au T J (cO (rx T 1 (am _ [0,0,0] (oi kK) J J))))))
         iterate 17 refine au T J ?_
         refine cO (rx T 1 (am _ [0,0,0] (oi kK) J J))
        iterate 24 refine au T J ?_
        refine cO (rx T 1 (am _ [0,0,0] (oi kK) J J))
       iterate 32 refine au T J ?_
       refine cO (rx T 1 (am _ [0,0,0] (oi kK) J J))
      rintro _ Io rfl eF;refine cb J eF (λeF=>?_) (λeF=>?_)
      ·refine rc T 1 (fz J (rz [14] mix (bH bG) (λhg pf=>ha T 11 [0,1,2,3] sz hg pf J ?_)));obtain⟨Ch,eF⟩:=az eF;obtain⟨Wc,Vu,tR⟩:=eB.r.addr Ch.1 Ch.2;refine av 4 sz hg pf J (cu T J J J J J tR Ch.1 Ch.2) (av 5 sz hg pf J (cw T J J J J (eH (k:=(Fl.int .i64)) (oO eB 2) tR Ch 0 J)) (ha T 8 [6] sz hg pf J (al T 7 1 sz hg pf J J J (ha T 6 [8] sz hg pf J ?_))));obtain⟨F2,eF⟩:=az eF;obtain⟨Dg,Vv,A5⟩:=hZ.addr F2.1 F2.2;refine av 9 sz hg pf J (cu T J J J J J A5 F2.1 F2.2) (av 10 sz hg pf J (cw T J J J J (eH (k:=(Fl.int .u8)) (rO hZ 0) A5 F2 0 J)) (ha T 2 [11,12] sz hg pf J ?_));obtain⟨F3,eF⟩:=az eF;refine av 13 sz hg pf J (cu T J J J J J tR F3.1 F3.2) (ao 14 (jZ (k:=(Fl.int .i64)) T 2 0 (af ((rd iH kj)+(af (rd m.C kj)))) J J J J J J eB tR F3 J J J (λmz iz=>kf [2,5,8,9,10,11,12,103,105,107,108,109,110,111,112,113,114,115,116,117] [0,0,0] [(6,(ll iu (aD iH (ax fb) (af ((rd iH kj)+(af (rd m.C kj))))) n16)),(104,(ll iu (aD iH (ax fb) (af ((rd iH kj)+(af (rd m.C kj))))) n16)),(106,(ll iu (aD iH (ax fb) (af ((rd iH kj)+(af (rd m.C kj))))) n16))] J J ⟨dB,dB,dB,trivial⟩ (an sl (ae (rx T 12 (ar (_,_,_,_,_,_) [0,0,0] ⟨eF,iz⟩ J J)))))))
      refine rc T 9 (ar (_,_,_,_,_,_) [0,0,0] ⟨eF,eB⟩ J J)
     refine rc T 6 (am (_,_,_,_,_) [0,0,0] ⟨oi eF,eB⟩ J J)
    rintro _ ⟨bI,dL,gU,n14,fp⟩ ⟨rfl,fT⟩ aY;refine rc T 6 (ar (_,_,_,_,_,_) [0,0,0] ⟨aY,fT⟩ J J)
   refine rc T 6 (am (_,_,_,_,_) [0,0,0] ⟨oi aY,cY⟩ J J)
  rintro _ ⟨bl,aP,dj,n11,cH⟩ ⟨rfl,cX⟩ Z8;refine rx T 1 (ar (_,_,_,_,_) [0,0,0] ⟨Z8,cX⟩ J J)
 refine rc T 12 ?_
 cases Z8;exact p1 T J [2,0] ⟨cC,n10,bT,bL,J,J⟩ J
def rH.l0:Nat->aG->(List Int)->Int->Int->Option Int
 |0,_,_,_,_=>none
 |k3+1,m,d,p3,x2=>if x2<=3 then((Ab.f m.W m.H p3 x2).bind λv4=>(if v4≥0 then(if(0<=v4/\v4<(aa m.C:Int)) then(if((rd m.C v4)!=255)=true then(if(0<=v4/\v4<(aa d:Int)) then(if(0<=p3/\p3<(aa d:Int)) then(some ((af ((rd d v4)+(af (rd m.C v4))))==(rd d p3))) else none) else none) else(some false)) else none) else(some false)).bind λx5=>if x5=true then(some x2) else(rH.l0 k3 m d p3 (af (x2+1)))) else(some 5)
def rH.f (m:aG) (goal:Int) (d:(List Int)) (p3:Int):Option Int:=if(0<=p3/\p3<(aa d:Int)) then(if(rd d p3)≥1099511627776 then(some 5) else(if(p3==goal)=true then(some 4) else(rH.l0 fuel m d p3 0))) else none
theorem rH.c (H:rH.f m goal d p3=some r) (hZ:aO (Fl.int .u8) m.C jY F) (nk:aa m.C<=jN) (Gr:aO (Fl.int .i64) d Yt F) (c_d:aa d<=n_d):
 QU 17 [(.agg #[(ii m.W),(ii m.H),(ll jY m.C jN)]),(ii goal),(ll Yt d n_d),(ii p3)] [] F (ii r):=by
 unfold rH.f at H;refine aF Tryz.func17 J J (λW=>rc T 2 (nc T J (λb1=>ro T 8 ?_)));obtain⟨c1,H⟩:=az H;obtain⟨q2,o2,e2⟩:=Gr.addr c1.1 c1.2;refine ix T J e2 c1 (le T 0 (rO Gr 0) e2 c1 J J (ro T 3 (cd J H (λH=>?_) (λH=>?_))))
 ·refine rc T 7 ?_
  cases H;exact p0 T J [0] J
 refine rc T 10 (cb J H (λH=>?_) (λH=>?_))
 ·refine rc T 7 ?_
  cases H;exact p0 T J [0] J
 refine rc T 9 (lq [2,3,4] [0,0] (λ(⟨k3,x2⟩:Nat×Int)=>(rH.l0 k3 m d p3 x2=some r,[(9,(ii x2))],[])) J J (fuel,0) [0,0] H J J ?_);rintro k3 x2 Z4;replace Z4:rH.l0 (k3+1) m d p3 x2=some r:=Z4;rw[rH.l0] at Z4;refine rc T 7 (cd J Z4 (λZ4=>?_) (λZ4=>?_))
 ·refine rc T 7 (lf T 1 J (ro T 1 (lf T 1 J (ro T 2 (k [] J S6 Z4 (Ab.c ·) (λv4 Z4=>ro T 3 (mq Z4 [2,3,4,9] [0,0] (λz6 (x5:Bool)=>(x5=z6,[(57,(bb x5))],[])) J J (λz6 Z7 _=>?_) ?_)))))))
  ·refine dw mix aB (au T J (au T J (au T J (qd 32 J Z7 (λZ7=>?_) (λZ7=>?_)))))
   ·refine au T J (cD T 1 J J J (au T J ?_));obtain⟨c9,Z7⟩:=az Z7;obtain⟨q3,o3,e3⟩:=hZ.addr c9.1 c9.2;refine bf J J J (cu T J J J J J e3 c9.1 c9.2) (bf J J J (cw T J J J J (eH (k:=(Fl.int .u8)) (rO hZ 0) e3 c9 0 J)) (au T J (au T J (au T J (qb 40 J Z7 (λZ7=>?_) (λZ7=>?_))))))
    ·refine au T J (au T J ?_);obtain⟨dK,Z7⟩:=az Z7;obtain⟨q4,o4,e4⟩:=Gr.addr dK.1 dK.2;refine bf J J J (cu T J J J J J e4 dK.1 dK.2) (bf J J J (cw T J J J J (eH (k:=(Fl.int .i64)) (rO Gr 0) e4 dK 0 J)) (au T J (cD T 1 J J J (au T J (bf J J J (cu T J J J J J e3 c9.1 c9.2) (bf J J J (cw T J J J J (eH (k:=(Fl.int .u8)) (rO hZ 0) e3 c9 0 J)) ?_))))))
     iterate 4 refine au T J ?_
     obtain⟨gy,Z7⟩:=az Z7;refine bf J J J (cu T J J J J J e4 gy.1 gy.2) (bf J J J (cw T J J J J (eH (k:=(Fl.int .i64)) (rO Gr 0) e4 gy 0 J)) (au T J (au T J (cO (rx T 1 (am _ [0,0] (oi Z7) J J))))))
    iterate 17 refine au T J ?_
    refine cO (rx T 1 (am _ [0,0] (oi Z7) J J))
   iterate 25 refine au T J ?_
   refine cO (rx T 1 (am _ [0,0] (oi Z7) J J))
  rintro _ x5 rfl Z4;refine cb J Z4 (λZ4=>?_) (λZ4=>?_)
  ·refine rc T 12 ?_
   cases Z4;exact p0 T J [0] J
  refine rc T 9 (ar _ [0,0] Z4 J J)
 refine rc T 11 ?_
 cases Z4;exact p0 T J [0] J
def oh.l0:Nat->aG->Int->Int->(List Int)->(Int×Int)->List Int->List Int->Int->Option eJ
 |0,_,_,_,_,_,_,_,_=>none
 |k9+1,m,goal,s,v1,v2,x6,x7,x8=>if x8<(af (v2.1*v2.2)) then((z_.f m.W m.H s x8).bind λv10=>if(0<=v10/\v10<(aa v1:Int)) then(if(aa x6+1<=1099511627776) then((rH.f m goal v1 v10).bind λv11=>if(aa x7+1<=1099511627776) then(oh.l0 k9 m goal s v1 v2 (x6++[(rd v1 v10)]) (x7++[v11]) (af (x8+1))) else none) else none) else none) else(some (eJ.mk x6 x7))
def oh.f (m:aG) (goal:Int) (s:Int):Option eJ:=(eV.f m goal).bind λv1=>(wR.f m.W m.H s).bind λv2=>oh.l0 fuel m goal s v1 v2 [] [] 0
def oh.R (r:eJ):bj:=λu G=> ∃a0 n0 H0 a1 n1 H1,aj (Fl.int .i64) 3 r.cN a0 n0 H0/\aj (Fl.int .i64) 3 r.cx a1 n1 H1/\u=(.agg #[(ll a0 r.cN n0),(ll a1 r.cx n1)])/\G=[H0,H1]
theorem oh.c (H:oh.f m goal s=some r) (hZ:aO (Fl.int .u8) m.C jY F) (nk:aa m.C<=jN):
 QR 39 [(.agg #[(ii m.W),(ii m.H),(ll jY m.C jN)]),(ii goal),(ii s)] [] [] F (oh.R r):=by
 unfold oh.f at H;refine aF Tryz.func39 J J (λW=>rc T 2 (nc T J (λb1=>nc T J (λb2=>ro T 4 (lm T 1 J (ro T 1 (kr eV.R [] [] J acm H (eV.c · (rO hZ 0) nk) (λv1 H=>?_))))))));rintro _ _ ⟨a3,n3,H3,s3,rfl,rfl⟩;refine fz J (ro T 6 (nc T J (λb4=>sg T 4 J (ro T 1 (ks [1,2,3,6,7,8] J (rx T 4 (lf T 1 J (ro T 1 (lf T 1 J (ro T 1 (k [] J NK H (wR.c ·) (λv2 H=>ro T 14 (bz (bz (lq [1,2,3,6,7,8,9,10] [0,0,0,0] (λ(⟨k9,x6,x7,x8,a7,n7,H7,a8,n8,H8⟩:Nat×List Int×List Int×Int×Option Addr×Nat×Hp×Option Addr×Nat×Hp)=>(oh.l0 k9 m goal s v1 v2 x6 x7 x8=some r/\aj (Fl.int .i64) 3 x6 a7 n7 H7/\aj (Fl.int .i64) 3 x7 a8 n8 H8,[(11,(ii x8))],[(cl b4 79 [(ll a7 x6 n7),(ll a8 x7 n8)]),H7,H8])) J J (fuel,[],[],0,none,0,[],none,0,[]) [0,0,0,0,0,0,0] ⟨H,aj.nil,aj.nil⟩ J J ?_)))))))))))))));rintro k9 ⟨x6,x7,x8,a7,n7,H7,a8,n8,H8⟩ ⟨Z3,s7,s8⟩;rw[oh.l0] at Z3;refine rc T 10 (cd J Z3 (λZ3=>?_) (λZ3=>?_))
 ·refine rc T 7 (lf T 1 J (ro T 1 (lf T 1 J (ro T 2 (k [] J TB Z3 (z_.c ·) (λv10 Z3=>ro T 3 (fz J (rg [16,18,20] [0,0,0,0,0,1] mix (bH bG) (λhg pf=>ha T 20 [0] (so [0,0,0,0,0,1]) hg pf J (al T 1 4 (so [0,0,0,0,0,1]) hg pf J J J (ha T 17 [2,3] (so [0,0,0,0,0,1]) hg pf J ?_)))))))))));obtain⟨c6,Z3⟩:=az Z3;obtain⟨q9,o9,e9⟩:=s3.r.addr c6.1 c6.2;refine av 4 (so [0,0,0,0,0,1]) hg pf J (cu T J J J J J e9 c6.1 c6.2) (av 5 (so [0,0,0,0,0,1]) hg pf J (cw T J J J J (eH (k:=(Fl.int .i64)) (oO s3 3) e9 c6 0 J)) (ha T 14 [8] (so [0,0,0,0,0,1]) hg pf J (al T 9 4 (so [0,0,0,0,0,1]) hg pf J J J (av 10 (so [0,0,0,0,0,1]) hg pf J (gA T 1 J J J J J J J) (ha T 9 [11,12,13] (so [0,0,0,0,0,1]) hg pf J (ao 6 (cW (k:=(Fl.int .i64)) T [(rd v1 v10)] J J J J J J J J J (λcC bT bL=>an (so [0,0,0,0,0,1]) (ao 7 ?_)))))))));obtain⟨c7,Z3⟩:=az Z3;refine dQ (k:=(Fl.int .i64)) (xs:=x6) T (g:=5) J J J J J J J J J J s7 (oO bL 7) c7 J (λdj n11 cH cX=>an (so [0,0,0,0,0,1]) (ha T 6 [17] (so [0,0,0,0,0,1]) hg pf J (ao 14 (kh [] J acx Z3 (rH.c · (rO hZ 0) nk (oO s3 3) s3.bZ) (λv11 Z3=>an (so [0,0,0,0,0,1]) (ao 15 (cW (k:=(Fl.int .i64)) T [v11] J J J J J J J J J (λa12 dq dE=>an (so [0,0,0,0,0,1]) (ao 16 ?_)))))))));obtain⟨c9,Z3⟩:=az Z3;refine dQ (k:=(Fl.int .i64)) (xs:=x7) T (g:=6) J J J J J J J J J J s8 (oO dE 8) c9 J (λdh n13 dI cY=>an sl (ao 18 (sf T 4 J (an sl (hb T 19 sl hg pf J (ao 20 (sf T 4 J (an sl (ae (rx T 8 (ar (_,_,_,_,_,_,_,_,_) [0,0,0,0,0,0,0] ⟨Z3,cX,cY⟩ J J)))))))))))
 refine rc T 7 (lm T 4 J (sg T 2 J (ro T 3 ?_)))
 cases Z3;exact pb T J (.cS (j:=2) [(ll a7 x6 n7),(ll a8 x7 n8)] J J J J J J J .nil) [5,5,0] ⟨(_,_),a7,n7,H7,a8,n8,H8,s7,s8,J,J⟩ J J
end
noncomputable section
def EN.f (a:eJ) (b:eJ):Option Bool:=((oo.f a.cN b.cN).bind λv3=>if v3=true then((oo.f a.cx b.cx).bind λv4=>some v4) else(some false)).bind λx1=>some x1
theorem EN.c (H:EN.f a b=some r) (abV:aO (Fl.int .i64) a.cN Yq F) (aao:aa a.cN<=afX) (abU:aO (Fl.int .i64) a.cx Yp F) (aan:aa a.cx<=afW) (abX:aO (Fl.int .i64) b.cN Ys F) (aaq:aa b.cN<=afZ) (abW:aO (Fl.int .i64) b.cx Yr F) (aap:aa b.cx<=afY):
 QU 38 [(.agg #[(ll Yq a.cN afX),(ll Yp a.cx afW)]),(.agg #[(ll Ys b.cN afZ),(ll Yr b.cx afY)])] [] F (bb r):=by
 unfold EN.f at H;refine aF Tryz.func38 J J (λW=>rc T 2 (nc T J (λb1=>nc T J (λb2=>ro T 3 (mq H [] [0] (λz2 (x1:Bool)=>(x1=z2,[(4,(bb x1))],[])) J J (λz2 Z1 _=>?_) ?_)))))
 ·refine rc T 2 (lf T 1 J (ro T 1 (lf T 2 J (k [] J TA Z1 (oo.c · (rO abV 0) aao (rO abX 0) aaq) (λv3 Z1=>ro T 1 (ab 10 J Z1 (λZ1=>?_) (λZ1=>?_)))))))
  ·refine ro T 1 (lf T 1 J (ro T 1 (lf T 2 J (k [] J TA Z1 (oo.c · (rO abU 0) aan (rO abW 0) aap) (λv4 Z1=>ro T 4 (am _ [0] (oi Z1) J J))))))
  refine ro T 9 (am _ [0] (oi Z1) J J)
 rintro _ x1 rfl H;refine rc T 1 ?_
 cases H;exact p0 T J [0] J
end
noncomputable section
def CW.f (x:Int) (y:Int):Option (Int×Int):=some ((eZ ((eZ ((eZ ((fQ x (2^32))*(fQ y (2^32))))+(fQ (eZ ((eZ ((fQ x (2^32))*(eZ (gf (cj (IntKind.bits .u64) y&&&cj (IntKind.bits .u64) 4294967295)))))+(fQ (eZ ((eZ (gf (cj (IntKind.bits .u64) x&&&cj (IntKind.bits .u64) 4294967295)))*(eZ (gf (cj (IntKind.bits .u64) y&&&cj (IntKind.bits .u64) 4294967295))))) (2^32)))) (2^32))))+(fQ (eZ ((eZ (gf (cj (IntKind.bits .u64) (eZ ((eZ ((fQ x (2^32))*(eZ (gf (cj (IntKind.bits .u64) y&&&cj (IntKind.bits .u64) 4294967295)))))+(fQ (eZ ((eZ (gf (cj (IntKind.bits .u64) x&&&cj (IntKind.bits .u64) 4294967295)))*(eZ (gf (cj (IntKind.bits .u64) y&&&cj (IntKind.bits .u64) 4294967295))))) (2^32))))&&&cj (IntKind.bits .u64) 4294967295)))+(eZ ((eZ (gf (cj (IntKind.bits .u64) x&&&cj (IntKind.bits .u64) 4294967295)))*(fQ y (2^32)))))) (2^32)))),(eZ (x*y)))
theorem CW.c (H:CW.f x y=some r):
 QU 269 [(uu x),(uu y)] [] F (.tuple #[(uu r.1),(uu r.2)]):=by
 unfold CW.f at H;refine aF Tryz.func269 J J (λW=>rc T 99 ?_)
 cases H;exact p0 T J [0] J
def uc.f (x:Int) (y:Int):Option (Int×Int):=(CW.f x y).bind λv1=>some (v1.1,v1.2)
theorem uc.c (H:uc.f x y=some r):
 QU 239 [(uu x),(uu y)] [] F (.tuple #[(uu r.1),(uu r.2)]):=by
 unfold uc.f at H;refine aF Tryz.func239 J J (λW=>rc T 7 (eN J (rc T 6 (k [] J ads H (CW.c ·) (λv1 H=>ro T 16 ?_)))))
 cases H;exact p0 T J [0] J
def Hi.f (x:Int):Option Int:=(if x≥4294967296 then(some ((fQ x (2^32)),(32:Int))) else(some (x,(0:Int)))).bind λ(x1,x2)=>(if x1≥65536 then(some ((fQ x1 (2^16)),(af (x2+16)))) else(some (x1,x2))).bind λ(x4,x5)=>if x4≥256 then(if(0<=(bQ (fQ x4 (2^8)))/\(bQ (fQ x4 (2^8)))<(aa E_:Int)) then(some (af ((af (x5+8))+(af (rd E_ (bQ (fQ x4 (2^8)))))))) else none) else(if(0<=(bQ x4)/\(bQ x4)<(aa E_:Int)) then(some (af (x5+(af (rd E_ (bQ x4)))))) else none)
theorem Hi.c (H:Hi.f x=some r):
 QU 264 [(uu x)] [] F (ii r):=by
 unfold Hi.f at H;refine aF Tryz.func264 J J (λW=>rc T 5 (mq H [] [0] (λz3 (⟨x1,x2⟩:Int×Int)=>((x1,x2)=z3,[(0,(uu x1)),(2,(ii x2))],[])) J J (λz3 Z1 _=>?_) ?_))
 ·refine rc T 6 (cd J Z1 (λZ1=>?_) (λZ1=>?_))
  ·refine rc T 11 (am (_,_) [0] (oi Z1) J J)
  refine rc T 2 (am (_,_) [0] (oi Z1) J J)
 rintro _ ⟨x1,x2⟩ rfl H;refine mq H [] [0] (λz6 (⟨x4,x5⟩:Int×Int)=>((x4,x5)=z6,[(0,(uu x4)),(2,(ii x5))],[])) J J (λz6 Z3 _=>?_) ?_
 ·refine rc T 6 (cd J Z3 (λZ3=>?_) (λZ3=>?_))
  ·refine rc T 13 (am (_,_) [0] (oi Z3) J J)
  refine rc T 2 (am (_,_) [0] (oi Z3) J J)
 rintro _ ⟨x4,x5⟩ rfl H;refine rc T 7 (cd J H (λH=>?_) (λH=>?_))
 ·refine rc T 18 ?_;obtain⟨c6,H⟩:=az H;refine bA J (Sd T E_ J J J J J c6) (ro T 6 ?_)
  cases H;exact p0 T J [0] J
 refine rc T 7 ?_;obtain⟨c7,H⟩:=az H;refine bA J (Sd T E_ J J J J J c7) (ro T 6 ?_)
 cases H;exact p0 T J [0] J
def Hh.f (x:Int):Option Int:=(Hi.f x).bind λv1=>some v1
theorem Hh.c (H:Hh.f x=some r):
 QU 235 [(uu x)] [] F (ii r):=by
 unfold Hh.f at H;refine aF Tryz.func235 J J (λW=>rc T 6 (eN J (rc T 5 (k [] J adp H (Hi.c ·) (λv1 H=>ro T 4 ?_)))))
 cases H;exact p0 T J [0] J
end
noncomputable section
def kN.l0:Nat->(Int×Int)->Int->List Int->Int->Option (List Int)
 |0,_,_,_,_=>none
 |sL+1,v1,x2,x9,aL=>if aL<(af v1.2) then(if(0<=aL/\aL<=(aa x9:Int)/\(aa x9:Int)<=(aa x9:Int)) then(if(0<=(0:Int)/\(0:Int)<=(if x2<aL then x2 else aL)/\(if x2<aL then x2 else aL)<=(aa x9:Int)) then(kN.l0 sL v1 x2 (cB x9 (ax aL) (min (aa (aA x9 0 (if x2<aL then x2 else aL))) (aa (aA x9 aL (aa x9:Int)))) (aA x9 0 (if x2<aL then x2 else aL))) (af (aL+(((min (aa (aA x9 0 (if x2<aL then x2 else aL))) (aa (aA x9 aL (aa x9:Int)))):Nat):Int)))) else none) else none) else(some x9)
def kN.f (b:(List Int)) (count:Int):Option (List Int):=if(count==0)=true then(some ([]:List Int)) else(if count<0 then(none) else((uc.f (eZ (aa b:Int)) (eZ count)).bind λv1=>if((decide (v1.1>0))||(decide (v1.2>9223372036854775807)))=true then(none) else(if((aa b:Int)==0)=true then(some ([]:List Int)) else((if(af v1.2)>8192 then(if(¬(aa b:Int)=0) then(if((af ((af (di 8192 (aa b:Int)))*(aa b:Int)))==0)=true then(some (aa b:Int)) else(some (af ((af (di 8192 (aa b:Int)))*(aa b:Int))))) else none) else(some (af v1.2))).bind λx2=>if(0<=(af v1.2)/\(af v1.2)<=1099511627776) then(FM (KX (af v1.2)) (λx4=>if((af v1.2)=(aa x4:Int)) then((kN.l0 fuel v1 x2 (cB x4 0 (min (aa b) (aa x4)) b) (((min (aa b) (aa x4)):Nat):Int)).bind λx5=>some x5) else none)) else none))))
def kN.R (r:(List Int)):bj:=λu G=> ∃a0 n0 H0,aj (Fl.int .u8) 5 r a0 n0 H0/\u=(ll a0 r n0)/\G=[H0]
theorem kN.c (H:kN.f b count=some r) (gM:aO (Fl.int .u8) b jG F) (gz:aa b<=jy):
 QR 280 [(ll jG b jy),(ii count)] [] [] F (kN.R r):=by
 unfold kN.f at H;refine aF Tryz.func280 J J (λW=>rc T 12 (cb J H (λH=>?_) (λH=>?_)))
 ·refine rc T 2 (aV (cW (k:=(Fl.int .u8)) T ([]:List Int) J J J J J J J J J (λa1 H1 s1=>ro T 5 ?_)))
  cases H;exact p1 T J [1,0] ⟨a1,(aa ([]:List Int)),H1,s1,J,J⟩ J
 refine rc T 9 (cd J H (λH=>?_) (λH=>?_))
 ·cases H
 refine rc T 9 (k [] J Nw H (uc.c ·) (λv1 H=>ro T 13 (go T [3,4,5] 29 [0,6] 32 J J J J J J J (ro T 2 (cb J H (λH=>?_) (λH=>?_))))))
 ·cases H
 refine rc T 17 (cb J H (λH=>?_) (λH=>?_))
 ·refine rc T 2 (aV (cW (k:=(Fl.int .u8)) T ([]:List Int) J J J J J J J J J (λa2 H2 s2=>ro T 5 ?_)))
  cases H;exact p1 T J [1,0] ⟨a2,(aa ([]:List Int)),H2,s2,J,J⟩ J
 refine rc T 8 (mq H [0,7] [0] (λz3 (x2:Int)=>(x2=z3,[(8,(ii x2))],[])) J J (λz3 Z6 _=>?_) ?_)
 ·refine rc T 6 (cd J Z6 (λZ6=>?_) (λZ6=>?_))
  ·refine rc T 4 ?_;obtain⟨c8,Z6⟩:=az Z6;refine bA J (u' J J J c8) (ro T 12 (cb J Z6 (λZ6=>?_) (λZ6=>?_)))
   ·refine rc T 6 (am _ [0] (oi Z6) J J)
   refine rc T 2 (am _ [0] (oi Z6) J J)
  refine rc T 2 (am _ [0] (oi Z6) J J)
 rintro _ x2 rfl H;refine rc T 3 ?_;obtain⟨iP,H⟩:=az H;refine aV (Zn T J J J J aeQ J iP (λx4 a3 n3 H3 p3_ s3=>?_));replace H:=YF H p3_;refine ro T 2 ?_;obtain⟨dK,H⟩:=az H;refine bA J (abD T J J J J J J dK s3.bZ) (ro T 7 ?_);have Qk:0+(aa x4)<=aa x4:=(MV _);refine aV (B_ (k:=(Fl.int .u8)) (xs:=x4) (ys:=b) (lo:=0) (g:=1) T J J J J J J J J (aj.trim s3 (jW _) s3.bZ) (rO gM 0) (.inl ⟨J,J⟩) Qk (λH4 s4=>kf [7,8,60] [0,0] [(9,(ll a3 (cB x4 0 (min (aa b) (aa x4)) b) (aa x4)))] J J ⟨(by first |rfl |(simp only[ll,mf Qk];rfl)),trivial⟩ (ro T 3 ?_)))
 refine mq H [] [0] (λz6 (⟨x5,a5,n5,H5⟩:List Int×Option Addr×Nat×Hp)=>(x5=z6/\aj (Fl.int .u8) 5 x5 a5 n5 H5,[(9,(ll a5 x5 n5))],[H5])) J J (λz6 lS _=>?_) ?_
 ·refine rc T 1 (lq [7,8] [0] (λ(⟨sL,x9,aL,a7,n7,H7⟩:Nat×List Int×Int×Option Addr×Nat×Hp)=>(kN.l0 sL v1 x2 x9 aL=some z6/\aj (Fl.int .u8) 5 x9 a7 n7 H7,[(9,(ll a7 x9 n7)),(10,(ii aL))],[H7])) J J (fuel,(cB x4 0 (min (aa b) (aa x4)) b),(((min (aa b) (aa x4)):Nat):Int),a3,(aa x4),H4) [0,0] ⟨lS,s4⟩ J J ?_);rintro sL ⟨x9,aL,a7,n7,H7⟩ ⟨bY,s7⟩;rw[kN.l0] at bY;refine rc T 8 (cd J bY (λbY=>?_) (λbY=>?_))
  ·refine rc T 11 (fz J (rz [7] mix (bH bG) (λhg pf=>ha T 7 [0,1,2] sz hg pf J ?_)));obtain⟨qj,bY⟩:=az bY;refine av 3 sz hg pf J (kS T J J J J J J qj s7.bZ) (ha T 4 [4,5] sz hg pf J ?_);obtain⟨lU,bY⟩:=az bY;refine av 6 sz hg pf J (kS T J J J J J J lU s7.bZ) (ao 7 ?_);have DQ:(ax aL)+(aa (aA x9 aL (aa x9:Int)))<=aa x9:=(Ih qj);refine B_ (k:=(Fl.int .u8)) (xs:=x9) (ys:=(aA x9 0 (if x2<aL then x2 else aL))) (lo:=(ax aL)) (g:=1) T J J J J J J J J s7 (nC (oO s7 1) lU s7.bZ) (.inr J) DQ (λH8 s8=>?_)
   have I0:(0<=aL/\aL<=(aa x9:Int)/\(aa x9:Int)<=(aa (cB x9 (ax aL) (min (aa (aA x9 0 (if x2<aL then x2 else aL))) (aa (aA x9 aL (aa x9:Int)))) (aA x9 0 (if x2<aL then x2 else aL))):Int)):=by simp only[mf DQ];exact qj
   have Yn:(0<=(0:Int)/\(0:Int)<=(if x2<aL then x2 else aL)/\(if x2<aL then x2 else aL)<=(aa (cB x9 (ax aL) (min (aa (aA x9 0 (if x2<aL then x2 else aL))) (aa (aA x9 aL (aa x9:Int)))) (aA x9 0 (if x2<aL then x2 else aL))):Int)):=by simp only[mf DQ];exact lU
   refine kf [7,8,10,11,67,69,72,74] [0,0] [(9,(ll a7 (cB x9 (ax aL) (min (aa (aA x9 0 (if x2<aL then x2 else aL))) (aa (aA x9 aL (aa x9:Int)))) (aA x9 0 (if x2<aL then x2 else aL))) n7)),(68,(ll a7 (cB x9 (ax aL) (min (aa (aA x9 0 (if x2<aL then x2 else aL))) (aa (aA x9 aL (aa x9:Int)))) (aA x9 0 (if x2<aL then x2 else aL))) n7)),(70,(ll (gp a7 n7 (ax aL) 1) (aA (cB x9 (ax aL) (min (aa (aA x9 0 (if x2<aL then x2 else aL))) (aa (aA x9 aL (aa x9:Int)))) (aA x9 0 (if x2<aL then x2 else aL))) aL (aa x9:Int)) (n7-ax aL))),(71,(ll a7 (cB x9 (ax aL) (min (aa (aA x9 0 (if x2<aL then x2 else aL))) (aa (aA x9 aL (aa x9:Int)))) (aA x9 0 (if x2<aL then x2 else aL))) n7)),(73,(ll (gp a7 n7 (ax 0) 1) (aA (cB x9 (ax aL) (min (aa (aA x9 0 (if x2<aL then x2 else aL))) (aa (aA x9 aL (aa x9:Int)))) (aA x9 0 (if x2<aL then x2 else aL))) 0 (if x2<aL then x2 else aL)) (n7-ax 0)))] J J ⟨(by first |rfl |(simp only[ll,mf DQ];rfl)),(by first |rfl |(simp only[ll,mf DQ];rfl)),(by simp only[ll];rw[iV I0,<-iV qj];rfl),(by first |rfl |(simp only[ll,mf DQ];rfl)),(by simp only[ll];rw[iV Yn,<-iV lU];rfl),trivial⟩ (an sl (hb T 8 sl hg pf J (hb T 9 sl hg pf J (ae (rx T 2 ?_)))))
   exact ar (_,_,_,_,_) [0,0] ⟨bY,s8⟩ J J
  refine rc T 5 (am (_,_,_,_) [0,0] ⟨oi bY,s7⟩ J J)
 rintro _ ⟨x5,a5,n5,H5⟩ ⟨rfl,s5⟩ H;refine rc T 7 ?_
 cases H;exact p1 T J [1,0] ⟨a5,n5,H5,s5,J,J⟩ J
def D6.f (a:(List Int)) (b:(List Int)):Option Bool:=some (DE a b)
theorem D6.c (H:D6.f a b=some r) (zB:aO (Fl.int .u8) a B4 F) (Jk:aa a<=CY) (gM:aO (Fl.int .u8) b jG F) (gz:aa b<=jy):
 QU 254 [(ll B4 a CY),(ll jG b jy)] [] F (bb r):=by
 unfold D6.f at H;refine aF Tryz.func254 J J (λW=>rc T 8 (bA J (Se T J J J J J (rO zB 0)) (ro T 1 (bA J (Se T J J J J J (rO gM 0)) (bA J (abC J J J) (ro T 4 ?_))))))
 cases H;exact p0 T J [0] J
end
noncomputable section
def cmp_isNaN_int.f (x:Int):Option Bool:=some (x !=x)
theorem cmp_isNaN_int.c (H:cmp_isNaN_int.f x=some r):
 QU 265 [(ii x)] [] F (bb r):=by
 unfold cmp_isNaN_int.f at H;refine aF Tryz.func265 J J (λW=>rc T 14 ?_)
 cases H;exact p0 T J [0] J
def tN.f (x:Int) (y:Int):Option Int:=(cmp_isNaN_int.f x).bind λv1=>(cmp_isNaN_int.f y).bind λv2=>if v1=true then(if v2=true then(some 0) else(some (-1))) else(if v2=true then(some 1) else(if x<y then(some (-1)) else(if x>y then(some 1) else(some 0))))
theorem tN.c (H:tN.f x y=some r):
 QU 237 [(ii x),(ii y)] [] F (ii r):=by
 unfold tN.f at H;refine aF Tryz.func237 J J (λW=>rc T 8 (k [] J JY H (cmp_isNaN_int.c ·) (λv1 H=>ro T 6 (k [] J JY H (cmp_isNaN_int.c ·) (λv2 H=>ro T 9 (cb J H (λH=>?_) (λH=>?_)))))))
 ·refine rc T 6 (cb J H (λH=>?_) (λH=>?_))
  ·refine rc T 8 ?_
   cases H;exact p0 T J [0] J
  refine rc T 9 ?_
  cases H;exact p0 T J [0] J
 refine rc T 8 (cb J H (λH=>?_) (λH=>?_))
 ·refine rc T 7 ?_
  cases H;exact p0 T J [0] J
 refine rc T 10 (cd J H (λH=>?_) (λH=>?_))
 ·refine rc T 7 ?_
  cases H;exact p0 T J [0] J
 refine rc T 10 (cd J H (λH=>?_) (λH=>?_))
 ·refine rc T 7 ?_
  cases H;exact p0 T J [0] J
 refine rc T 8 ?_
 cases H;exact p0 T J [0] J
def nn.l0:Nat->(List Int)->Int->Option Int
 |0,_,_=>none
 |k3+1,uK,x2=>if x2<(aa uK:Int) then(if(0<=x2/\x2<(aa uK:Int)) then(if((rd uK x2)!=0)=true then(some (rd uK x2)) else(nn.l0 k3 uK (af (x2+1)))) else none) else(some 0)
def nn.f (uK:(List Int)):Option Int:=nn.l0 fuel uK 0
theorem nn.c (H:nn.f uK=some r) (SD:aO (Fl.int .i64) uK YA F) (ajt:aa uK<=af5):
 QU 236 [(ll YA uK af5)] [] F (ii r):=by
 unfold nn.f at H;refine aF Tryz.func236 J J (λW=>rc T 19 (lq [3,6,7] [0] (λ(⟨k3,x2⟩:Nat×Int)=>(nn.l0 k3 uK x2=some r,[(8,(ii x2))],[])) J J (fuel,0) [0] H J J ?_));rintro k3 x2 Z1;replace Z1:nn.l0 (k3+1) uK x2=some r:=Z1;rw[nn.l0] at Z1;refine rc T 6 (cd J Z1 (λZ1=>?_) (λZ1=>?_))
 ·refine rc T 6 ?_;obtain⟨c3,Z1⟩:=az Z1;obtain⟨q1,o1,e1⟩:=SD.addr c3.1 c3.2;refine ix T J e1 c3 (le T 0 (rO SD 0) e1 c3 J J (ro T 10 (cb J Z1 (λZ1=>?_) (λZ1=>?_))))
  ·refine rc T 12 ?_
   cases Z1;exact p0 T J [0] J
  refine rc T 8 (ar _ [0] Z1 J J)
 refine rc T 12 ?_
 cases Z1;exact p0 T J [0] J
def cmp_Less_int.f (x:Int) (y:Int):Option Bool:=((cmp_isNaN_int.f x).bind λv3=>if v3=true then((cmp_isNaN_int.f y).bind λv4=>some ((!v4)||(decide (x<y)))) else(some (decide (x<y)))).bind λx1=>some x1
theorem cmp_Less_int.c (H:cmp_Less_int.f x y=some r):
 QU 300 [(ii x),(ii y)] [] F (bb r):=by
 unfold cmp_Less_int.f at H;refine aF Tryz.func300 J J (λW=>rc T 5 (mq H [] [0] (λz2 (x1:Bool)=>(x1=z2,[(4,(bb x1))],[])) J J (λz2 Z1 _=>?_) ?_))
 ·refine rc T 2 (k [] J JY Z1 (cmp_isNaN_int.c ·) (λv3 Z1=>ro T 1 (ab 7 J Z1 (λZ1=>?_) (λZ1=>?_))))
  ·refine ro T 1 (k [] J JY Z1 (cmp_isNaN_int.c ·) (λv4 Z1=>ro T 3 (go T [8,9,10,11] 12 [] 16 J J J J J J J (ro T 3 (am _ [0] (oi Z1) J J)))))
  refine ro T 12 (am _ [0] (oi Z1) J J)
 rintro _ x1 rfl H;refine rc T 1 ?_
 cases H;exact p0 T J [0] J
end
noncomputable section
def rQ.l0:Nat->(List Int)->Int->Int->Option Int
 |0,_,_,_=>none
 |k3+1,s,v,x2=>if x2<(aa s:Int) then(if(0<=x2/\x2<(aa s:Int)) then(if(v==(rd s x2))=true then(some x2) else(rQ.l0 k3 s v (af (x2+1)))) else none) else(some (-1))
def rQ.f (s:(List Int)) (v:Int):Option Int:=rQ.l0 fuel s v 0
theorem rQ.c (H:rQ.f s v=some r) (jJ:aO (Fl.int .u8) s ja F) (ss:aa s<=jg):
 QU 231 [(ll ja s jg),(.int .u8 v)] [] F (ii r):=by
 unfold rQ.f at H;refine aF Tryz.func231 J J (λW=>rc T 14 (lq [0,1,7] [0] (λ(⟨k3,x2⟩:Nat×Int)=>(rQ.l0 k3 s v x2=some r,[(8,(ii x2))],[])) J J (fuel,0) [0] H J J ?_));rintro k3 x2 Z1;replace Z1:rQ.l0 (k3+1) s v x2=some r:=Z1;rw[rQ.l0] at Z1;refine rc T 6 (cd J Z1 (λZ1=>?_) (λZ1=>?_))
 ·refine rc T 15 ?_;obtain⟨c3,Z1⟩:=az Z1;obtain⟨q1,o1,e1⟩:=jJ.addr c3.1 c3.2;refine ix T J e1 c3 (le T 0 (rO jJ 0) e1 c3 J J (ro T 3 (cb J Z1 (λZ1=>?_) (λZ1=>?_))))
  ·refine rc T 12 ?_
   cases Z1;exact p0 T J [0] J
  refine rc T 8 (ar _ [0] Z1 J J)
 refine rc T 11 ?_
 cases Z1;exact p0 T J [0] J
def xa.f (s:(List Int)) (v:Int):Option Bool:=(rQ.f s v).bind λv1=>some (decide (v1≥0))
theorem xa.c (H:xa.f s v=some r) (jJ:aO (Fl.int .u8) s ja F) (ss:aa s<=jg):
 QU 194 [(ll ja s jg),(.int .u8 v)] [] F (bb r):=by
 unfold xa.f at H;refine aF Tryz.func194 J J (λW=>rc T 9 (k [] J ac7 H (rQ.c · (rO jJ 0) ss) (λv1 H=>ro T 5 ?_)))
 cases H;exact p0 T J [0] J
def oy.f (s:(List Int)):Option (List Int):=if(aa ([]:List Int)+aa s<=1099511627776) then(some (([]:List Int)++s)) else none
def oy.R (r:(List Int)):bj:=λu G=> ∃a0 n0 H0,aj (Fl.int .u8) 5 r a0 n0 H0/\u=(ll a0 r n0)/\G=[H0]
theorem oy.c (H:oy.f s=some r) (jJ:aO (Fl.int .u8) s ja F) (ss:aa s<=jg):
 QR 103 [(ll ja s jg)] [] [] F (oy.R r):=by
 unfold oy.f at H;refine aF Tryz.func103 J J (λW=>rc T 12 (B9 J (λc1=>?_) (λc1=>?_)))
 ·have hx:s=[]:=OV jJ c1;replace H:some []=some r:=by simpa[hx] using H
  refine rc T 7 ?_
  cases H;refine bz (p1 T J [1,0] ⟨none,0,[],aj.nil,J,J⟩ J)
 refine rc T 4 (aV (cW (k:=(Fl.int .u8)) T ([]:List Int) J J J J J J J J J (λa2 H2 s2=>ro T 1 ?_)));obtain⟨c2,H⟩:=az H;refine aV (dQ (k:=(Fl.int .u8)) (xs:=([]:List Int)) T (g:=1) J J J J J J J J J J s2 (rO jJ 0) c2 J (λa3 n3 H3 s3=>ro T 4 ?_))
 cases H;exact p1 T J [1,0] ⟨a3,n3,H3,s3,J,J⟩ J
def sZ.f (s:(List aX)):Option (List aX):=if(aa ([]:List aX)+aa s<=1099511627776) then(some (([]:List aX)++s)) else none
def sZ.R (r:(List aX)):bj:=λu G=> ∃a0 n0 H0,aj cT 285 r a0 n0 H0/\u=(ll a0 r n0)/\G=[H0]
theorem sZ.c (H:sZ.f s=some r) (jJ:aO cT s ja F) (ss:aa s<=jg):
 QR 189 [(ll ja s jg)] [] [] F (sZ.R r):=by
 unfold sZ.f at H;refine aF Tryz.func189 J J (λW=>rc T 12 (B9 J (λc1=>?_) (λc1=>?_)))
 ·have hx:s=[]:=OV jJ c1;replace H:some []=some r:=by simpa[hx] using H
  refine rc T 7 ?_
  cases H;refine bz (p1 T J [1,0] ⟨none,0,[],aj.nil,J,J⟩ J)
 refine rc T 4 (aV (cW (k:=cT) T ([]:List aX) J J J J J J J J J (λa2 H2 s2=>ro T 1 ?_)));obtain⟨c2,H⟩:=az H;refine aV (dQ (k:=cT) (xs:=([]:List aX)) T (g:=1) J J J J J J J J J J s2 (rO jJ 0) c2 J (λa3 n3 H3 s3=>ro T 4 ?_))
 cases H;exact p1 T J [1,0] ⟨a3,n3,H3,s3,J,J⟩ J
def jT.l1:Nat->(List aX)->Int->List aX->Int->Int->Option (List aX)
 |0,_,_,_,_,_=>none
 |yb+1,s,x2,x7,x8,x9=>if x9<(aa (aA x7 x2 (aa s:Int)):Int) then(if(0<=x9/\x9<(aa (aA x7 x2 (aa s:Int)):Int)) then(if(0<=(af (x9-1))/\(af (x9-1))<(aa (aA x7 x2 (aa s:Int)):Int)) then(if(!(((rd (aA x7 x2 (aa s:Int)) x9).Cell==(rd (aA x7 x2 (aa s:Int)) (af (x9-1))).Cell)&&(((rd (aA x7 x2 (aa s:Int)) x9).cK==(rd (aA x7 x2 (aa s:Int)) (af (x9-1))).cK)&&(((rd (aA x7 x2 (aa s:Int)) x9).Key==(rd (aA x7 x2 (aa s:Int)) (af (x9-1))).Key)&&true))))=true then(if(0<=x8/\x8<(aa x7:Int)) then(jT.l1 yb s x2 (aD x7 (ax x8) (rd (aA x7 x2 (aa s:Int)) x9)) (af (x8+1)) (af (x9+1))) else none) else(jT.l1 yb s x2 x7 x8 (af (x9+1)))) else none) else none) else(if(0<=x8/\x8<=(aa x7:Int)/\(aa x7:Int)<=(aa x7:Int)) then(if(0<=(0:Int)/\(0:Int)<=x8/\x8<=(aa (cB x7 (ax x8) (aa (aA x7 x8 (aa x7:Int))) (cy (aa (aA x7 x8 (aa x7:Int))) (default:aX))):Int)) then(some (aA (cB x7 (ax x8) (aa (aA x7 x8 (aa x7:Int))) (cy (aa (aA x7 x8 (aa x7:Int))) (default:aX))) 0 x8)) else none) else none)
def jT.l0:Nat->(List aX)->Int->Option (List aX)
 |0,_,_=>none
 |k3+1,s,x2=>if x2<(aa s:Int) then(if(0<=x2/\x2<(aa s:Int)) then(if(0<=(af (x2-1))/\(af (x2-1))<(aa s:Int)) then(if(((rd s x2).Cell==(rd s (af (x2-1))).Cell)&&(((rd s x2).cK==(rd s (af (x2-1))).cK)&&(((rd s x2).Key==(rd s (af (x2-1))).Key)&&true)))=true then(if(0<=x2/\x2<=(aa s:Int)/\(aa s:Int)<=(aa s:Int)) then(jT.l1 fuel s x2 s x2 1) else none) else(jT.l0 k3 s (af (x2+1)))) else none) else none) else(some s)
def jT.f (s:(List aX)):Option (List aX):=if(aa s:Int)<2 then(some s) else(jT.l0 fuel s 1)
def jT.R (r:(List aX)):bj:=λu G=> ∃a0 n0 H0,aj cT 285 r a0 n0 H0/\u=(ll a0 r n0)/\G=[H0]
theorem jT.c (H:jT.f s=some r) (cR:aj cT 285 s ja jg dJ):
 QR 210 [(ll ja s jg)] [dJ] [] F (jT.R r):=by
 unfold jT.f at H;refine aF Tryz.func210 J J (λW=>rc T 13 (cd J H (λH=>?_) (λH=>?_)))
 ·refine rc T 8 ?_
  cases H;exact p1 T J [0,0] ⟨ja,jg,dJ,cR,J,J⟩ J
 refine rc T 9 (lq [0] [1,0] (λ(⟨k3,x2⟩:Nat×Int)=>(jT.l0 k3 s x2=some r,[(3,(ii x2))],[])) J J (fuel,1) [1,0] H J J ?_);rintro k3 x2 Z2;replace Z2:jT.l0 (k3+1) s x2=some r:=Z2;rw[jT.l0] at Z2;refine rc T 9 (cd J Z2 (λZ2=>?_) (λZ2=>?_))
 ·refine rc T 5 (dw mix aB (au T J (au T J ?_)));obtain⟨c4,Z2⟩:=az Z2;obtain⟨q2,o2,e2⟩:=cR.r.addr c4.1 c4.2;refine bf J J J (cu T J J J J J e2 c4.1 c4.2) (bf J J J (fY T (cs:=[(ii (rd s x2).Cell),(ii (rd s x2).cK),(ii (rd s x2).Key)]) J J J J J J (iy (k:=cT) (oO cR 1) e2 c4 J)) (au T J (au T J (au T J ?_))));obtain⟨c5,Z2⟩:=az Z2;refine bf J J J (cu T J J J J J e2 c5.1 c5.2) (bf J J J (fY T (cs:=[(ii (rd s (af (x2-1))).Cell),(ii (rd s (af (x2-1))).cK),(ii (rd s (af (x2-1))).Key)]) J J J J J J (iy (k:=cT) (oO cR 1) e2 c5 J)) (bf J J J (abx T (((rd s x2).Cell==(rd s (af (x2-1))).Cell)&&(((rd s x2).cK==(rd s (af (x2-1))).cK)&&(((rd s x2).Key==(rd s (af (x2-1))).Key)&&true))) J J J J PM aB J) (cO (rx T 1 (cb J Z2 (λZ2=>?_) (λZ2=>?_))))))
  ·refine rc T 4 ?_;obtain⟨c7,Z2⟩:=az Z2;refine bA J (kS T J J J J J J c7 cR.bZ) (ro T 10 (lq [] [0] (λ(⟨yb,x7,x8,x9,a5,n5,H5⟩:Nat×List aX×Int×Int×Option Addr×Nat×Hp)=>(jT.l1 yb s x2 x7 x8 x9=some r/\aj cT 285 x7 a5 n5 H5/\(0<=x2/\x2<=(aa s:Int)/\(aa s:Int)<=(aa x7:Int)),[(0,(ll a5 x7 n5)),(3,(ii x8)),(4,(ll (gp a5 n5 (ax x2) 3) (aA x7 x2 (aa s:Int)) (n5-ax x2))),(5,(ii x9))],[H5])) J J (fuel,s,x2,1,ja,jg,dJ) [0,0] ⟨Z2,cR,c7⟩ J J ?_));rintro yb ⟨x7,x8,x9,a5,n5,H5⟩ ⟨Z8,s5,Aw⟩;rw[jT.l1] at Z8;refine rc T 9 (cd J Z8 (λZ8=>?_) (λZ8=>?_))
   ·refine rc T 5 (dw mix aB (au T J (au T J ?_)));obtain⟨iP,Z8⟩:=az Z8;obtain⟨q7,o7,e7⟩:=(nC s5.r Aw s5.bZ).addr iP.1 iP.2;refine bf J J J (cu T J J J J J e7 iP.1 iP.2) (bf J J J (fY T (cs:=[(ii (rd (aA x7 x2 (aa s:Int)) x9).Cell),(ii (rd (aA x7 x2 (aa s:Int)) x9).cK),(ii (rd (aA x7 x2 (aa s:Int)) x9).Key)]) J J J J J J (iy (k:=cT) (nC (oO s5 1) Aw s5.bZ) e7 iP J)) (au T J (au T J (au T J ?_))));obtain⟨dK,Z8⟩:=az Z8;refine bf J J J (cu T J J J J J e7 dK.1 dK.2) (bf J J J (fY T (cs:=[(ii (rd (aA x7 x2 (aa s:Int)) (af (x9-1))).Cell),(ii (rd (aA x7 x2 (aa s:Int)) (af (x9-1))).cK),(ii (rd (aA x7 x2 (aa s:Int)) (af (x9-1))).Key)]) J J J J J J (iy (k:=cT) (nC (oO s5 1) Aw s5.bZ) e7 dK J)) (bf J J J (MX T (((rd (aA x7 x2 (aa s:Int)) x9).Cell==(rd (aA x7 x2 (aa s:Int)) (af (x9-1))).Cell)&&(((rd (aA x7 x2 (aa s:Int)) x9).cK==(rd (aA x7 x2 (aa s:Int)) (af (x9-1))).cK)&&(((rd (aA x7 x2 (aa s:Int)) x9).Key==(rd (aA x7 x2 (aa s:Int)) (af (x9-1))).Key)&&true))) J J J J PM aB J) (cO (rx T 1 (cb J Z8 (λZ8=>?_) (λZ8=>?_))))))
    ·refine rc T 6 (ix T J e7 iP (bA J (fY T (cs:=[(ii (rd (aA x7 x2 (aa s:Int)) x9).Cell),(ii (rd (aA x7 x2 (aa s:Int)) x9).cK),(ii (rd (aA x7 x2 (aa s:Int)) x9).Key)]) J J J J J J (iy (k:=cT) (nC (oO s5 1) Aw s5.bZ) e7 iP J)) ?_));obtain⟨jn,Z8⟩:=az Z8;obtain⟨q8,o8,e8⟩:=s5.r.addr jn.1 jn.2;refine ix T J e8 jn (aV (jZ (k:=cT) T 1 0 (rd (aA x7 x2 (aa s:Int)) x9) J J J J J J s5 e8 jn J J J (λH9 s9=>?_)));have Qo:(0<=x2/\x2<=(aa s:Int)/\(aa s:Int)<=(aa (aD x7 (ax x8) (rd (aA x7 x2 (aa s:Int)) x9)):Int)):=by simp only[nO];exact Aw
     have IZ:(0<=x2/\x2<=(aa s:Int)/\(aa s:Int)<=(aa (aD x7 (ax x8) (rd (aA x7 x2 (aa s:Int)) x9)):Int)):=by simp only[nO];exact Aw
     refine kf [3,5] [0,0] [(0,(ll a5 (aD x7 (ax x8) (rd (aA x7 x2 (aa s:Int)) x9)) n5)),(4,(ll (gp a5 n5 (ax x2) 3) (aA (aD x7 (ax x8) (rd (aA x7 x2 (aa s:Int)) x9)) x2 (aa s:Int)) (n5-ax x2)))] J J ⟨dB,(by simp only[ll];rw[iV Qo,<-iV Aw];rfl),trivial⟩ (ro T 15 ?_)
     exact ar (_,_,_,_,_,_) [0,0] ⟨Z8,s9,Qo⟩ J J
    refine rc T 9 (ar (_,_,_,_,_,_) [0,0] ⟨Z8,s5,Aw⟩ J J)
   refine rc T 9 ?_;obtain⟨qj,Z8⟩:=az Z8;refine bA J (kS T J J J J J J qj s5.bZ) ?_;have IX:(ax x8)+(aa (aA x7 x8 (aa x7:Int)))<=aa x7:=(Ih qj);refine aV (Zb (k:=cT) (xs:=x7) (lo:=(ax x8)) (g:=1) T (default:aX) J J J J J J J J s5 (.inr J) IX (λbT bL=>?_));have Qp:(0<=x2/\x2<=(aa s:Int)/\(aa s:Int)<=(aa (cB x7 (ax x8) (aa (aA x7 x8 (aa x7:Int))) (cy (aa (aA x7 x8 (aa x7:Int))) (default:aX))):Int)):=by simp only[Mv IX];exact Aw
   have I0:(0<=x8/\x8<=(aa x7:Int)/\(aa x7:Int)<=(aa (cB x7 (ax x8) (aa (aA x7 x8 (aa x7:Int))) (cy (aa (aA x7 x8 (aa x7:Int))) (default:aX))):Int)):=by simp only[Mv IX];exact qj
   refine kf [3] [0,0] [(0,(ll a5 (cB x7 (ax x8) (aa (aA x7 x8 (aa x7:Int))) (cy (aa (aA x7 x8 (aa x7:Int))) (default:aX))) n5))] J J ⟨(by first |rfl |(simp only[ll,Mv IX];rfl)),trivial⟩ (ro T 6 ?_)
   obtain⟨F1,Z8⟩:=az Z8;refine bA J (kS T J J J J J J F1 bL.bZ) (ro T 9 ?_)
   cases Z8;exact p1 T J [1,0] ⟨(gp a5 n5 (ax 0) 3),(n5-ax 0),bT,(aj.pre bL F1),J,J⟩ J
  refine rc T 9 (ar _ [0,0] Z2 J J)
 refine rc T 12 ?_
 cases Z2;exact p1 T J [1,0] ⟨ja,jg,dJ,cR,J,J⟩ J
def kD.l0:Nat->List Int->Int->Option (List Int)
 |0,_,_=>none
 |k8+1,x6,x7=>if x7<(aa x6:Int) then(if(0<=x7/\x7<=(aa x6:Int)/\(aa x6:Int)<=(aa x6:Int)) then(if(0<=(0:Int)/\(0:Int)<=x7/\x7<=(aa x6:Int)) then(kD.l0 k8 (cB x6 (ax x7) (min (aa (aA x6 0 x7)) (aa (aA x6 x7 (aa x6:Int)))) (aA x6 0 x7)) (af (x7+(((min (aa (aA x6 0 x7)) (aa (aA x6 x7 (aa x6:Int)))):Nat):Int)))) else none) else none) else(some x6)
def kD.f (x:(List Int)) (count:Int):Option (List Int):=if count<0 then(none) else((uc.f (eZ (aa x:Int)) (eZ count)).bind λv1=>if((decide (v1.1>0))||(decide (v1.2>9223372036854775807)))=true then(none) else(if(0<=(af v1.2)/\(af v1.2)<=1099511627776) then((kD.l0 fuel (cB (cy (ax (af v1.2)) (0:Int)) 0 (min (aa x) (aa (cy (ax (af v1.2)) (0:Int)))) x) (((min (aa x) (aa (cy (ax (af v1.2)) (0:Int)))):Nat):Int)).bind λx2=>some x2) else none))
def kD.R (r:(List Int)):bj:=λu G=> ∃a0 n0 H0,aj (Fl.int .i64) 3 r a0 n0 H0/\u=(ll a0 r n0)/\G=[H0]
theorem kD.c (H:kD.f x count=some r) (zC:aO (Fl.int .i64) x FJ F) (Rh:aa x<=HB):
 QR 248 [(ll FJ x HB),(ii count)] [] [] F (kD.R r):=by
 unfold kD.f at H;refine aF Tryz.func248 J J (λW=>rc T 12 (cd J H (λH=>?_) (λH=>?_)))
 ·cases H
 refine rc T 9 (k [] J Nw H (uc.c ·) (λv1 H=>ro T 13 (go T [3,4,5] 23 [0,6] 26 J J J J J J J (ro T 2 (cb J H (λH=>?_) (λH=>?_))))))
 ·cases H
 refine rc T 6 ?_;obtain⟨c4,H⟩:=az H;refine aV (xy (k:=(Fl.int .i64)) T (0:Int) J J J J J J J J c4 J (λa1 n1 H1 s1=>ro T 7 ?_));have L5:0+(aa (cy (ax (af v1.2)) (0:Int)))<=aa (cy (ax (af v1.2)) (0:Int)):=(MV _);refine aV (B_ (k:=(Fl.int .i64)) (xs:=(cy (ax (af v1.2)) (0:Int))) (ys:=x) (lo:=0) (g:=1) T J J J J J J J J s1 (rO zC 0) (.inl ⟨J,J⟩) L5 (λH2 s2=>kf [33] [0,0] [(7,(ll a1 (cB (cy (ax (af v1.2)) (0:Int)) 0 (min (aa x) (aa (cy (ax (af v1.2)) (0:Int)))) x) n1))] J J ⟨(by first |rfl |(simp only[ll,mf L5];rfl)),trivial⟩ (ro T 3 ?_)))
 refine mq H [] [0] (λz3 (⟨x2,a3,n3,H3⟩:List Int×Option Addr×Nat×Hp)=>(x2=z3/\aj (Fl.int .i64) 3 x2 a3 n3 H3,[(7,(ll a3 x2 n3))],[H3])) J J (λz3 Z6 _=>?_) ?_
 ·refine rc T 1 (lq [] [0] (λ(⟨k8,x6,x7,a5,n5,H5⟩:Nat×List Int×Int×Option Addr×Nat×Hp)=>(kD.l0 k8 x6 x7=some z3/\aj (Fl.int .i64) 3 x6 a5 n5 H5,[(7,(ll a5 x6 n5)),(8,(ii x7))],[H5])) J J (fuel,(cB (cy (ax (af v1.2)) (0:Int)) 0 (min (aa x) (aa (cy (ax (af v1.2)) (0:Int)))) x),(((min (aa x) (aa (cy (ax (af v1.2)) (0:Int)))):Nat):Int),a1,n1,H2) [0,0] ⟨Z6,s2⟩ J J ?_);rintro k8 ⟨x6,x7,a5,n5,H5⟩ ⟨Z7,s5⟩;rw[kD.l0] at Z7;refine rc T 9 (cd J Z7 (λZ7=>?_) (λZ7=>?_))
  ·refine rc T 3 (fz J (rz [7] mix (bH bG) (λhg pf=>ha T 7 [0,1,2] sz hg pf J ?_)));obtain⟨c9,Z7⟩:=az Z7;refine av 3 sz hg pf J (kS T J J J J J J c9 s5.bZ) (ha T 4 [4,5] sz hg pf J ?_);obtain⟨iP,Z7⟩:=az Z7;refine av 6 sz hg pf J (kS T J J J J J J iP s5.bZ) (ao 7 ?_);have tn:(ax x7)+(aa (aA x6 x7 (aa x6:Int)))<=aa x6:=(Ih c9);refine B_ (k:=(Fl.int .i64)) (xs:=x6) (ys:=(aA x6 0 x7)) (lo:=(ax x7)) (g:=1) T J J J J J J J J s5 (nC (oO s5 1) iP s5.bZ) (.inr J) tn (λH6 s6=>?_);have LS:(0<=x7/\x7<=(aa x6:Int)/\(aa x6:Int)<=(aa (cB x6 (ax x7) (min (aa (aA x6 0 x7)) (aa (aA x6 x7 (aa x6:Int)))) (aA x6 0 x7)):Int)):=by simp only[mf tn];exact c9
   have LU:(0<=(0:Int)/\(0:Int)<=x7/\x7<=(aa (cB x6 (ax x7) (min (aa (aA x6 0 x7)) (aa (aA x6 x7 (aa x6:Int)))) (aA x6 0 x7)):Int)):=by simp only[mf tn];exact iP
   refine kf [8,37,38,40,43,45] [0,0] [(7,(ll a5 (cB x6 (ax x7) (min (aa (aA x6 0 x7)) (aa (aA x6 x7 (aa x6:Int)))) (aA x6 0 x7)) n5)),(39,(ll a5 (cB x6 (ax x7) (min (aa (aA x6 0 x7)) (aa (aA x6 x7 (aa x6:Int)))) (aA x6 0 x7)) n5)),(41,(ll (gp a5 n5 (ax x7) 1) (aA (cB x6 (ax x7) (min (aa (aA x6 0 x7)) (aa (aA x6 x7 (aa x6:Int)))) (aA x6 0 x7)) x7 (aa x6:Int)) (n5-ax x7))),(42,(ll a5 (cB x6 (ax x7) (min (aa (aA x6 0 x7)) (aa (aA x6 x7 (aa x6:Int)))) (aA x6 0 x7)) n5)),(44,(ll (gp a5 n5 (ax 0) 1) (aA (cB x6 (ax x7) (min (aa (aA x6 0 x7)) (aa (aA x6 x7 (aa x6:Int)))) (aA x6 0 x7)) 0 x7) (n5-ax 0)))] J J ⟨(by first |rfl |(simp only[ll,mf tn];rfl)),(by first |rfl |(simp only[ll,mf tn];rfl)),(by simp only[ll];rw[iV LS,<-iV c9];rfl),(by first |rfl |(simp only[ll,mf tn];rfl)),(by simp only[ll];rw[iV LU,<-iV iP];rfl),trivial⟩ (an sl (hb T 8 sl hg pf J (hb T 9 sl hg pf J (ae (rx T 2 ?_)))))
   exact ar (_,_,_,_,_) [0,0] ⟨Z7,s6⟩ J J
  refine rc T 5 (am (_,_,_,_) [0,0] ⟨oi Z7,s5⟩ J J)
 rintro _ ⟨x2,a3,n3,H3⟩ ⟨rfl,s3⟩ H;refine rc T 7 ?_
 cases H;exact p1 T J [1,0] ⟨a3,n3,H3,s3,J,J⟩ J
def p_.l0:Nat->List Int->Int->Option (List Int)
 |0,_,_=>none
 |k8+1,x6,x7=>if x7<(aa x6:Int) then(if(0<=x7/\x7<=(aa x6:Int)/\(aa x6:Int)<=(aa x6:Int)) then(if(0<=(0:Int)/\(0:Int)<=x7/\x7<=(aa x6:Int)) then(p_.l0 k8 (cB x6 (ax x7) (min (aa (aA x6 0 x7)) (aa (aA x6 x7 (aa x6:Int)))) (aA x6 0 x7)) (af (x7+(((min (aa (aA x6 0 x7)) (aa (aA x6 x7 (aa x6:Int)))):Nat):Int)))) else none) else none) else(some x6)
def p_.f (x:(List Int)) (count:Int):Option (List Int):=if count<0 then(none) else((uc.f (eZ (aa x:Int)) (eZ count)).bind λv1=>if((decide (v1.1>0))||(decide (v1.2>9223372036854775807)))=true then(none) else(if(0<=(af v1.2)/\(af v1.2)<=1099511627776) then((p_.l0 fuel (cB (cy (ax (af v1.2)) (0:Int)) 0 (min (aa x) (aa (cy (ax (af v1.2)) (0:Int)))) x) (((min (aa x) (aa (cy (ax (af v1.2)) (0:Int)))):Nat):Int)).bind λx2=>some x2) else none))
def p_.R (r:(List Int)):bj:=λu G=> ∃a0 n0 H0,aj (Fl.int .i32) 21 r a0 n0 H0/\u=(ll a0 r n0)/\G=[H0]
theorem p_.c (H:p_.f x count=some r) (zC:aO (Fl.int .i32) x FJ F) (Rh:aa x<=HB):
 QR 212 [(ll FJ x HB),(ii count)] [] [] F (p_.R r):=by
 unfold p_.f at H;refine aF Tryz.func212 J J (λW=>rc T 12 (cd J H (λH=>?_) (λH=>?_)))
 ·cases H
 refine rc T 9 (k [] J Nw H (uc.c ·) (λv1 H=>ro T 13 (go T [3,4,5] 23 [0,6] 26 J J J J J J J (ro T 2 (cb J H (λH=>?_) (λH=>?_))))))
 ·cases H
 refine rc T 6 ?_;obtain⟨c4,H⟩:=az H;refine aV (xy (k:=(Fl.int .i32)) T (0:Int) J J J J J J J J c4 J (λa1 n1 H1 s1=>ro T 7 ?_));have L5:0+(aa (cy (ax (af v1.2)) (0:Int)))<=aa (cy (ax (af v1.2)) (0:Int)):=(MV _);refine aV (B_ (k:=(Fl.int .i32)) (xs:=(cy (ax (af v1.2)) (0:Int))) (ys:=x) (lo:=0) (g:=1) T J J J J J J J J s1 (rO zC 0) (.inl ⟨J,J⟩) L5 (λH2 s2=>kf [33] [0,0] [(7,(ll a1 (cB (cy (ax (af v1.2)) (0:Int)) 0 (min (aa x) (aa (cy (ax (af v1.2)) (0:Int)))) x) n1))] J J ⟨(by first |rfl |(simp only[ll,mf L5];rfl)),trivial⟩ (ro T 3 ?_)))
 refine mq H [] [0] (λz3 (⟨x2,a3,n3,H3⟩:List Int×Option Addr×Nat×Hp)=>(x2=z3/\aj (Fl.int .i32) 21 x2 a3 n3 H3,[(7,(ll a3 x2 n3))],[H3])) J J (λz3 Z6 _=>?_) ?_
 ·refine rc T 1 (lq [] [0] (λ(⟨k8,x6,x7,a5,n5,H5⟩:Nat×List Int×Int×Option Addr×Nat×Hp)=>(p_.l0 k8 x6 x7=some z3/\aj (Fl.int .i32) 21 x6 a5 n5 H5,[(7,(ll a5 x6 n5)),(8,(ii x7))],[H5])) J J (fuel,(cB (cy (ax (af v1.2)) (0:Int)) 0 (min (aa x) (aa (cy (ax (af v1.2)) (0:Int)))) x),(((min (aa x) (aa (cy (ax (af v1.2)) (0:Int)))):Nat):Int),a1,n1,H2) [0,0] ⟨Z6,s2⟩ J J ?_);rintro k8 ⟨x6,x7,a5,n5,H5⟩ ⟨Z7,s5⟩;rw[p_.l0] at Z7;refine rc T 9 (cd J Z7 (λZ7=>?_) (λZ7=>?_))
  ·refine rc T 3 (fz J (rz [7] mix (bH bG) (λhg pf=>ha T 7 [0,1,2] sz hg pf J ?_)));obtain⟨c9,Z7⟩:=az Z7;refine av 3 sz hg pf J (kS T J J J J J J c9 s5.bZ) (ha T 4 [4,5] sz hg pf J ?_);obtain⟨iP,Z7⟩:=az Z7;refine av 6 sz hg pf J (kS T J J J J J J iP s5.bZ) (ao 7 ?_);have tn:(ax x7)+(aa (aA x6 x7 (aa x6:Int)))<=aa x6:=(Ih c9);refine B_ (k:=(Fl.int .i32)) (xs:=x6) (ys:=(aA x6 0 x7)) (lo:=(ax x7)) (g:=1) T J J J J J J J J s5 (nC (oO s5 1) iP s5.bZ) (.inr J) tn (λH6 s6=>?_);have LS:(0<=x7/\x7<=(aa x6:Int)/\(aa x6:Int)<=(aa (cB x6 (ax x7) (min (aa (aA x6 0 x7)) (aa (aA x6 x7 (aa x6:Int)))) (aA x6 0 x7)):Int)):=by simp only[mf tn];exact c9
   have LU:(0<=(0:Int)/\(0:Int)<=x7/\x7<=(aa (cB x6 (ax x7) (min (aa (aA x6 0 x7)) (aa (aA x6 x7 (aa x6:Int)))) (aA x6 0 x7)):Int)):=by simp only[mf tn];exact iP
   refine kf [8,37,38,40,43,45] [0,0] [(7,(ll a5 (cB x6 (ax x7) (min (aa (aA x6 0 x7)) (aa (aA x6 x7 (aa x6:Int)))) (aA x6 0 x7)) n5)),(39,(ll a5 (cB x6 (ax x7) (min (aa (aA x6 0 x7)) (aa (aA x6 x7 (aa x6:Int)))) (aA x6 0 x7)) n5)),(41,(ll (gp a5 n5 (ax x7) 1) (aA (cB x6 (ax x7) (min (aa (aA x6 0 x7)) (aa (aA x6 x7 (aa x6:Int)))) (aA x6 0 x7)) x7 (aa x6:Int)) (n5-ax x7))),(42,(ll a5 (cB x6 (ax x7) (min (aa (aA x6 0 x7)) (aa (aA x6 x7 (aa x6:Int)))) (aA x6 0 x7)) n5)),(44,(ll (gp a5 n5 (ax 0) 1) (aA (cB x6 (ax x7) (min (aa (aA x6 0 x7)) (aa (aA x6 x7 (aa x6:Int)))) (aA x6 0 x7)) 0 x7) (n5-ax 0)))] J J ⟨(by first |rfl |(simp only[ll,mf tn];rfl)),(by first |rfl |(simp only[ll,mf tn];rfl)),(by simp only[ll];rw[iV LS,<-iV c9];rfl),(by first |rfl |(simp only[ll,mf tn];rfl)),(by simp only[ll];rw[iV LU,<-iV iP];rfl),trivial⟩ (an sl (hb T 8 sl hg pf J (hb T 9 sl hg pf J (ae (rx T 2 ?_)))))
   exact ar (_,_,_,_,_) [0,0] ⟨Z7,s6⟩ J J
  refine rc T 5 (am (_,_,_,_) [0,0] ⟨oi Z7,s5⟩ J J)
 rintro _ ⟨x2,a3,n3,H3⟩ ⟨rfl,s3⟩ H;refine rc T 7 ?_
 cases H;exact p1 T J [1,0] ⟨a3,n3,H3,s3,J,J⟩ J
def qO.f (s:(List Int)):Option (List Int):=if(aa ([]:List Int)+aa s<=1099511627776) then(some (([]:List Int)++s)) else none
def qO.R (r:(List Int)):bj:=λu G=> ∃a0 n0 H0,aj (Fl.int .i64) 3 r a0 n0 H0/\u=(ll a0 r n0)/\G=[H0]
theorem qO.c (H:qO.f s=some r) (jJ:aO (Fl.int .i64) s ja F) (ss:aa s<=jg):
 QR 227 [(ll ja s jg)] [] [] F (qO.R r):=by
 unfold qO.f at H;refine aF Tryz.func227 J J (λW=>rc T 12 (B9 J (λc1=>?_) (λc1=>?_)))
 ·have hx:s=[]:=OV jJ c1;replace H:some []=some r:=by simpa[hx] using H
  refine rc T 7 ?_
  cases H;refine bz (p1 T J [1,0] ⟨none,0,[],aj.nil,J,J⟩ J)
 refine rc T 4 (aV (cW (k:=(Fl.int .i64)) T ([]:List Int) J J J J J J J J J (λa2 H2 s2=>ro T 1 ?_)));obtain⟨c2,H⟩:=az H;refine aV (dQ (k:=(Fl.int .i64)) (xs:=([]:List Int)) T (g:=1) J J J J J J J J J J s2 (rO jJ 0) c2 J (λa3 n3 H3 s3=>ro T 4 ?_))
 cases H;exact p1 T J [1,0] ⟨a3,n3,H3,s3,J,J⟩ J
def BB.f (x:Int):Option Bool:=some (x !=x)
theorem BB.c (H:BB.f x=some r):
 QU 301 [(ii x)] [] F (bb r):=by
 unfold BB.f at H;refine aF Tryz.func301 J J (λW=>rc T 14 ?_)
 cases H;exact p0 T J [0] J
def pg.l0:Nat->(List Int)->Int->Int->Int->Option Int
 |0,_,_,_,_=>none
 |k7+1,x,target,x5,x6=>if x5<x6 then(if(0<=(af (fQ (eZ (af (x5+x6))) (2^1)))/\(af (fQ (eZ (af (x5+x6))) (2^1)))<(aa x:Int)) then((cmp_Less_int.f (rd x (af (fQ (eZ (af (x5+x6))) (2^1)))) target).bind λv8=>if v8=true then(pg.l0 k7 x target (af ((af (fQ (eZ (af (x5+x6))) (2^1)))+1)) x6) else(pg.l0 k7 x target x5 (af (fQ (eZ (af (x5+x6))) (2^1))))) else none) else(some x5)
def pg.f (x:(List Int)) (target:Int):Option (Int×Bool):=(pg.l0 fuel x target 0 (aa x:Int)).bind λx1=>(if x1<(aa x:Int) then(if(0<=x1/\x1<(aa x:Int)) then(if((rd x x1)==target)=true then(some true) else((BB.f (rd x x1)).bind λv11=>if v11=true then((BB.f target).bind λv12=>some v12) else(some false))) else none) else(some false)).bind λx9=>some (x1,x9)
theorem pg.c (H:pg.f x target=some r) (zC:aO (Fl.int .i64) x FJ F) (Rh:aa x<=HB):
 QU 289 [(ll FJ x HB),(ii target)] [] F (.tuple #[(ii r.1),(bb r.2)]):=by
 unfold pg.f at H;refine aF Tryz.func289 J J (λW=>rc T 20 (mq H [0,1,6] [0] (λz2 (x1:Int)=>(x1=z2,[(7,(ii x1))],[])) J J (λz2 Z1 _=>?_) ?_))
 ·refine rc T 1 (lq [0,1,6] [0] (λ(⟨k7,x5,x6⟩:Nat×Int×Int)=>(pg.l0 k7 x target x5 x6=some z2,[(7,(ii x5)),(8,(ii x6))],[])) J J (fuel,0,(aa x:Int)) [0] Z1 J J ?_);rintro k7 ⟨x5,x6⟩ Z2;replace Z2:pg.l0 (k7+1) x target x5 x6=some z2:=Z2;rw[pg.l0] at Z2;refine rc T 8 (cd J Z2 (λZ2=>?_) (λZ2=>?_))
  ·refine rc T 18 ?_;obtain⟨c4,Z2⟩:=az Z2;obtain⟨q1,o1,e1⟩:=zC.addr c4.1 c4.2;refine ix T J e1 c4 (le T 0 (rO zC 0) e1 c4 J J (ro T 1 (k [] J adH Z2 (cmp_Less_int.c ·) (λv8 Z2=>ro T 2 (cb J Z2 (λZ2=>?_) (λZ2=>?_))))))
   ·refine rc T 7 (ar (_,_) [0] Z2 J J)
   refine rc T 6 (ar (_,_) [0] Z2 J J)
  refine rc T 5 (am _ [0] (oi Z2) J J)
 rintro _ x1 rfl H;refine mq H [] [0] (λmy (x9:Bool)=>(x9=my,[(4,(ii x1)),(5,(bb x9))],[])) J J (λmy Z7 _=>?_) ?_
 ·refine rc T 6 (ad 35 J Z7 (λZ7=>?_) (λZ7=>?_))
  ·refine ro T 2 ?_;obtain⟨c9,Z7⟩:=az Z7;obtain⟨q2,o2,e2⟩:=zC.addr c9.1 c9.2;refine ix T J e2 c9 (le T 0 (rO zC 0) e2 c9 J J (ro T 3 (ab 42 J Z7 (λZ7=>?_) (λZ7=>?_))))
   ·refine ro T 15 (am _ [0] (oi Z7) J J)
   refine ro T 2 (ix T J e2 c9 (le T 0 (rO zC 0) e2 c9 J J (k [] J Tt Z7 (BB.c ·) (λv11 Z7=>ro T 1 (ab 48 J Z7 (λZ7=>?_) (λZ7=>?_))))))
   ·refine ro T 1 (k [] J Tt Z7 (BB.c ·) (λv12 Z7=>ro T 7 (am _ [0] (oi Z7) J J)))
   refine ro T 9 (am _ [0] (oi Z7) J J)
  refine ro T 22 (am _ [0] (oi Z7) J J)
 rintro _ x9 rfl H;refine rc T 1 ?_
 cases H;exact p0 T J [0] J
def rL.l0:Nat->(List aX)->(List aX)->Int->Option Bool
 |0,_,_,_=>none
 |k3+1,ag,ai,x2=>if x2<(aa ag:Int) then(if(0<=x2/\x2<(aa ag:Int)) then(if(0<=x2/\x2<(aa ai:Int)) then(if(!(((rd ag x2).Cell==(rd ai x2).Cell)&&(((rd ag x2).cK==(rd ai x2).cK)&&(((rd ag x2).Key==(rd ai x2).Key)&&true))))=true then(some false) else(rL.l0 k3 ag ai (af (x2+1)))) else none) else none) else(some true)
def rL.f (ag:(List aX)) (ai:(List aX)):Option Bool:=if((aa ag:Int)!=(aa ai:Int))=true then(some false) else(rL.l0 fuel ag ai 0)
theorem rL.c (H:rL.f ag ai=some r) (wg:aO cT ag FI F) (Re:aa ag<=HA) (SB:aO cT ai Yx F) (ajs:aa ai<=af2):
 QU 226 [(ll FI ag HA),(ll Yx ai af2)] [] F (bb r):=by
 unfold rL.f at H;refine aF Tryz.func226 J J (λW=>rc T 15 (cb J H (λH=>?_) (λH=>?_)))
 ·refine rc T 7 ?_
  cases H;exact p0 T J [0] J
 refine rc T 11 (lq [0,1,12] [0] (λ(⟨k3,x2⟩:Nat×Int)=>(rL.l0 k3 ag ai x2=some r,[(13,(ii x2))],[])) J J (fuel,0) [0] H J J ?_);rintro k3 x2 Z2;replace Z2:rL.l0 (k3+1) ag ai x2=some r:=Z2;rw[rL.l0] at Z2;refine rc T 6 (cd J Z2 (λZ2=>?_) (λZ2=>?_))
 ·refine rc T 11 (dw mix aB (au T J (au T J ?_)));obtain⟨c4,Z2⟩:=az Z2;obtain⟨q1,o1,e1⟩:=wg.addr c4.1 c4.2;refine bf J J J (cu T J J J J J e1 c4.1 c4.2) (bf J J J (fY T (cs:=[(ii (rd ag x2).Cell),(ii (rd ag x2).cK),(ii (rd ag x2).Key)]) J J J J J J (iy (k:=cT) (rO wg 0) e1 c4 J)) (au T J (au T J ?_)));obtain⟨c5,Z2⟩:=az Z2;obtain⟨q2,o2,e2⟩:=SB.addr c5.1 c5.2;refine bf J J J (cu T J J J J J e2 c5.1 c5.2) (bf J J J (fY T (cs:=[(ii (rd ai x2).Cell),(ii (rd ai x2).cK),(ii (rd ai x2).Key)]) J J J J J J (iy (k:=cT) (rO SB 0) e2 c5 J)) (bf J J J (MX T (((rd ag x2).Cell==(rd ai x2).Cell)&&(((rd ag x2).cK==(rd ai x2).cK)&&(((rd ag x2).Key==(rd ai x2).Key)&&true))) J J J J PM aB J) (cO (rx T 1 (cb J Z2 (λZ2=>?_) (λZ2=>?_))))))
  ·refine rc T 11 ?_
   cases Z2;exact p0 T J [0] J
  refine rc T 8 (ar _ [0] Z2 J J)
 refine rc T 11 ?_
 cases Z2;exact p0 T J [0] J
end
noncomputable section
def BK.f (n:Int):Option Bool:=some ((decide (n≥1))&&(decide (n<=16)))
theorem BK.c (H:BK.f n=some r):
 QU 245 [(ii n)] [] F (bb r):=by
 unfold BK.f at H;refine aF Tryz.func245 J J (λW=>rc T 10 (ga T [3,4,5] 5 [] 8 J J J J J J J (ro T 4 ?_)))
 cases H;exact p0 T J [0] J
def uH.f (t:aG):Option Bool:=((BK.f t.W).bind λv3=>if v3=true then((BK.f t.H).bind λv4=>if v4=true then(if((aa t.C:Int)==(af (t.W*t.H)))=true then((xa.f t.C 0).bind λv5=>some (!v5)) else(some false)) else(some false)) else(some false)).bind λx1=>some x1
theorem uH.c (H:uH.f t=some r) (d_:aO (Fl.int .u8) t.C iD F) (fy:aa t.C<=iE):
 QU 220 [(.agg #[(ii t.W),(ii t.H),(ll iD t.C iE)])] [] F (bb r):=by
 unfold uH.f at H;refine aF Tryz.func220 J J (λW=>rc T 2 (nc T J (λb1=>ro T 3 (mq H [] [0] (λz2 (x1:Bool)=>(x1=z2,[(2,(bb x1))],[])) J J (λz2 Z1 _=>?_) ?_))))
 ·refine rc T 2 (lf T 1 J (k [] J Tj Z1 (BK.c ·) (λv3 Z1=>ro T 1 (ab 6 J Z1 (λZ1=>?_) (λZ1=>?_)))))
  ·refine ro T 1 (lf T 1 J (k [] J Tj Z1 (BK.c ·) (λv4 Z1=>ro T 2 (ab 11 J Z1 (λZ1=>?_) (λZ1=>?_)))))
   ·refine ro T 1 (lf T 1 J (ro T 2 (lf T 1 J (ro T 1 (lf T 1 J (ro T 4 (ab 22 J Z1 (λZ1=>?_) (λZ1=>?_))))))))
    ·refine ro T 1 (lf T 1 J (k [] J Ns Z1 (xa.c · (rO d_ 0) fy) (λv5 Z1=>ro T 5 (am _ [0] (oi Z1) J J))))
    refine ro T 8 (am _ [0] (oi Z1) J J)
   refine ro T 19 (am _ [0] (oi Z1) J J)
  refine ro T 24 (am _ [0] (oi Z1) J J)
 rintro _ x1 rfl H;refine rc T 1 ?_
 cases H;exact p0 T J [0] J
def Fb.f (t:aG) (ai:Int):Option Bool:=(if ai≥0 then(if ai<(aa t.C:Int) then((uH.f t).bind λv3=>some v3) else(some false)) else(some false)).bind λx1=>some x1
theorem Fb.c (H:Fb.f t ai=some r) (d_:aO (Fl.int .u8) t.C iD F) (fy:aa t.C<=iE):
 QU 299 [(.agg #[(ii t.W),(ii t.H),(ll iD t.C iE)]),(ii ai)] [] F (bb r):=by
 unfold Fb.f at H;refine aF Tryz.func299 J J (λW=>rc T 2 (nc T J (λb1=>ro T 3 (mq H [] [0] (λz2 (x1:Bool)=>(x1=z2,[(4,(bb x1))],[])) J J (λz2 Z1 _=>?_) ?_))))
 ·refine rc T 4 (ad 7 J Z1 (λZ1=>?_) (λZ1=>?_))
  ·refine ro T 2 (lf T 1 J (ro T 4 (ad 14 J Z1 (λZ1=>?_) (λZ1=>?_))))
   ·refine lm T 1 J (k [] J JX Z1 (uH.c · (rO d_ 0) fy) (λv3 Z1=>ro T 4 (am _ [0] (oi Z1) J J)))
   refine ro T 6 (am _ [0] (oi Z1) J J)
  refine ro T 13 (am _ [0] (oi Z1) J J)
 rintro _ x1 rfl H;refine rc T 1 ?_
 cases H;exact p0 T J [0] J
def BJ.f (t:aG) (ai:Int):Option Int:=(Fb.f t ai).bind λv1=>if(!v1)=true then(some 0) else(if(0<=ai/\ai<(aa t.C:Int)) then(some (af (rd t.C ai))) else none)
theorem BJ.c (H:BJ.f t ai=some r) (d_:aO (Fl.int .u8) t.C iD F) (fy:aa t.C<=iE):
 QU 288 [(.agg #[(ii t.W),(ii t.H),(ll iD t.C iE)]),(ii ai)] [] F (ii r):=by
 unfold BJ.f at H;refine aF Tryz.func288 J J (λW=>rc T 2 (nc T J (λb1=>ro T 6 (lm T 1 J (ro T 1 (k [] J adG H (Fb.c · (rO d_ 0) fy) (λv1 H=>ro T 3 (cb J H (λH=>?_) (λH=>?_)))))))))
 ·refine rc T 7 ?_
  cases H;exact p0 T J [0] J
 refine rc T 5 (lf T 1 J (ro T 1 ?_));obtain⟨c3,H⟩:=az H;obtain⟨q2,o2,e2⟩:=d_.addr c3.1 c3.2;refine ix T J e2 c3 (le T 0 (rO d_ 0) e2 c3 J J (ro T 5 ?_))
 cases H;exact p0 T J [0] J
end
end Go.Proofs.YthodkonhneebbaaGreatDoor
