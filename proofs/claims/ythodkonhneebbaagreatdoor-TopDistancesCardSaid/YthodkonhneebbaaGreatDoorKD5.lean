/- What the functions of some packages compute, each as a function of plain Lean, with its contract. No condition. -/
import Derived.Test.YthodkonhneebbaaGreatDoorKDT
namespace Go.Proofs.YthodkonhneebbaaGreatDoor
open Go.Hx
open Int renaming tmod->fy,tdiv->cZ,fdiv->fL,toNat->ax
open List renaming length->aa,set->aD,replicate->ct,length_set->nF
open BitVec renaming toNat->fX,ofInt->cg
open Nat renaming le_refl->jM
set_option maxRecDepth 100000
set_option linter.unusedSimpArgs false
set_option linter.unusedVariables false
set_option maxHeartbeats 4000000
set_option autoImplicit true
set_option relaxedAutoImplicit true
noncomputable section
def eT.f (n:Int) (lo:Int) (hi:Int):Option Int:=if(¬(af ((af (hi-lo))+1))=0) then(if(fy n (af ((af (hi-lo))+1)))<0 then(some (af (lo+(af ((af ((af ((fy n (af ((af (hi-lo))+1)))+hi))-lo))+1))))) else(some (af (lo+(fy n (af ((af (hi-lo))+1))))))) else none
theorem eT.c (H:eT.f n lo hi=some r):
 QU 12 [(ii n),(ii lo),(ii hi)] [] F (ii r):=by
 unfold eT.f at H;refine aG Tryz.func12 J J (λW=>rc T 12 ?_);obtain⟨c1,H⟩:=az H;refine bx J (uP J J J c1) (ro T 10 (cd J H (λH=>?_) (λH=>?_)))
 ·refine rc T 19 ?_
  cases H;exact p0 T J [0] J
 refine rc T 11 ?_
 cases H;exact p0 T J [0] J
def wB.f (x:Int):Option Int:=if((fy x 8)==7)=true then(some 255) else(if x<160 then(some (bN (1+(fy x 4)))) else(some x))
theorem wB.c (H:wB.f x=some r):
 QU 49 [(.int .u8 x)] [] F (.int .u8 r):=by
 unfold wB.f at H;refine aG Tryz.func49 J J (λW=>rc T 13 (cb J H (λH=>?_) (λH=>?_)))
 ·refine rc T 7 ?_
  cases H;exact p0 T J [0] J
 refine rc T 9 (cd J H (λH=>?_) (λH=>?_))
 ·refine rc T 10 ?_
  cases H;exact p0 T J [0] J
 refine rc T 9 ?_
 cases H;exact p0 T J [0] J
def lE.l0:Nat->(List Int)->Int->Int->List Int->Int->Option aF
 |0,_,_,_,_,_=>none
 |k7+1,p2,v1,v2,x5,x6=>if x6<(af (v1*v2)) then(if(aa p2:Int)>0 then(if(¬(aa p2:Int)=0) then(if(¬(aa p2:Int)=0) then(if(0<=(fy (af (x6+(af ((af (cZ x6 (aa p2:Int)))*5)))) (aa p2:Int))/\(fy (af (x6+(af ((af (cZ x6 (aa p2:Int)))*5)))) (aa p2:Int))<(aa p2:Int)) then((wB.f (rd p2 (fy (af (x6+(af ((af (cZ x6 (aa p2:Int)))*5)))) (aa p2:Int)))).bind λv8=>if(aa x5+1<=1099511627776) then(lE.l0 k7 p2 v1 v2 (x5++[v8]) (af (x6+1))) else none) else none) else none) else none) else((wB.f 1).bind λv9=>if(aa x5+1<=1099511627776) then(lE.l0 k7 p2 v1 v2 (x5++[v9]) (af (x6+1))) else none)) else(some (aF.mk v1 v2 x5))
def lE.f (w:Int) (h:Int) (p2:(List Int)):Option aF:=(eT.f w 1 40).bind λv1=>(eT.f h 1 40).bind λv2=>lE.l0 fuel p2 v1 v2 [] 0
def lE.R (r:aF):bk:=λu G=> ∃a0 n0 H0,ak (Fl.int .u8) 5 r.C a0 n0 H0/\u=(.agg #[(ii r.W),(ii r.H),(ll a0 r.C n0)])/\G=[H0]
theorem lE.c (H:lE.f w h p2=some r) (Gf:aP (Fl.int .u8) p2 LC F) (L4:aa p2<=Oq):
 QR 48 [(ii w),(ii h),(ll LC p2 Oq)] [] [] F (lE.R r):=by
 unfold lE.f at H;refine aG Tryz.func48 J J (λW=>rc T 2 (nc T J (λb1=>ro T 5 (k [] J kQ H (eT.c ·) (λv1 H=>ro T 1 (k [] J kQ H (eT.c ·) (λv2 H=>ro T 1 (nc T J (λb2=>sg T 2 J (ro T 9 (bA (lq [2,6,7] [0,0] (λ(⟨k7,x5,x6,a4,n4,H4⟩:Nat×List Int×Int×Option Addr×Nat×Hp)=>(lE.l0 k7 p2 v1 v2 x5 x6=some r/\ak (Fl.int .u8) 5 x5 a4 n4 H4,[(8,(ii x6))],[(cl b2 30 [(ii v1),(ii v2),(ll a4 x5 n4)]),H4])) J J (fuel,[],0,none,0,[]) [0,0,0,0] ⟨H,ak.nil⟩ J J ?_))))))))))));rintro k7 ⟨x5,x6,a4,n4,H4⟩ ⟨Z3,s4⟩;rw[lE.l0] at Z3;refine rc T 5 (lf T 2 J (ro T 1 (lf T 2 J (ro T 4 (cd J Z3 (λZ3=>?_) (λZ3=>?_))))))
 ·refine rc T 23 (cd J Z3 (λZ3=>?_) (λZ3=>?_))
  ·refine rc T 5 ?_;obtain⟨c6,Z3⟩:=az Z3;refine bx J (uO J J J c6) (ro T 3 ?_);obtain⟨c7,Z3⟩:=az Z3;refine bx J (uP J J J c7) ?_;obtain⟨c8,Z3⟩:=az Z3;obtain⟨q5,o5,e5⟩:=Gf.addr c8.1 c8.2;refine ix T J e5 c8 (le T 0 (rO Gf 0) e5 c8 J J (ro T 3 (fz J (rg [5,7] [0,0,0,0] mix (bR bQ) (λhg pf=>ha T 7 [0] sz hg pf J (al T 1 2 sz hg pf J J J (ha T 5 [2] sz hg pf J (ao 3 (kh [] J Nd Z3 (wB.c ·) (λv8 Z3=>an sz (ao 4 (c_ (k:=(Fl.int .u8)) T [v8] J J J J J J J J J (λa6 H6 s6=>an (so [0,0,0,0]) (ao 5 ?_))))))))))))));obtain⟨iK,Z3⟩:=az Z3;refine eF (k:=(Fl.int .u8)) (xs:=x5) T (g:=3) J J J J J J J J J J s4 (oO s6 4) iK J (λa7 n7 H7 s7=>an sl (hb T 6 sl hg pf J (ao 7 (sf T 2 J (an sl (ae (rx T 8 (ar (_,_,_,_,_) [0,0,0,0] ⟨Z3,s7⟩ J J))))))))
  refine rc T 2 (fz J (rg [5,7] [0,0,0,0] mix (bR bQ) (λhg pf=>ha T 7 [0] sz hg pf J (al T 1 2 sz hg pf J J J (ha T 5 [2] sz hg pf J (ao 3 (kh [] J Nd Z3 (wB.c ·) (λv9 Z3=>an sz (ao 4 (c_ (k:=(Fl.int .u8)) T [v9] J J J J J J J J J (λa8 H8 s8=>an (so [0,0,0,0]) (ao 5 ?_))))))))))));obtain⟨gv,Z3⟩:=az Z3;refine eF (k:=(Fl.int .u8)) (xs:=x5) T (g:=3) J J J J J J J J J J s4 (oO s8 4) gv J (λa9 n9 H9 s9=>an sl (hb T 6 sl hg pf J (ao 7 (sf T 2 J (an sl (ae (rx T 8 (ar (_,_,_,_,_) [0,0,0,0] ⟨Z3,s9⟩ J J))))))))
 refine rc T 7 (lm T 2 J (sg T 1 J (ro T 3 ?_)))
 cases Z3;exact pb T J (.cT (j:=1) [(ii v1),(ii v2),(ll a4 x5 n4)] J J J J J J J .nil) [3,0] ⟨(_,_),a4,n4,H4,s4,J,J⟩ J J
def mO.f (n:Int) (lo:Int) (hi:Int):Option Bool:=some ((decide (n≥lo))&&(decide (n<=hi)))
theorem mO.c (H:mO.f n lo hi=some r):
 QU 47 [(ii n),(ii lo),(ii hi)] [] F (bb r):=by
 unfold mO.f at H;refine aG Tryz.func47 J J (λW=>rc T 11 (ga T [4,5,6,7] 10 [] 14 J J J J J J J (ro T 4 ?_)))
 cases H;exact p0 T J [0] J
def wC.f (w:Int) (h:Int):Option Bool:=((mO.f w 1 1024).bind λv3=>if v3=true then((mO.f h 1 1024).bind λv4=>some v4) else(some false)).bind λx1=>some x1
theorem wC.c (H:wC.f w h=some r):
 QU 67 [(ii w),(ii h)] [] F (bb r):=by
 unfold wC.f at H;refine aG Tryz.func67 J J (λW=>rc T 5 (mq H [] [0] (λz2 (x1:Bool)=>(x1=z2,[(4,(bb x1))],[])) J J (λz2 Z1 _=>?_) ?_))
 ·refine rc T 2 (k [] J AU Z1 (mO.c ·) (λv3 Z1=>ro T 1 (ab 7 J Z1 (λZ1=>?_) (λZ1=>?_))))
  ·refine ro T 1 (k [] J AU Z1 (mO.c ·) (λv4 Z1=>ro T 4 (am _ [0] (oi Z1) J J)))
  refine ro T 6 (am _ [0] (oi Z1) J J)
 rintro _ x1 rfl H;refine rc T 1 ?_
 cases H;exact p0 T J [0] J
def wD.f (w:Int) (h:Int):Option (Int×Int):=(wC.f w h).bind λv1=>if(!v1)=true then(some (0,0)) else(some ((af (cZ (af ((af (w+16))-1)) 16)),(af (cZ (af ((af (h+16))-1)) 16))))
theorem wD.c (H:wD.f w h=some r):
 QU 57 [(ii w),(ii h)] [] F (.tuple #[(ii r.1),(ii r.2)]):=by
 unfold wD.f at H;refine aG Tryz.func57 J J (λW=>rc T 11 (k [] J Nh H (wC.c ·) (λv1 H=>ro T 3 (cb J H (λH=>?_) (λH=>?_)))))
 ·refine rc T 8 ?_
  cases H;exact p0 T J [0] J
 refine rc T 17 ?_
 cases H;exact p0 T J [0] J
def zO.f (w:Int) (h:Int):Option Int:=(wD.f w h).bind λv1=>some (af (v1.1*v1.2))
theorem zO.c (H:zO.f w h=some r):
 QU 25 [(ii w),(ii h)] [] F (ii r):=by
 unfold zO.f at H;refine aG Tryz.func25 J J (λW=>rc T 9 (k [] J Nf H (wD.c ·) (λv1 H=>ro T 16 ?_)))
 cases H;exact p0 T J [0] J
def zP.f (w:Int) (h:Int) (s:Int):Option (Int×Int):=(zO.f w h).bind λv1=>(mO.f s 0 (af (v1-1))).bind λv2=>if(!v2)=true then(some (0,0)) else((wD.f w h).bind λv3=>if(¬v3.1=0) then(if(¬v3.1=0) then(some ((if(af (w-(af (16*(fy s v3.1)))))<16 then(af (w-(af (16*(fy s v3.1))))) else 16),(if(af (h-(af (16*(af (cZ s v3.1))))))<16 then(af (h-(af (16*(af (cZ s v3.1)))))) else 16))) else none) else none)
theorem zP.c (H:zP.f w h s=some r):
 QU 70 [(ii w),(ii h),(ii s)] [] F (.tuple #[(ii r.1),(ii r.2)]):=by
 unfold zP.f at H;refine aG Tryz.func70 J J (λW=>rc T 12 (k [] J S4 H (zO.c ·) (λv1 H=>ro T 1 (k [] J AU H (mO.c ·) (λv2 H=>ro T 3 (cb J H (λH=>?_) (λH=>?_)))))))
 ·refine rc T 8 ?_
  cases H;exact p0 T J [0] J
 refine rc T 6 (k [] J Nf H (wD.c ·) (λv3 H=>ro T 8 (dq mix aA (au T J (au T J (au T J ?_))))));obtain⟨c5,H⟩:=az H;refine bg J J J (uP J J J c5) ?_
 iterate 6 refine au T J ?_
 obtain⟨c6,H⟩:=az H;refine bg J J J (uO J J J c6) ?_
 iterate 5 refine au T J ?_
 refine cM (rx T 2 ?_)
 cases H;exact p0 T J [0] J
def C7.f (w:Int) (h:Int) (s:Int) (l:Int):Option Int:=(zP.f w h s).bind λv1=>(mO.f l 0 (af ((af (v1.1*v1.2))-1))).bind λv2=>if(!v2)=true then(some (-1)) else((wD.f w h).bind λv3=>if(¬v3.1=0) then(if(¬v1.1=0) then(if(¬v3.1=0) then(if(¬v1.1=0) then(some (af ((af ((af ((af ((af (16*(af (cZ s v3.1))))+(af (cZ l v1.1))))*w))+(af (16*(fy s v3.1)))))+(fy l v1.1)))) else none) else none) else none) else none)
theorem C7.c (H:C7.f w h s l=some r):
 QU 71 [(ii w),(ii h),(ii s),(ii l)] [] F (ii r):=by
 unfold C7.f at H;refine aG Tryz.func71 J J (λW=>rc T 10 (k [] J Tg H (zP.c ·) (λv1 H=>ro T 15 (k [] J AU H (mO.c ·) (λv2 H=>ro T 3 (cb J H (λH=>?_) (λH=>?_)))))))
 ·refine rc T 7 ?_
  cases H;exact p0 T J [0] J
 refine rc T 6 (k [] J Nf H (wD.c ·) (λv3 H=>ro T 8 (dq mix aA (au T J (au T J ?_)))));obtain⟨c5,H⟩:=az H;refine bg J J J (uO J J J c5) (au T J (au T J (au T J ?_)));obtain⟨c6,H⟩:=az H;refine bg J J J (uO J J J c6) ?_
 iterate 5 refine au T J ?_
 obtain⟨c7,H⟩:=az H;refine bg J J J (uP J J J c7) ?_
 iterate 4 refine au T J ?_
 obtain⟨c8,H⟩:=az H;refine bg J J J (uP J J J c8) (au T J (au T J (cM (rx T 2 ?_))))
 cases H;exact p0 T J [0] J
def oc.l0:Nat->aF->Int->(Int×Int)->List Int->Int->Option aF
 |0,_,_,_,_,_=>none
 |k6+1,m,s,v1,x4,x5=>if x5<(af (v1.1*v1.2)) then((C7.f m.W m.H s x5).bind λv7=>if(0<=v7/\v7<(aa m.C:Int)) then(if(aa x4+1<=1099511627776) then(oc.l0 k6 m s v1 (x4++[(rd m.C v7)]) (af (x5+1))) else none) else none) else(some (aF.mk v1.1 v1.2 x4))
def oc.f (m:aF) (s:Int):Option aF:=(zP.f m.W m.H s).bind λv1=>oc.l0 fuel m s v1 [] 0
def oc.R (r:aF):bk:=λu G=> ∃a0 n0 H0,ak (Fl.int .u8) 5 r.C a0 n0 H0/\u=(.agg #[(ii r.W),(ii r.H),(ll a0 r.C n0)])/\G=[H0]
theorem oc.c (H:oc.f m s=some r) (iM:aP (Fl.int .u8) m.C kJ F) (py:aa m.C<=kt):
 QR 76 [(.agg #[(ii m.W),(ii m.H),(ll kJ m.C kt)]),(ii s)] [] [] F (oc.R r):=by
 unfold oc.f at H;refine aG Tryz.func76 J J (λW=>rc T 2 (nc T J (λb1=>nc T J (λb2=>ro T 5 (lf T 1 J (ro T 1 (lf T 1 J (ro T 1 (k [] J Tg H (zP.c ·) (λv1 H=>ro T 12 (nc T J (λb3=>sg T 3 J (ro T 9 (bA (lq [1,2,4,5,6,7] [0,0,0] (λ(⟨k6,x4,x5,a5,n5,H5⟩:Nat×List Int×Int×Option Addr×Nat×Hp)=>(oc.l0 k6 m s v1 x4 x5=some r/\ak (Fl.int .u8) 5 x4 a5 n5 H5,[(8,(ii x5))],[(cl b3 139 [(ii v1.1),(ii v1.2),(ll a5 x4 n5)]),H5])) J J (fuel,[],0,none,0,[]) [0,0,0,0,0] ⟨H,ak.nil⟩ J J ?_)))))))))))))));rintro k6 ⟨x4,x5,a5,n5,H5⟩ ⟨Z2,s5⟩;rw[oc.l0] at Z2;refine rc T 10 (cd J Z2 (λZ2=>?_) (λZ2=>?_))
 ·refine rc T 4 (fz J (rg [14,16] [0,0,0,0,0] mix (bR bQ) (λhg pf=>ha T 16 [0] sz hg pf J (al T 1 3 sz hg pf J J J (ha T 14 [2] sz hg pf J (al T 3 1 sz hg pf J J J (ha T 12 [4] sz hg pf J (al T 5 1 sz hg pf J J J (ha T 10 [6] sz hg pf J (al T 7 1 sz hg pf J J J (ha T 7 [8,9] sz hg pf J (ao 10 (kh [] J adw Z2 (C7.c ·) (λv7 Z2=>an sz ?_))))))))))))));obtain⟨c5,Z2⟩:=az Z2;obtain⟨q6,o6,e6⟩:=iM.addr c5.1 c5.2;refine av 11 sz hg pf J (cB T J J J J J e6 c5.1 c5.2) (av 12 sz hg pf J (cC T J J J J (fv (k:=(Fl.int .u8)) (rO iM 0) e6 c5 0 J)) (ao 13 (c_ (k:=(Fl.int .u8)) T [(rd m.C v7)] J J J J J J J J J (λa7 H7 s7=>an (so [0,0,0,0,0]) (ao 14 ?_)))));obtain⟨c6,Z2⟩:=az Z2;refine eF (k:=(Fl.int .u8)) (xs:=x4) T (g:=4) J J J J J J J J J J s5 (oO s7 5) c6 J (λa8 n8 H8 s8=>an sl (hb T 15 sl hg pf J (ao 16 (sf T 3 J (an sl (ae (rx T 8 (ar (_,_,_,_,_) [0,0,0,0,0] ⟨Z2,s8⟩ J J))))))))
 refine rc T 7 (lm T 3 J (sg T 2 J (ro T 3 ?_)))
 cases Z2;exact pb T J (.cT (j:=2) [(ii v1.1),(ii v1.2),(ll a5 x4 n5)] J J J J J J J .nil) [4,0] ⟨(_,_),a5,n5,H5,s5,J,J⟩ J J
def iC.l1:Nat->(List Int)->Int->Int->Option Int
 |0,_,_,_=>none
 |u7+1,ag,x4,bt=>(if(af (x4+bt))<(aa ag:Int) then(if(0<=(af (x4+bt))/\(af (x4+bt))<(aa ag:Int)) then(if(0<=x4/\x4<(aa ag:Int)) then(some ((rd ag (af (x4+bt)))==(rd ag x4))) else none) else none) else(some false)).bind λa_=>if a_=true then(iC.l1 u7 ag x4 (af (bt+1))) else(some bt)
def iC.l0:Nat->(List Int)->List Int->Int->Option (List Int)
 |0,_,_,_=>none
 |k5+1,ag,x3,x4=>if x4<(aa ag:Int) then(((iC.l1 fuel ag x4 1).bind λx9=>if(0<=x4/\x4<(aa ag:Int)) then(if(aa x3+2<=1099511627776) then(some ((x3++[(bN (af (x9-1))),(rd ag x4)]),(af (x4+x9)))) else none) else none).bind λ(x6,x7)=>iC.l0 k5 ag x6 x7) else(some x3)
def iC.f (ag:(List Int)):Option (List Int):=iC.l0 fuel ag [2] 0
def iC.R (r:(List Int)):bk:=λu G=> ∃a0 n0 H0,ak (Fl.int .u8) 5 r a0 n0 H0/\u=(ll a0 r n0)/\G=[H0]
theorem iC.c (H:iC.f ag=some r) (vU:aP (Fl.int .u8) ag Fy F) (QV:aa ag<=He):
 QR 104 [(ll Fy ag He)] [] [] F (iC.R r):=by
 unfold iC.f at H;refine aG Tryz.func104 J J (λW=>rc T 7 (aV (c_ (k:=(Fl.int .u8)) T [2] J J J J J J J J J (λa1 H1 s1=>ro T 10 (lq [0] [0] (λ(⟨k5,x3,x4,a3,n3,H3⟩:Nat×List Int×Int×Option Addr×Nat×Hp)=>(iC.l0 k5 ag x3 x4=some r/\ak (Fl.int .u8) 5 x3 a3 n3 H3,[(3,(ll a3 x3 n3)),(4,(ii x4))],[H3])) J J (fuel,[2],0,a1,(aa [2]),H1) [0,0] ⟨H,s1⟩ J J ?_)))));rintro k5 ⟨x3,x4,a3,n3,H3⟩ ⟨Z1,s3⟩;rw[iC.l0] at Z1;refine rc T 9 (cd J Z1 (λZ1=>?_) (λZ1=>?_))
 ·refine rc T 2 (mn Z1 [0] [0] (λz8 (⟨x6,x7,a4,n4,H4⟩:List Int×Int×Option Addr×Nat×Hp)=>((x6,x7)=z8/\ak (Fl.int .u8) 5 x6 a4 n4 H4,[(3,(ll a4 x6 n4)),(4,(ii x7))],[H4])) J J (λz8 Z3 _=>?_) ?_)
  ·refine rc T 6 (mq Z3 [0,3,4] [0,0] (λmo (x9:Int)=>(x9=mo,[(5,(ii x9))],[])) J J (λmo Z4 _=>?_) ?_)
   ·refine rc T 1 (lq [0,3,4] [0,0] (λ(⟨u7,bt⟩:Nat×Int)=>(iC.l1 u7 ag x4 bt=some mo,[(5,(ii bt))],[])) J J (fuel,1) [0,0] Z4 J J ?_);rintro u7 bt Z5;replace Z5:iC.l1 (u7+1) ag x4 bt=some mo:=Z5;rw[iC.l1] at Z5;refine rc T 1 (mq Z5 [0,3,4,5] [0,0] (λBD (a_:Bool)=>(a_=BD,[(29,(bb a_))],[])) J J (λBD Z6 _=>?_) ?_)
    ·refine dq mix aA ?_
     iterate 7 refine au T J ?_
     refine qd 17 J Z6 (λZ6=>?_) (λZ6=>?_)
     ·iterate 4 refine au T J ?_
      obtain⟨c8,Z6⟩:=az Z6;obtain⟨q5,o5,e5⟩:=vU.addr c8.1 c8.2;refine bg J J J (cB T J J J J J e5 c8.1 c8.2) (bg J J J (cC T J J J J (fv (k:=(Fl.int .u8)) (rO vU 0) e5 c8 0 J)) (au T J (au T J ?_)));obtain⟨c9,Z6⟩:=az Z6;refine bg J J J (cB T J J J J J e5 c9.1 c9.2) (bg J J J (cC T J J J J (fv (k:=(Fl.int .u8)) (rO vU 0) e5 c9 0 J)) (au T J (au T J (cM (rx T 1 (am _ [0,0] (oi Z6) J J))))))
     iterate 12 refine au T J ?_
     refine cM (rx T 1 (am _ [0,0] (oi Z6) J J))
    rintro _ a_ rfl Z5;refine cb J Z5 (λZ5=>?_) (λZ5=>?_)
    ·refine rc T 10 (ar _ [0,0] Z5 J J)
    refine rc T 5 (am _ [0,0] (oi Z5) J J)
   rintro _ x9 rfl Z3;refine rc T 8 ?_;obtain⟨di,Z3⟩:=az Z3;obtain⟨q6,o6,e6⟩:=vU.addr di.1 di.2;refine ix T J e6 di (le T 0 (rO vU 0) e6 di J J (aV (c_ (k:=(Fl.int .u8)) T [(bN (af (x9-1))),(rd ag x4)] J J J J J J J J J (λa7 H7 s7=>?_))));obtain⟨gv,Z3⟩:=az Z3;refine aV (eF (k:=(Fl.int .u8)) (xs:=x3) T (g:=1) J J J J J J J J J J s3 (oO s7 2) gv J (λa8 n8 H8 s8=>ro T 11 (am (_,_,_,_,_) [0,0] ⟨oi Z3,s8⟩ J J)))
  rintro _ ⟨x6,x7,a4,n4,H4⟩ ⟨rfl,s4⟩ Z1;refine rx T 1 (ar (_,_,_,_,_) [0,0] ⟨Z1,s4⟩ J J)
 refine rc T 12 ?_
 cases Z1;exact p1 T J [1,0] ⟨a3,n3,H3,s3,J,J⟩ J
def ym.f (t:aF):Option (Int×(List Int)):=(iC.f t.C).bind λv1=>if((aa v1:Int)==3)=true then(if(0<=(0:Int)/\(0:Int)<(aa t.C:Int)) then(some (0,[0,(rd t.C 0)])) else none) else(if(aa v1:Int)<(af (1+(aa t.C:Int))) then(some (2,v1)) else(if(aa [1]+aa t.C<=1099511627776) then(some (1,([1]++t.C))) else none))
def ym.R (r:(Int×(List Int))):bk:=λu G=> ∃a0 n0 H0,ak (Fl.int .u8) 5 r.2 a0 n0 H0/\u=(.tuple #[(ii r.1),(ll a0 r.2 n0)])/\G=[H0]
theorem ym.c (H:ym.f t=some r) (dU:aP (Fl.int .u8) t.C iz F) (fq:aa t.C<=iB):
 QR 75 [(.agg #[(ii t.W),(ii t.H),(ll iz t.C iB)])] [] [] F (ym.R r):=by
 unfold ym.f at H;refine aG Tryz.func75 J J (λW=>rc T 2 (nc T J (λb1=>ro T 7 (lf T 1 J (kr iC.R [] [] J abD H (iC.c · (rO dU 0) fq) (λv1 H=>?_))))));rintro _ _ ⟨a2,n2,H2,s2,rfl,rfl⟩;refine fz J (ro T 11 (cb J H (λH=>?_) (λH=>?_)))
 ·refine rc T 1 (ke [1] [0,0] J J (fz J (rg [] [0,0] mix (bR bQ) (λhg pf=>ha T 6 [0] sz hg pf J (al T 1 1 sz hg pf J J J ?_)))));obtain⟨c3,H⟩:=az H;obtain⟨q3,o3,e3⟩:=dU.addr c3.1 c3.2;refine av 2 sz hg pf J (cB T J J J J J e3 c3.1 c3.2) (av 3 sz hg pf J (cC T J J J J (fv (k:=(Fl.int .u8)) (rO dU 0) e3 c3 0 J)) (ha T 2 [5] sz hg pf J (ao 4 (c_ (k:=(Fl.int .u8)) T [0,(rd t.C 0)] J J J J J J J J J (λa4 H4 s4=>an (so [0,0]) (ha T 0 [6] (so [0,0]) hg pf J (ae (rx T 3 ?_))))))))
  cases H;exact p1 T J [2,0] ⟨a4,(aa [0,(rd t.C 0)]),H4,s4,J,J⟩ J
 refine rc T 8 (lf T 1 J (ro T 5 (cd J H (λH=>?_) (λH=>?_))))
 ·refine rc T 9 ?_
  cases H;exact p1 T J [2,0] ⟨a2,n2,H2,s2,J,J⟩ J
 refine rc T 4 (aV (c_ (k:=(Fl.int .u8)) T [1] J J J J J J J J J (λa5 H5 s5=>ro T 1 (lf T 1 J ?_))));obtain⟨c5,H⟩:=az H;refine aV (eF (k:=(Fl.int .u8)) (xs:=[1]) T (g:=3) J J J J J J J J J J s5 (rO dU 0) c5 J (λa6 n6 H6 s6=>ro T 3 (ke [2,3] [0,2] J J (rx T 2 ?_))))
 cases H;exact p1 T J [1,0] ⟨a6,n6,H6,s6,J,J⟩ J
def lF.l0:Nat->aF->List Int->Int->Option (List Int)
 |0,_,_,_=>none
 |k5+1,m,x3,x4=>(zO.f m.W m.H).bind λv6=>if x4<v6 then((oc.f m x4).bind λv7=>(ym.f v7).bind λv8=>if(aa x3+aa v8.2<=1099511627776) then(lF.l0 k5 m (x3++v8.2) (af (x4+1))) else none) else(some x3)
def lF.f (m:aF):Option (List Int):=lF.l0 fuel m [(bN m.W),(bN (fL m.W (2^8))),(bN m.H),(bN (fL m.H (2^8)))] 0
def lF.R (r:(List Int)):bk:=λu G=> ∃a0 n0 H0,ak (Fl.int .u8) 5 r a0 n0 H0/\u=(ll a0 r n0)/\G=[H0]
theorem lF.c (H:lF.f m=some r) (iM:aP (Fl.int .u8) m.C kJ F) (py:aa m.C<=kt):
 QR 45 [(.agg #[(ii m.W),(ii m.H),(ll kJ m.C kt)])] [] [] F (lF.R r):=by
 unfold lF.f at H;refine aG Tryz.func45 J J (λW=>rc T 2 (nc T J (λb1=>ro T 6 (lf T 1 J (ro T 2 (lf T 1 J (ro T 3 (lf T 1 J (ro T 2 (lf T 1 J (ro T 2 (aV (c_ (k:=(Fl.int .u8)) T [(bN m.W),(bN (fL m.W (2^8))),(bN m.H),(bN (fL m.H (2^8)))] J J J J J J J J J (λa2 H2 s2=>ro T 10 (lq [1] [0,0] (λ(⟨k5,x3,x4,a4,n4,H4⟩:Nat×List Int×Int×Option Addr×Nat×Hp)=>(lF.l0 k5 m x3 x4=some r/\ak (Fl.int .u8) 5 x3 a4 n4 H4,[(3,(ll a4 x3 n4)),(4,(ii x4))],[H4])) J J (fuel,[(bN m.W),(bN (fL m.W (2^8))),(bN m.H),(bN (fL m.H (2^8)))],0,a2,(aa [(bN m.W),(bN (fL m.W (2^8))),(bN m.H),(bN (fL m.H (2^8)))]),H2) [0,0,0] ⟨H,s2⟩ J J ?_)))))))))))))));rintro k5 ⟨x3,x4,a4,n4,H4⟩ ⟨Z1,s4⟩;rw[lF.l0] at Z1;refine rc T 5 (lf T 1 J (ro T 1 (lf T 1 J (k [] J S4 Z1 (zO.c ·) (λv6 Z1=>ro T 3 (cd J Z1 (λZ1=>?_) (λZ1=>?_)))))))
 ·refine rc T 6 (lm T 1 J (ro T 1 (kr oc.R [] [] J adz Z1 (oc.c · (rO iM 0) py) (λv7 Z1=>?_))));rintro _ _ ⟨a5,n5,H5,s5,rfl,rfl⟩;refine fz J (kr ym.R [] [] J ady Z1 (ym.c · (oO s5 3) s5.b_) (λv8 Z1=>?_));rintro _ _ ⟨a6,n6,H6,s6,rfl,rfl⟩;refine fz J (ro T 10 ?_);obtain⟨c6,Z1⟩:=az Z1;refine aV (eF (k:=(Fl.int .u8)) (xs:=x3) T (g:=2) J J J J J J J J J J s4 (oO s6 4) c6 J (λa7 n7 H7 s7=>ro T 10 (ar (_,_,_,_,_) [0,0,0] ⟨Z1,s7⟩ J J)))
 refine rc T 12 ?_
 cases Z1;exact p1 T J [2,0] ⟨a4,n4,H4,s4,J,J⟩ J
def qw.l0:Nat->(List Int)->Int->Option Bool
 |0,_,_=>none
 |k3+1,ag,x2=>if x2<(aa ag:Int) then(if(0<=x2/\x2<(aa ag:Int)) then(if((rd ag x2)==0)=true then(some false) else(qw.l0 k3 ag (af (x2+1)))) else none) else(some true)
def qw.f (ag:(List Int)):Option Bool:=qw.l0 fuel ag 0
theorem qw.c (H:qw.f ag=some r) (vU:aP (Fl.int .u8) ag Fy F) (QV:aa ag<=He):
 QU 73 [(ll Fy ag He)] [] F (bb r):=by
 unfold qw.f at H;refine aG Tryz.func73 J J (λW=>rc T 12 (lq [0] [0] (λ(⟨k3,x2⟩:Nat×Int)=>(qw.l0 k3 ag x2=some r,[(3,(ii x2))],[])) J J (fuel,0) [0] H J J ?_));rintro k3 x2 Z1;replace Z1:qw.l0 (k3+1) ag x2=some r:=Z1;rw[qw.l0] at Z1;refine rc T 9 (cd J Z1 (λZ1=>?_) (λZ1=>?_))
 ·refine rc T 8 ?_;obtain⟨c3,Z1⟩:=az Z1;obtain⟨q1,o1,e1⟩:=vU.addr c3.1 c3.2;refine ix T J e1 c3 (le T 0 (rO vU 0) e1 c3 J J (ro T 3 (cb J Z1 (λZ1=>?_) (λZ1=>?_))))
  ·refine rc T 11 ?_
   cases Z1;exact p0 T J [0] J
  refine rc T 9 (ar _ [0] Z1 J J)
 refine rc T 11 ?_
 cases Z1;exact p0 T J [0] J
def C9.f (m:aF):Option Bool:=((wC.f m.W m.H).bind λv3=>if v3=true then(if((aa m.C:Int)==(af (m.W*m.H)))=true then((qw.f m.C).bind λv4=>some v4) else(some false)) else(some false)).bind λx1=>some x1
theorem C9.c (H:C9.f m=some r) (iM:aP (Fl.int .u8) m.C kJ F) (py:aa m.C<=kt):
 QU 41 [(.agg #[(ii m.W),(ii m.H),(ll kJ m.C kt)])] [] F (bb r):=by
 unfold C9.f at H;refine aG Tryz.func41 J J (λW=>rc T 2 (nc T J (λb1=>ro T 3 (mq H [] [0] (λz2 (x1:Bool)=>(x1=z2,[(2,(bb x1))],[])) J J (λz2 Z1 _=>?_) ?_))))
 ·refine rc T 2 (lf T 1 J (ro T 1 (lf T 1 J (k [] J Nh Z1 (wC.c ·) (λv3 Z1=>ro T 1 (ab 8 J Z1 (λZ1=>?_) (λZ1=>?_)))))))
  ·refine ro T 1 (lf T 1 J (ro T 2 (lf T 1 J (ro T 1 (lf T 1 J (ro T 4 (ab 19 J Z1 (λZ1=>?_) (λZ1=>?_))))))))
   ·refine ro T 1 (lf T 1 J (k [] J adx Z1 (qw.c · (rO iM 0) py) (λv4 Z1=>ro T 4 (am _ [0] (oi Z1) J J))))
   refine ro T 7 (am _ [0] (oi Z1) J J)
  refine ro T 18 (am _ [0] (oi Z1) J J)
 rintro _ x1 rfl H;refine rc T 1 ?_
 cases H;exact p0 T J [0] J
def C8.f (w:Int) (h:Int) (p2:Int):Option Bool:=((wC.f w h).bind λv3=>if v3=true then((mO.f p2 0 (af ((af (w*h))-1))).bind λv4=>some v4) else(some false)).bind λx1=>some x1
theorem C8.c (H:C8.f w h p2=some r):
 QU 36 [(ii w),(ii h),(ii p2)] [] F (bb r):=by
 unfold C8.f at H;refine aG Tryz.func36 J J (λW=>rc T 5 (mq H [] [0] (λz2 (x1:Bool)=>(x1=z2,[(6,(bb x1))],[])) J J (λz2 Z1 _=>?_) ?_))
 ·refine rc T 3 (k [] J Nh Z1 (wC.c ·) (λv3 Z1=>ro T 1 (ab 10 J Z1 (λZ1=>?_) (λZ1=>?_))))
  ·refine ro T 5 (k [] J AU Z1 (mO.c ·) (λv4 Z1=>ro T 4 (am _ [0] (oi Z1) J J)))
  refine ro T 10 (am _ [0] (oi Z1) J J)
 rintro _ x1 rfl H;refine rc T 1 ?_
 cases H;exact p0 T J [0] J
def zQ.f (w:Int) (h:Int) (p2:Int) (side:Int):Option Int:=((C8.f w h p2).bind λv3=>if(!v3)=true then(some true) else((mO.f side 0 4).bind λv4=>some (!v4))).bind λx1=>if x1=true then(some (-1)) else(if(¬w=0) then(if(¬w=0) then((if(side==0)=true then(some (af ((af (cZ p2 w))-1))) else(some (af (cZ p2 w)))).bind λx5=>(if(side==1)=true then(some (af ((fy p2 w)+1))) else(some (fy p2 w))).bind λx7=>(if(side==2)=true then(some (af (x5+1))) else(some x5)).bind λx9=>(if(side==3)=true then(some (af (x7-1))) else(some x7)).bind λbf=>((mO.f bf 0 (af (w-1))).bind λdt=>if(!dt)=true then(some true) else((mO.f x9 0 (af (h-1))).bind λdI=>some (!dI))).bind λaO=>if aO=true then(some (-1)) else(some (af ((af (x9*w))+bf)))) else none) else none)
theorem zQ.c (H:zQ.f w h p2 side=some r):
 QU 19 [(ii w),(ii h),(ii p2),(ii side)] [] F (ii r):=by
 unfold zQ.f at H;refine aG Tryz.func19 J J (λW=>rc T 6 (mq H [0,1,2,3] [0] (λz2 (x1:Bool)=>(x1=z2,[(20,(bb x1))],[])) J J (λz2 Z1 _=>?_) ?_))
 ·refine rc T 4 (k [] J adm Z1 (C8.c ·) (λv3 Z1=>ro T 2 (ab 16 J Z1 (λZ1=>?_) (λZ1=>?_))))
  ·refine ro T 6 (am _ [0] (oi Z1) J J)
  refine ro T 1 (k [] J AU Z1 (mO.c ·) (λv4 Z1=>ro T 4 (am _ [0] (oi Z1) J J)))
 rintro _ x1 rfl H;refine cb J H (λH=>?_) (λH=>?_)
 ·refine rc T 7 ?_
  cases H;exact p0 T J [0] J
 refine rc T 3 (dq mix aA (au T J (au T J ?_)));obtain⟨c6,H⟩:=az H;refine bg J J J (uP J J J c6) (au T J (au T J ?_));obtain⟨c7,H⟩:=az H;refine bg J J J (uO J J J c7) (au T J (au T J (cM (rx T 1 (mq H [0,1,3,9] [0] (λz6 (x5:Int)=>(x5=z6,[(10,(ii x5))],[])) J J (λz6 Z8 _=>?_) ?_)))))
 ·refine rc T 6 (cb J Z8 (λZ8=>?_) (λZ8=>?_))
  ·refine rc T 6 (am _ [0] (oi Z8) J J)
  refine rc T 2 (am _ [0] (oi Z8) J J)
 rintro _ x5 rfl H;refine mq H [0,1,3,10] [0] (λz8 (x7:Int)=>(x7=z8,[(9,(ii x7))],[])) J J (λz8 iV _=>?_) ?_
 ·refine rc T 6 (cb J iV (λiV=>?_) (λiV=>?_))
  ·refine rc T 6 (am _ [0] (oi iV) J J)
  refine rc T 2 (am _ [0] (oi iV) J J)
 rintro _ x7 rfl H;refine mq H [0,1,3,9] [0] (λmo (x9:Int)=>(x9=mo,[(10,(ii x9))],[])) J J (λmo bp _=>?_) ?_
 ·refine rc T 6 (cb J bp (λbp=>?_) (λbp=>?_))
  ·refine rc T 6 (am _ [0] (oi bp) J J)
  refine rc T 2 (am _ [0] (oi bp) J J)
 rintro _ x9 rfl H;refine mq H [0,1,10] [0] (λz12 (bf:Int)=>(bf=z12,[(9,(ii bf))],[])) J J (λz12 bD _=>?_) ?_
 ·refine rc T 6 (cb J bD (λbD=>?_) (λbD=>?_))
  ·refine rc T 6 (am _ [0] (oi bD) J J)
  refine rc T 2 (am _ [0] (oi bD) J J)
 rintro _ bf rfl H;refine rc T 1 (mq H [0,9,10] [0] (λvt (aO:Bool)=>(aO=vt,[(54,(bb aO))],[])) J J (λvt eB _=>?_) ?_)
 ·refine rc T 4 (k [] J AU eB (mO.c ·) (λdt eB=>ro T 2 (ab 48 J eB (λeB=>?_) (λeB=>?_))))
  ·refine ro T 8 (am _ [0] (oi eB) J J)
  refine ro T 3 (k [] J AU eB (mO.c ·) (λdI eB=>ro T 4 (am _ [0] (oi eB) J J)))
 rintro _ aO rfl H;refine cb J H (λH=>?_) (λH=>?_)
 ·refine rc T 7 ?_
  cases H;exact p0 T J [0] J
 refine rc T 13 ?_
 cases H;exact p0 T J [0] J
end
noncomputable section
def C6.f (m:aF) (ai:Int):Option Bool:=(if ai≥0 then(if ai<(aa m.C:Int) then(if(0<=ai/\ai<(aa m.C:Int)) then(some ((rd m.C ai)!=255)) else none) else(some false)) else(some false)).bind λx1=>some x1
theorem C6.c (H:C6.f m ai=some r) (iM:aP (Fl.int .u8) m.C kJ F) (py:aa m.C<=kt):
 QU 44 [(.agg #[(ii m.W),(ii m.H),(ll kJ m.C kt)]),(ii ai)] [] F (bb r):=by
 unfold C6.f at H;refine aG Tryz.func44 J J (λW=>rc T 2 (nc T J (λb1=>ro T 3 (mq H [] [0] (λz2 (x1:Bool)=>(x1=z2,[(4,(bb x1))],[])) J J (λz2 Z1 _=>?_) ?_))))
 ·refine rc T 4 (ad 7 J Z1 (λZ1=>?_) (λZ1=>?_))
  ·refine ro T 2 (lf T 1 J (ro T 4 (ad 14 J Z1 (λZ1=>?_) (λZ1=>?_))))
   ·refine ro T 1 (lf T 1 J (ro T 1 ?_));obtain⟨c4,Z1⟩:=az Z1;obtain⟨q2,o2,e2⟩:=iM.addr c4.1 c4.2;refine ix T J e2 c4 (le T 0 (rO iM 0) e2 c4 J J (ro T 5 (am _ [0] (oi Z1) J J)))
   refine ro T 10 (am _ [0] (oi Z1) J J)
  refine ro T 17 (am _ [0] (oi Z1) J J)
 rintro _ x1 rfl H;refine rc T 1 ?_
 cases H;exact p0 T J [0] J
def eQ.l3:Nat->aF->Int->List Int->Bool->Int->Option ((List Int)×Bool)
 |0,_,_,_,_,_=>none
 |GO+1,m,eZ,iD,rH,nu=>(if nu<=3 then(if(0<=eZ/\eZ<(aa m.C:Int)) then(some ((rd m.C eZ)!=255)) else none) else(some false)).bind λnx=>if nx=true then((zQ.f m.W m.H eZ nu).bind λj7=>(if j7≥0 then(if(0<=j7/\j7<(aa m.C:Int)) then(if((rd m.C j7)!=255)=true then(if(0<=j7/\j7<(aa iD:Int)) then(if(rd iD j7)<1099511627776 then(if(0<=eZ/\eZ<(aa iD:Int)) then(some (decide ((af ((rd iD j7)+(af (rd m.C j7))))<(rd iD eZ)))) else none) else(some false)) else none) else(some false)) else none) else(some false)).bind λHZ=>if HZ=true then(if(0<=j7/\j7<(aa iD:Int)) then(if(0<=j7/\j7<(aa m.C:Int)) then(if(0<=eZ/\eZ<(aa iD:Int)) then(eQ.l3 GO m eZ (aD iD (ax eZ) (af ((rd iD j7)+(af (rd m.C j7))))) true (af (nu+1))) else none) else none) else none) else(eQ.l3 GO m eZ iD rH (af (nu+1)))) else(some (iD,rH))
def eQ.l2:Nat->aF->List Int->Bool->Int->Option ((List Int)×Bool)
 |0,_,_,_,_=>none
 |Kl+1,m,dm,du,h_=>if h_<(af (2*(aa m.C:Int))) then(((if h_≥(aa m.C:Int) then(some (af ((af ((af (2*(aa m.C:Int)))-1))-h_))) else(some h_)).bind λeZ=>eQ.l3 fuel m eZ dm du 0).bind λ(bV,dG)=>eQ.l2 Kl m bV dG (af (h_+1))) else(some (dm,du))
def eQ.l1:Nat->aF->List Int->Bool->Option (List Int)
 |0,_,_,_=>none
 |nV+1,m,x9,aK=>if aK=true then((eQ.l2 fuel m x9 false 0).bind λ(bt,aO)=>eQ.l1 nV m bt aO) else(some x9)
def eQ.l0:Nat->aF->Int->List Int->Int->Option (List Int)
 |0,_,_,_,_=>none
 |k5+1,m,goal,x3,x4=>if x4<(aa m.C:Int) then(if(0<=x4/\x4<(aa x3:Int)) then(eQ.l0 k5 m goal (aD x3 (ax x4) 1099511627776) (af (x4+1))) else none) else((C6.f m goal).bind λv6=>if(!v6)=true then(some x3) else(if(0<=goal/\goal<(aa x3:Int)) then(eQ.l1 fuel m (aD x3 (ax goal) 0) true) else none))
def eQ.f (m:aF) (goal:Int):Option (List Int):=if(0<=(aa m.C:Int)/\(aa m.C:Int)<=1099511627776) then(eQ.l0 fuel m goal (ct (ax (aa m.C:Int)) (0:Int)) 0) else none
def eQ.R (r:(List Int)):bk:=λu G=> ∃a0 n0 H0,ak (Fl.int .i64) 3 r a0 n0 H0/\u=(ll a0 r n0)/\G=[H0]
theorem eQ.c (H:eQ.f m goal=some r) (iM:aP (Fl.int .u8) m.C kJ F) (py:aa m.C<=kt):
 QR 15 [(.agg #[(ii m.W),(ii m.H),(ll kJ m.C kt)]),(ii goal)] [] [] F (eQ.R r):=by
 unfold eQ.f at H;refine aG Tryz.func15 J J (λW=>rc T 2 (nc T J (λb1=>ro T 6 (lf T 1 J (ro T 7 ?_)))));obtain⟨c1,H⟩:=az H;refine aV (xh (k:=(Fl.int .i64)) T (0:Int) J J J J J J J J c1 J (λa2 n2 H2 s2=>ro T 10 (lq [1,2,5] [0,0] (λ(⟨k5,x3,x4,a4,n4,H4⟩:Nat×List Int×Int×Option Addr×Nat×Hp)=>(eQ.l0 k5 m goal x3 x4=some r/\ak (Fl.int .i64) 3 x3 a4 n4 H4,[(6,(ll a4 x3 n4)),(7,(ii x4))],[H4])) J J (fuel,(ct (ax (aa m.C:Int)) (0:Int)),0,a2,n2,H2) [0,0,0] ⟨H,s2⟩ J J ?_)));rintro k5 ⟨x3,x4,a4,n4,H4⟩ ⟨Z2,s4⟩;rw[eQ.l0] at Z2;refine rc T 8 (cd J Z2 (λZ2=>?_) (λZ2=>?_))
 ·refine rc T 7 ?_;obtain⟨c4,Z2⟩:=az Z2;obtain⟨q5,o5,e5⟩:=s4.r.addr c4.1 c4.2;refine ix T J e5 c4 (aV (jN (k:=(Fl.int .i64)) T 2 0 1099511627776 J J J J J J s4 e5 c4 J J J (λH6 s6=>kf [1,2,5,7] [0,0,0] [(6,(ll a4 (aD x3 (ax x4) 1099511627776) n4))] J J ⟨dw,trivial⟩ (ro T 9 (ar (_,_,_,_,_) [0,0,0] ⟨Z2,s6⟩ J J)))))
 refine rc T 8 (lm T 1 J (ro T 1 (k [] J adp Z2 (C6.c · (rO iM 0) py) (λv6 Z2=>ro T 3 (cb J Z2 (λZ2=>?_) (λZ2=>?_))))))
 ·refine rc T 8 ?_
  cases Z2;exact p1 T J [2,0] ⟨a4,n4,H4,s4,J,J⟩ J
 refine rc T 6 ?_;obtain⟨c7,Z2⟩:=az Z2;obtain⟨q7,o7,e7⟩:=s4.r.addr c7.1 c7.2;refine ix T J e7 c7 (aV (jN (k:=(Fl.int .i64)) T 2 0 0 J J J J J J s4 e7 c7 J J J (λH8 s8=>kf [2,5] [0,0,0] [(6,(ll a4 (aD x3 (ax goal) 0) n4))] J J ⟨dw,trivial⟩ (ro T 9 (lq [2,5] [0,0] (λ(⟨nV,x9,aK,cz,n10,bZ⟩:Nat×List Int×Bool×Option Addr×Nat×Hp)=>(eQ.l1 nV m x9 aK=some r/\ak (Fl.int .i64) 3 x9 cz n10 bZ,[(6,(ll cz x9 n10)),(8,(bb aK))],[bZ])) J J (fuel,(aD x3 (ax goal) 0),true,a4,n4,H8) [0,0,0] ⟨Z2,s8⟩ J J ?_)))));rintro nV ⟨x9,aK,cz,n10,bZ⟩ ⟨Z8,bT⟩;rw[eQ.l1] at Z8;refine rc T 6 (cb J Z8 (λZ8=>?_) (λZ8=>?_))
 ·refine rc T 2 (mn Z8 [2,5] [0,0] (λvt (⟨bt,aO,de,n11,cE⟩:List Int×Bool×Option Addr×Nat×Hp)=>((bt,aO)=vt/\ak (Fl.int .i64) 3 bt de n11 cE,[(6,(ll de bt n11)),(8,(bb aO))],[cE])) J J (λvt iV _=>?_) ?_)
  ·refine rc T 12 (lq [2,5] [0,0] (λ(⟨Kl,dm,du,h_,dy,n13,dT⟩:Nat×List Int×Bool×Int×Option Addr×Nat×Hp)=>(eQ.l2 Kl m dm du h_=some vt/\ak (Fl.int .i64) 3 dm dy n13 dT,[(6,(ll dy dm n13)),(8,(bb du)),(9,(ii h_))],[dT])) J J (fuel,x9,false,0,cz,n10,bZ) [0,0,0] ⟨iV,bT⟩ J J ?_);rintro Kl ⟨dm,du,h_,dy,n13,dT⟩ ⟨aY,dg⟩;rw[eQ.l2] at aY;refine rc T 9 (cd J aY (λaY=>?_) (λaY=>?_))
   ·refine rc T 2 (mq aY [2,5,9] [0,0] (λz24 (⟨bV,dG,gU,n14,fm⟩:List Int×Bool×Option Addr×Nat×Hp)=>((bV,dG)=z24/\ak (Fl.int .i64) 3 bV gU n14 fm,[(6,(ll gU bV n14)),(8,(bb dG))],[fm])) J J (λz24 lM _=>?_) ?_)
    ·refine rc T 7 (mq lM [2,5,6,8,9] [0,0,0] (λz26 (eZ:Int)=>(eZ=z26,[(10,(ii eZ))],[])) J J (λz26 bD _=>?_) ?_)
     ·refine rc T 7 (cd J bD (λbD=>?_) (λbD=>?_))
      ·refine rc T 9 (am _ [0,0,0] (oi bD) J J)
      refine rc T 2 (am _ [0,0,0] (oi bD) J J)
     rintro _ eZ rfl lM;refine rc T 6 (lq [2,5,9,10] [0,0] (λ(⟨GO,iD,rH,nu,ik,n16,fx⟩:Nat×List Int×Bool×Int×Option Addr×Nat×Hp)=>(eQ.l3 GO m eZ iD rH nu=some z24/\ak (Fl.int .i64) 3 iD ik n16 fx,[(6,(ll ik iD n16)),(8,(bb rH)),(11,(ii nu))],[fx])) J J (fuel,dm,du,0,dy,n13,dT) [0,0,0] ⟨lM,dg⟩ J J ?_);rintro GO ⟨iD,rH,nu,ik,n16,fx⟩ ⟨eB,eK⟩;rw[eQ.l3] at eB;refine rc T 1 (mq eB [2,5,6,8,9,10,11] [0,0,0] (λz35 (nx:Bool)=>(nx=z35,[(59,(bb nx))],[])) J J (λz35 BP _=>?_) ?_)
     ·refine rc T 4 (ad 52 J BP (λBP=>?_) (λBP=>?_))
      ·refine ro T 1 (lf T 1 J (ro T 1 ?_));obtain⟨tk,BP⟩:=az BP;obtain⟨q17,o17,Rl⟩:=iM.addr tk.1 tk.2;refine ix T J Rl tk (le T 0 (rO iM 0) Rl tk J J (ro T 4 (am _ [0,0,0] (oi BP) J J)))
      refine ro T 9 (am _ [0,0,0] (oi BP) J J)
     rintro _ nx rfl eB;refine cb J eB (λeB=>?_) (λeB=>?_)
     ·refine rc T 7 (lf T 1 J (ro T 1 (lf T 1 J (ro T 2 (k [] J SJ eB (zQ.c ·) (λj7 eB=>ro T 3 (mq eB [2,5,6,8,9,10,11,12] [0,0,0] (λXx (HZ:Bool)=>(HZ=Xx,[(103,(bb HZ))],[])) J J (λXx kH _=>?_) ?_)))))))
      ·refine dq mix aA (au T J (au T J (au T J (qd 71 J kH (λkH=>?_) (λkH=>?_)))))
       ·refine au T J (cw T 1 J J J (au T J ?_));obtain⟨uI,kH⟩:=az kH;obtain⟨q18,o18,I'⟩:=iM.addr uI.1 uI.2;refine bg J J J (cB T J J J J J I' uI.1 uI.2) (bg J J J (cC T J J J J (fv (k:=(Fl.int .u8)) (rO iM 0) I' uI 0 J)) (au T J (au T J (au T J (qb 79 J kH (λkH=>?_) (λkH=>?_))))))
        ·refine au T J (au T J ?_);obtain⟨xm,kH⟩:=az kH;obtain⟨VK,Va,uK⟩:=eK.r.addr xm.1 xm.2;refine bg J J J (cB T J J J J J uK xm.1 xm.2) (bg J J J (cC T J J J J (fv (k:=(Fl.int .i64)) (oO eK 2) uK xm 0 J)) (au T J (au T J (au T J (qd 86 J kH (λkH=>?_) (λkH=>?_))))))
         ·refine au T J (au T J (bg J J J (cB T J J J J J uK xm.1 xm.2) (bg J J J (cC T J J J J (fv (k:=(Fl.int .i64)) (oO eK 2) uK xm 0 J)) (au T J (cw T 1 J J J (au T J (bg J J J (cB T J J J J J I' uI.1 uI.2) (bg J J J (cC T J J J J (fv (k:=(Fl.int .u8)) (rO iM 0) I' uI 0 J)) ?_))))))))
          iterate 4 refine au T J ?_
          obtain⟨L0,kH⟩:=az kH;refine bg J J J (cB T J J J J J uK L0.1 L0.2) (bg J J J (cC T J J J J (fv (k:=(Fl.int .i64)) (oO eK 2) uK L0 0 J)) (au T J (au T J (cM (rx T 1 (am _ [0,0,0] (oi kH) J J))))))
         iterate 17 refine au T J ?_
         refine cM (rx T 1 (am _ [0,0,0] (oi kH) J J))
        iterate 24 refine au T J ?_
        refine cM (rx T 1 (am _ [0,0,0] (oi kH) J J))
       iterate 32 refine au T J ?_
       refine cM (rx T 1 (am _ [0,0,0] (oi kH) J J))
      rintro _ HZ rfl eB;refine cb J eB (λeB=>?_) (λeB=>?_)
      ·refine rc T 1 (fz J (rz [14] mix (bR bQ) (λhg pf=>ha T 11 [0,1,2,3] sz hg pf J ?_)));obtain⟨B6,eB⟩:=az eB;obtain⟨VL,Vb,tu⟩:=eK.r.addr B6.1 B6.2;refine av 4 sz hg pf J (cB T J J J J J tu B6.1 B6.2) (av 5 sz hg pf J (cC T J J J J (fv (k:=(Fl.int .i64)) (oO eK 2) tu B6 0 J)) (ha T 8 [6] sz hg pf J (al T 7 1 sz hg pf J J J (ha T 6 [8] sz hg pf J ?_))));obtain⟨FR,eB⟩:=az eB;obtain⟨C4,Vc,AN⟩:=iM.addr FR.1 FR.2;refine av 9 sz hg pf J (cB T J J J J J AN FR.1 FR.2) (av 10 sz hg pf J (cC T J J J J (fv (k:=(Fl.int .u8)) (rO iM 0) AN FR 0 J)) (ha T 2 [11,12] sz hg pf J ?_));obtain⟨FT,eB⟩:=az eB;refine av 13 sz hg pf J (cB T J J J J J tu FT.1 FT.2) (ao 14 (jN (k:=(Fl.int .i64)) T 2 0 (af ((rd iD j7)+(af (rd m.C j7)))) J J J J J J eK tu FT J J J (λmr iv=>kf [2,5,8,9,10,11,12,103,105,107,108,109,110,111,112,113,114,115,116,117] [0,0,0] [(6,(ll ik (aD iD (ax eZ) (af ((rd iD j7)+(af (rd m.C j7))))) n16)),(104,(ll ik (aD iD (ax eZ) (af ((rd iD j7)+(af (rd m.C j7))))) n16)),(106,(ll ik (aD iD (ax eZ) (af ((rd iD j7)+(af (rd m.C j7))))) n16))] J J ⟨dw,dw,dw,trivial⟩ (an sl (ae (rx T 12 (ar (_,_,_,_,_,_) [0,0,0] ⟨eB,iv⟩ J J)))))))
      refine rc T 9 (ar (_,_,_,_,_,_) [0,0,0] ⟨eB,eK⟩ J J)
     refine rc T 6 (am (_,_,_,_,_) [0,0,0] ⟨oi eB,eK⟩ J J)
    rintro _ ⟨bV,dG,gU,n14,fm⟩ ⟨rfl,gi⟩ aY;refine rc T 6 (ar (_,_,_,_,_,_) [0,0,0] ⟨aY,gi⟩ J J)
   refine rc T 6 (am (_,_,_,_,_) [0,0,0] ⟨oi aY,dg⟩ J J)
  rintro _ ⟨bt,aO,de,n11,cE⟩ ⟨rfl,cW⟩ Z8;refine rx T 1 (ar (_,_,_,_,_) [0,0,0] ⟨Z8,cW⟩ J J)
 refine rc T 12 ?_
 cases Z8;exact p1 T J [2,0] ⟨cz,n10,bZ,bT,J,J⟩ J
def rm.l0:Nat->aF->(List Int)->Int->Int->Option Int
 |0,_,_,_,_=>none
 |k3+1,m,d,p3,x2=>if x2<=3 then((zQ.f m.W m.H p3 x2).bind λv4=>(if v4≥0 then(if(0<=v4/\v4<(aa m.C:Int)) then(if((rd m.C v4)!=255)=true then(if(0<=v4/\v4<(aa d:Int)) then(if(0<=p3/\p3<(aa d:Int)) then(some ((af ((rd d v4)+(af (rd m.C v4))))==(rd d p3))) else none) else none) else(some false)) else none) else(some false)).bind λx5=>if x5=true then(some x2) else(rm.l0 k3 m d p3 (af (x2+1)))) else(some 5)
def rm.f (m:aF) (goal:Int) (d:(List Int)) (p3:Int):Option Int:=if(0<=p3/\p3<(aa d:Int)) then(if(rd d p3)≥1099511627776 then(some 5) else(if(p3==goal)=true then(some 4) else(rm.l0 fuel m d p3 0))) else none
theorem rm.c (H:rm.f m goal d p3=some r) (iM:aP (Fl.int .u8) m.C kJ F) (py:aa m.C<=kt) (Gd:aP (Fl.int .i64) d X9 F) (c_d:aa d<=n_d):
 QU 17 [(.agg #[(ii m.W),(ii m.H),(ll kJ m.C kt)]),(ii goal),(ll X9 d n_d),(ii p3)] [] F (ii r):=by
 unfold rm.f at H;refine aG Tryz.func17 J J (λW=>rc T 2 (nc T J (λb1=>ro T 8 ?_)));obtain⟨c1,H⟩:=az H;obtain⟨q2,o2,e2⟩:=Gd.addr c1.1 c1.2;refine ix T J e2 c1 (le T 0 (rO Gd 0) e2 c1 J J (ro T 3 (cd J H (λH=>?_) (λH=>?_))))
 ·refine rc T 7 ?_
  cases H;exact p0 T J [0] J
 refine rc T 10 (cb J H (λH=>?_) (λH=>?_))
 ·refine rc T 7 ?_
  cases H;exact p0 T J [0] J
 refine rc T 9 (lq [2,3,4] [0,0] (λ(⟨k3,x2⟩:Nat×Int)=>(rm.l0 k3 m d p3 x2=some r,[(9,(ii x2))],[])) J J (fuel,0) [0,0] H J J ?_);rintro k3 x2 Z4;replace Z4:rm.l0 (k3+1) m d p3 x2=some r:=Z4;rw[rm.l0] at Z4;refine rc T 7 (cd J Z4 (λZ4=>?_) (λZ4=>?_))
 ·refine rc T 7 (lf T 1 J (ro T 1 (lf T 1 J (ro T 2 (k [] J SJ Z4 (zQ.c ·) (λv4 Z4=>ro T 3 (mq Z4 [2,3,4,9] [0,0] (λz6 (x5:Bool)=>(x5=z6,[(57,(bb x5))],[])) J J (λz6 Z7 _=>?_) ?_)))))))
  ·refine dq mix aA (au T J (au T J (au T J (qd 32 J Z7 (λZ7=>?_) (λZ7=>?_)))))
   ·refine au T J (cw T 1 J J J (au T J ?_));obtain⟨c9,Z7⟩:=az Z7;obtain⟨q3,o3,e3⟩:=iM.addr c9.1 c9.2;refine bg J J J (cB T J J J J J e3 c9.1 c9.2) (bg J J J (cC T J J J J (fv (k:=(Fl.int .u8)) (rO iM 0) e3 c9 0 J)) (au T J (au T J (au T J (qb 40 J Z7 (λZ7=>?_) (λZ7=>?_))))))
    ·refine au T J (au T J ?_);obtain⟨di,Z7⟩:=az Z7;obtain⟨q4,o4,e4⟩:=Gd.addr di.1 di.2;refine bg J J J (cB T J J J J J e4 di.1 di.2) (bg J J J (cC T J J J J (fv (k:=(Fl.int .i64)) (rO Gd 0) e4 di 0 J)) (au T J (cw T 1 J J J (au T J (bg J J J (cB T J J J J J e3 c9.1 c9.2) (bg J J J (cC T J J J J (fv (k:=(Fl.int .u8)) (rO iM 0) e3 c9 0 J)) ?_))))))
     iterate 4 refine au T J ?_
     obtain⟨gv,Z7⟩:=az Z7;refine bg J J J (cB T J J J J J e4 gv.1 gv.2) (bg J J J (cC T J J J J (fv (k:=(Fl.int .i64)) (rO Gd 0) e4 gv 0 J)) (au T J (au T J (cM (rx T 1 (am _ [0,0] (oi Z7) J J))))))
    iterate 17 refine au T J ?_
    refine cM (rx T 1 (am _ [0,0] (oi Z7) J J))
   iterate 25 refine au T J ?_
   refine cM (rx T 1 (am _ [0,0] (oi Z7) J J))
  rintro _ x5 rfl Z4;refine cb J Z4 (λZ4=>?_) (λZ4=>?_)
  ·refine rc T 12 ?_
   cases Z4;exact p0 T J [0] J
  refine rc T 9 (ar _ [0,0] Z4 J J)
 refine rc T 11 ?_
 cases Z4;exact p0 T J [0] J
end
noncomputable section
def CH.f (x:Int) (y:Int):Option (Int×Int):=some ((eW ((eW ((eW ((fL x (2^32))*(fL y (2^32))))+(fL (eW ((eW ((fL x (2^32))*(eW (fX (cg (IntKind.bits .u64) y&&&cg (IntKind.bits .u64) 4294967295)))))+(fL (eW ((eW (fX (cg (IntKind.bits .u64) x&&&cg (IntKind.bits .u64) 4294967295)))*(eW (fX (cg (IntKind.bits .u64) y&&&cg (IntKind.bits .u64) 4294967295))))) (2^32)))) (2^32))))+(fL (eW ((eW (fX (cg (IntKind.bits .u64) (eW ((eW ((fL x (2^32))*(eW (fX (cg (IntKind.bits .u64) y&&&cg (IntKind.bits .u64) 4294967295)))))+(fL (eW ((eW (fX (cg (IntKind.bits .u64) x&&&cg (IntKind.bits .u64) 4294967295)))*(eW (fX (cg (IntKind.bits .u64) y&&&cg (IntKind.bits .u64) 4294967295))))) (2^32))))&&&cg (IntKind.bits .u64) 4294967295)))+(eW ((eW (fX (cg (IntKind.bits .u64) x&&&cg (IntKind.bits .u64) 4294967295)))*(fL y (2^32)))))) (2^32)))),(eW (x*y)))
theorem CH.c (H:CH.f x y=some r):
 QU 269 [(uu x),(uu y)] [] F (.tuple #[(uu r.1),(uu r.2)]):=by
 unfold CH.f at H;refine aG Tryz.func269 J J (λW=>rc T 99 ?_)
 cases H;exact p0 T J [0] J
def tJ.f (x:Int) (y:Int):Option (Int×Int):=(CH.f x y).bind λv1=>some (v1.1,v1.2)
theorem tJ.c (H:tJ.f x y=some r):
 QU 239 [(uu x),(uu y)] [] F (.tuple #[(uu r.1),(uu r.2)]):=by
 unfold tJ.f at H;refine aG Tryz.func239 J J (λW=>rc T 7 (e_ J (rc T 6 (k [] J ac2 H (CH.c ·) (λv1 H=>ro T 16 ?_)))))
 cases H;exact p0 T J [0] J
def G5.f (x:Int):Option Int:=(if x≥4294967296 then(some ((fL x (2^32)),(32:Int))) else(some (x,(0:Int)))).bind λ(x1,x2)=>(if x1≥65536 then(some ((fL x1 (2^16)),(af (x2+16)))) else(some (x1,x2))).bind λ(x4,x5)=>if x4≥256 then(if(0<=(bN (fL x4 (2^8)))/\(bN (fL x4 (2^8)))<(aa EX:Int)) then(some (af ((af (x5+8))+(af (rd EX (bN (fL x4 (2^8)))))))) else none) else(if(0<=(bN x4)/\(bN x4)<(aa EX:Int)) then(some (af (x5+(af (rd EX (bN x4)))))) else none)
theorem G5.c (H:G5.f x=some r):
 QU 264 [(uu x)] [] F (ii r):=by
 unfold G5.f at H;refine aG Tryz.func264 J J (λW=>rc T 5 (mq H [] [0] (λz3 (⟨x1,x2⟩:Int×Int)=>((x1,x2)=z3,[(0,(uu x1)),(2,(ii x2))],[])) J J (λz3 Z1 _=>?_) ?_))
 ·refine rc T 6 (cd J Z1 (λZ1=>?_) (λZ1=>?_))
  ·refine rc T 11 (am (_,_) [0] (oi Z1) J J)
  refine rc T 2 (am (_,_) [0] (oi Z1) J J)
 rintro _ ⟨x1,x2⟩ rfl H;refine mq H [] [0] (λz6 (⟨x4,x5⟩:Int×Int)=>((x4,x5)=z6,[(0,(uu x4)),(2,(ii x5))],[])) J J (λz6 Z3 _=>?_) ?_
 ·refine rc T 6 (cd J Z3 (λZ3=>?_) (λZ3=>?_))
  ·refine rc T 13 (am (_,_) [0] (oi Z3) J J)
  refine rc T 2 (am (_,_) [0] (oi Z3) J J)
 rintro _ ⟨x4,x5⟩ rfl H;refine rc T 7 (cd J H (λH=>?_) (λH=>?_))
 ·refine rc T 18 ?_;obtain⟨c6,H⟩:=az H;refine bx J (RS T EX J J J J J c6) (ro T 6 ?_)
  cases H;exact p0 T J [0] J
 refine rc T 7 ?_;obtain⟨c7,H⟩:=az H;refine bx J (RS T EX J J J J J c7) (ro T 6 ?_)
 cases H;exact p0 T J [0] J
def G4.f (x:Int):Option Int:=(G5.f x).bind λv1=>some v1
theorem G4.c (H:G4.f x=some r):
 QU 235 [(uu x)] [] F (ii r):=by
 unfold G4.f at H;refine aG Tryz.func235 J J (λW=>rc T 6 (e_ J (rc T 5 (k [] J acZ H (G5.c ·) (λv1 H=>ro T 4 ?_)))))
 cases H;exact p0 T J [0] J
end
noncomputable section
def kL.l0:Nat->(Int×Int)->Int->List Int->Int->Option (List Int)
 |0,_,_,_,_=>none
 |nV+1,v1,x2,x9,aK=>if aK<(af v1.2) then(if(0<=aK/\aK<=(aa x9:Int)/\(aa x9:Int)<=(aa x9:Int)) then(if(0<=(0:Int)/\(0:Int)<=(if x2<aK then x2 else aK)/\(if x2<aK then x2 else aK)<=(aa x9:Int)) then(kL.l0 nV v1 x2 (cx x9 (ax aK) (min (aa (aB x9 0 (if x2<aK then x2 else aK))) (aa (aB x9 aK (aa x9:Int)))) (aB x9 0 (if x2<aK then x2 else aK))) (af (aK+(((min (aa (aB x9 0 (if x2<aK then x2 else aK))) (aa (aB x9 aK (aa x9:Int)))):Nat):Int)))) else none) else none) else(some x9)
def kL.f (b:(List Int)) (count:Int):Option (List Int):=if(count==0)=true then(some ([]:List Int)) else(if count<0 then(none) else((tJ.f (eW (aa b:Int)) (eW count)).bind λv1=>if((decide (v1.1>0))||(decide (v1.2>9223372036854775807)))=true then(none) else(if((aa b:Int)==0)=true then(some ([]:List Int)) else((if(af v1.2)>8192 then(if(¬(aa b:Int)=0) then(if((af ((af (cZ 8192 (aa b:Int)))*(aa b:Int)))==0)=true then(some (aa b:Int)) else(some (af ((af (cZ 8192 (aa b:Int)))*(aa b:Int))))) else none) else(some (af v1.2))).bind λx2=>if(0<=(af v1.2)/\(af v1.2)<=1099511627776) then(FC (KD (af v1.2)) (λx4=>if((af v1.2)=(aa x4:Int)) then((kL.l0 fuel v1 x2 (cx x4 0 (min (aa b) (aa x4)) b) (((min (aa b) (aa x4)):Nat):Int)).bind λx5=>some x5) else none)) else none))))
def kL.R (r:(List Int)):bk:=λu G=> ∃a0 n0 H0,ak (Fl.int .u8) 5 r a0 n0 H0/\u=(ll a0 r n0)/\G=[H0]
theorem kL.c (H:kL.f b count=some r) (ir:aP (Fl.int .u8) b ki F) (gF:aa b<=jV):
 QR 280 [(ll ki b jV),(ii count)] [] [] F (kL.R r):=by
 unfold kL.f at H;refine aG Tryz.func280 J J (λW=>rc T 12 (cb J H (λH=>?_) (λH=>?_)))
 ·refine rc T 2 (aV (c_ (k:=(Fl.int .u8)) T ([]:List Int) J J J J J J J J J (λa1 H1 s1=>ro T 5 ?_)))
  cases H;exact p1 T J [1,0] ⟨a1,(aa ([]:List Int)),H1,s1,J,J⟩ J
 refine rc T 9 (cd J H (λH=>?_) (λH=>?_))
 ·cases H
 refine rc T 9 (k [] J M6 H (tJ.c ·) (λv1 H=>ro T 13 (go T [3,4,5] 29 [0,6] 32 J J J J J J J (ro T 2 (cb J H (λH=>?_) (λH=>?_))))))
 ·cases H
 refine rc T 17 (cb J H (λH=>?_) (λH=>?_))
 ·refine rc T 2 (aV (c_ (k:=(Fl.int .u8)) T ([]:List Int) J J J J J J J J J (λa2 H2 s2=>ro T 5 ?_)))
  cases H;exact p1 T J [1,0] ⟨a2,(aa ([]:List Int)),H2,s2,J,J⟩ J
 refine rc T 8 (mq H [0,7] [0] (λz3 (x2:Int)=>(x2=z3,[(8,(ii x2))],[])) J J (λz3 Z6 _=>?_) ?_)
 ·refine rc T 6 (cd J Z6 (λZ6=>?_) (λZ6=>?_))
  ·refine rc T 4 ?_;obtain⟨c8,Z6⟩:=az Z6;refine bx J (uO J J J c8) (ro T 12 (cb J Z6 (λZ6=>?_) (λZ6=>?_)))
   ·refine rc T 6 (am _ [0] (oi Z6) J J)
   refine rc T 2 (am _ [0] (oi Z6) J J)
  refine rc T 2 (am _ [0] (oi Z6) J J)
 rintro _ x2 rfl H;refine rc T 3 ?_;obtain⟨iK,H⟩:=az H;refine aV (Y3 T J J J J aem J iK (λx4 a3 n3 H3 p3_ s3=>?_));replace H:=Yj H p3_;refine ro T 2 ?_;obtain⟨di,H⟩:=az H;refine bx J (abh T J J J J J J di s3.b_) (ro T 7 ?_);have P1:0+(aa x4)<=aa x4:=(Mz _);refine aV (BW (k:=(Fl.int .u8)) (xs:=x4) (ys:=b) (lo:=0) (g:=1) T J J J J J J J J (ak.trim s3 (jM _) s3.b_) (rO ir 0) (.inl ⟨J,J⟩) P1 (λH4 s4=>kf [7,8,60] [0,0] [(9,(ll a3 (cx x4 0 (min (aa b) (aa x4)) b) (aa x4)))] J J ⟨(by first |rfl |(simp only[ll,l8 P1];rfl)),trivial⟩ (ro T 3 ?_)))
 refine mq H [] [0] (λz6 (⟨x5,a5,n5,H5⟩:List Int×Option Addr×Nat×Hp)=>(x5=z6/\ak (Fl.int .u8) 5 x5 a5 n5 H5,[(9,(ll a5 x5 n5))],[H5])) J J (λz6 lM _=>?_) ?_
 ·refine rc T 1 (lq [7,8] [0] (λ(⟨nV,x9,aK,a7,n7,H7⟩:Nat×List Int×Int×Option Addr×Nat×Hp)=>(kL.l0 nV v1 x2 x9 aK=some z6/\ak (Fl.int .u8) 5 x9 a7 n7 H7,[(9,(ll a7 x9 n7)),(10,(ii aK))],[H7])) J J (fuel,(cx x4 0 (min (aa b) (aa x4)) b),(((min (aa b) (aa x4)):Nat):Int),a3,(aa x4),H4) [0,0] ⟨lM,s4⟩ J J ?_);rintro nV ⟨x9,aK,a7,n7,H7⟩ ⟨bD,s7⟩;rw[kL.l0] at bD;refine rc T 8 (cd J bD (λbD=>?_) (λbD=>?_))
  ·refine rc T 11 (fz J (rz [7] mix (bR bQ) (λhg pf=>ha T 7 [0,1,2] sz hg pf J ?_)));obtain⟨mC,bD⟩:=az bD;refine av 3 sz hg pf J (kP T J J J J J J mC s7.b_) (ha T 4 [4,5] sz hg pf J ?_);obtain⟨lO,bD⟩:=az bD;refine av 6 sz hg pf J (kP T J J J J J J lO s7.b_) (ao 7 ?_);have DF:(ax aK)+(aa (aB x9 aK (aa x9:Int)))<=aa x9:=(HT mC);refine BW (k:=(Fl.int .u8)) (xs:=x9) (ys:=(aB x9 0 (if x2<aK then x2 else aK))) (lo:=(ax aK)) (g:=1) T J J J J J J J J s7 (nq (oO s7 1) lO s7.b_) (.inr J) DF (λH8 s8=>?_)
   have IH:(0<=aK/\aK<=(aa x9:Int)/\(aa x9:Int)<=(aa (cx x9 (ax aK) (min (aa (aB x9 0 (if x2<aK then x2 else aK))) (aa (aB x9 aK (aa x9:Int)))) (aB x9 0 (if x2<aK then x2 else aK))):Int)):=by simp only[l8 DF];exact mC
   have X6:(0<=(0:Int)/\(0:Int)<=(if x2<aK then x2 else aK)/\(if x2<aK then x2 else aK)<=(aa (cx x9 (ax aK) (min (aa (aB x9 0 (if x2<aK then x2 else aK))) (aa (aB x9 aK (aa x9:Int)))) (aB x9 0 (if x2<aK then x2 else aK))):Int)):=by simp only[l8 DF];exact lO
   refine kf [7,8,10,11,67,69,72,74] [0,0] [(9,(ll a7 (cx x9 (ax aK) (min (aa (aB x9 0 (if x2<aK then x2 else aK))) (aa (aB x9 aK (aa x9:Int)))) (aB x9 0 (if x2<aK then x2 else aK))) n7)),(68,(ll a7 (cx x9 (ax aK) (min (aa (aB x9 0 (if x2<aK then x2 else aK))) (aa (aB x9 aK (aa x9:Int)))) (aB x9 0 (if x2<aK then x2 else aK))) n7)),(70,(ll (gk a7 n7 (ax aK) 1) (aB (cx x9 (ax aK) (min (aa (aB x9 0 (if x2<aK then x2 else aK))) (aa (aB x9 aK (aa x9:Int)))) (aB x9 0 (if x2<aK then x2 else aK))) aK (aa x9:Int)) (n7-ax aK))),(71,(ll a7 (cx x9 (ax aK) (min (aa (aB x9 0 (if x2<aK then x2 else aK))) (aa (aB x9 aK (aa x9:Int)))) (aB x9 0 (if x2<aK then x2 else aK))) n7)),(73,(ll (gk a7 n7 (ax 0) 1) (aB (cx x9 (ax aK) (min (aa (aB x9 0 (if x2<aK then x2 else aK))) (aa (aB x9 aK (aa x9:Int)))) (aB x9 0 (if x2<aK then x2 else aK))) 0 (if x2<aK then x2 else aK)) (n7-ax 0)))] J J ⟨(by first |rfl |(simp only[ll,l8 DF];rfl)),(by first |rfl |(simp only[ll,l8 DF];rfl)),(by simp only[ll];rw[iQ IH,<-iQ mC];rfl),(by first |rfl |(simp only[ll,l8 DF];rfl)),(by simp only[ll];rw[iQ X6,<-iQ lO];rfl),trivial⟩ (an sl (hb T 8 sl hg pf J (hb T 9 sl hg pf J (ae (rx T 2 ?_)))))
   exact ar (_,_,_,_,_) [0,0] ⟨bD,s8⟩ J J
  refine rc T 5 (am (_,_,_,_) [0,0] ⟨oi bD,s7⟩ J J)
 rintro _ ⟨x5,a5,n5,H5⟩ ⟨rfl,s5⟩ H;refine rc T 7 ?_
 cases H;exact p1 T J [1,0] ⟨a5,n5,H5,s5,J,J⟩ J
def DS.f (a:(List Int)) (b:(List Int)):Option Bool:=some (Dt a b)
theorem DS.c (H:DS.f a b=some r) (D7:aP (Fl.int .u8) a Fx F) (L2:aa a<=Hc) (ir:aP (Fl.int .u8) b ki F) (gF:aa b<=jV):
 QU 254 [(ll Fx a Hc),(ll ki b jV)] [] F (bb r):=by
 unfold DS.f at H;refine aG Tryz.func254 J J (λW=>rc T 8 (bx J (RT T J J J J J (rO D7 0)) (ro T 1 (bx J (RT T J J J J J (rO ir 0)) (bx J (abg J J J) (ro T 4 ?_))))))
 cases H;exact p0 T J [0] J
end
noncomputable section
def cmp_isNaN_int.f (x:Int):Option Bool:=some (x !=x)
theorem cmp_isNaN_int.c (H:cmp_isNaN_int.f x=some r):
 QU 265 [(ii x)] [] F (bb r):=by
 unfold cmp_isNaN_int.f at H;refine aG Tryz.func265 J J (λW=>rc T 14 ?_)
 cases H;exact p0 T J [0] J
def tn.f (x:Int) (y:Int):Option Int:=(cmp_isNaN_int.f x).bind λv1=>(cmp_isNaN_int.f y).bind λv2=>if v1=true then(if v2=true then(some 0) else(some (-1))) else(if v2=true then(some 1) else(if x<y then(some (-1)) else(if x>y then(some 1) else(some 0))))
theorem tn.c (H:tn.f x y=some r):
 QU 237 [(ii x),(ii y)] [] F (ii r):=by
 unfold tn.f at H;refine aG Tryz.func237 J J (λW=>rc T 8 (k [] J JJ H (cmp_isNaN_int.c ·) (λv1 H=>ro T 6 (k [] J JJ H (cmp_isNaN_int.c ·) (λv2 H=>ro T 9 (cb J H (λH=>?_) (λH=>?_)))))))
 ·refine rc T 6 (cb J H (λH=>?_) (λH=>?_))
  ·refine rc T 8 ?_
   cases H;exact p0 T J [0] J
  refine rc T 9 ?_
  cases H;exact p0 T J [0] J
 refine rc T 8 (cb J H (λH=>?_) (λH=>?_))
 ·refine rc T 7 ?_
  cases H;exact p0 T J [0] J
 refine rc T 10 (cd J H (λH=>?_) (λH=>?_))
 ·refine rc T 7 ?_
  cases H;exact p0 T J [0] J
 refine rc T 10 (cd J H (λH=>?_) (λH=>?_))
 ·refine rc T 7 ?_
  cases H;exact p0 T J [0] J
 refine rc T 8 ?_
 cases H;exact p0 T J [0] J
def ng.l0:Nat->(List Int)->Int->Option Int
 |0,_,_=>none
 |k3+1,uq,x2=>if x2<(aa uq:Int) then(if(0<=x2/\x2<(aa uq:Int)) then(if((rd uq x2)!=0)=true then(some (rd uq x2)) else(ng.l0 k3 uq (af (x2+1)))) else none) else(some 0)
def ng.f (uq:(List Int)):Option Int:=ng.l0 fuel uq 0
theorem ng.c (H:ng.f uq=some r) (Sj:aP (Fl.int .i64) uq Ye F) (aiW:aa uq<=afw):
 QU 236 [(ll Ye uq afw)] [] F (ii r):=by
 unfold ng.f at H;refine aG Tryz.func236 J J (λW=>rc T 19 (lq [3,6,7] [0] (λ(⟨k3,x2⟩:Nat×Int)=>(ng.l0 k3 uq x2=some r,[(8,(ii x2))],[])) J J (fuel,0) [0] H J J ?_));rintro k3 x2 Z1;replace Z1:ng.l0 (k3+1) uq x2=some r:=Z1;rw[ng.l0] at Z1;refine rc T 6 (cd J Z1 (λZ1=>?_) (λZ1=>?_))
 ·refine rc T 6 ?_;obtain⟨c3,Z1⟩:=az Z1;obtain⟨q1,o1,e1⟩:=Sj.addr c3.1 c3.2;refine ix T J e1 c3 (le T 0 (rO Sj 0) e1 c3 J J (ro T 10 (cb J Z1 (λZ1=>?_) (λZ1=>?_))))
  ·refine rc T 12 ?_
   cases Z1;exact p0 T J [0] J
  refine rc T 8 (ar _ [0] Z1 J J)
 refine rc T 12 ?_
 cases Z1;exact p0 T J [0] J
def cmp_Less_int.f (x:Int) (y:Int):Option Bool:=((cmp_isNaN_int.f x).bind λv3=>if v3=true then((cmp_isNaN_int.f y).bind λv4=>some ((!v4)||(decide (x<y)))) else(some (decide (x<y)))).bind λx1=>some x1
theorem cmp_Less_int.c (H:cmp_Less_int.f x y=some r):
 QU 300 [(ii x),(ii y)] [] F (bb r):=by
 unfold cmp_Less_int.f at H;refine aG Tryz.func300 J J (λW=>rc T 5 (mq H [] [0] (λz2 (x1:Bool)=>(x1=z2,[(4,(bb x1))],[])) J J (λz2 Z1 _=>?_) ?_))
 ·refine rc T 2 (k [] J JJ Z1 (cmp_isNaN_int.c ·) (λv3 Z1=>ro T 1 (ab 7 J Z1 (λZ1=>?_) (λZ1=>?_))))
  ·refine ro T 1 (k [] J JJ Z1 (cmp_isNaN_int.c ·) (λv4 Z1=>ro T 3 (go T [8,9,10,11] 12 [] 16 J J J J J J J (ro T 3 (am _ [0] (oi Z1) J J)))))
  refine ro T 12 (am _ [0] (oi Z1) J J)
 rintro _ x1 rfl H;refine rc T 1 ?_
 cases H;exact p0 T J [0] J
end
noncomputable section
def rD.l0:Nat->(List Int)->Int->Int->Option Int
 |0,_,_,_=>none
 |k3+1,s,v,x2=>if x2<(aa s:Int) then(if(0<=x2/\x2<(aa s:Int)) then(if(v==(rd s x2))=true then(some x2) else(rD.l0 k3 s v (af (x2+1)))) else none) else(some (-1))
def rD.f (s:(List Int)) (v:Int):Option Int:=rD.l0 fuel s v 0
theorem rD.c (H:rD.f s v=some r) (jB:aP (Fl.int .u8) s iW F) (rV:aa s<=jc):
 QU 231 [(ll iW s jc),(.int .u8 v)] [] F (ii r):=by
 unfold rD.f at H;refine aG Tryz.func231 J J (λW=>rc T 14 (lq [0,1,7] [0] (λ(⟨k3,x2⟩:Nat×Int)=>(rD.l0 k3 s v x2=some r,[(8,(ii x2))],[])) J J (fuel,0) [0] H J J ?_));rintro k3 x2 Z1;replace Z1:rD.l0 (k3+1) s v x2=some r:=Z1;rw[rD.l0] at Z1;refine rc T 6 (cd J Z1 (λZ1=>?_) (λZ1=>?_))
 ·refine rc T 15 ?_;obtain⟨c3,Z1⟩:=az Z1;obtain⟨q1,o1,e1⟩:=jB.addr c3.1 c3.2;refine ix T J e1 c3 (le T 0 (rO jB 0) e1 c3 J J (ro T 3 (cb J Z1 (λZ1=>?_) (λZ1=>?_))))
  ·refine rc T 12 ?_
   cases Z1;exact p0 T J [0] J
  refine rc T 8 (ar _ [0] Z1 J J)
 refine rc T 11 ?_
 cases Z1;exact p0 T J [0] J
def wQ.f (s:(List Int)) (v:Int):Option Bool:=(rD.f s v).bind λv1=>some (decide (v1≥0))
theorem wQ.c (H:wQ.f s v=some r) (jB:aP (Fl.int .u8) s iW F) (rV:aa s<=jc):
 QU 194 [(ll iW s jc),(.int .u8 v)] [] F (bb r):=by
 unfold wQ.f at H;refine aG Tryz.func194 J J (λW=>rc T 9 (k [] J acH H (rD.c · (rO jB 0) rV) (λv1 H=>ro T 5 ?_)))
 cases H;exact p0 T J [0] J
def oo.f (s:(List Int)):Option (List Int):=if(aa ([]:List Int)+aa s<=1099511627776) then(some (([]:List Int)++s)) else none
def oo.R (r:(List Int)):bk:=λu G=> ∃a0 n0 H0,ak (Fl.int .u8) 5 r a0 n0 H0/\u=(ll a0 r n0)/\G=[H0]
theorem oo.c (H:oo.f s=some r) (jB:aP (Fl.int .u8) s iW F) (rV:aa s<=jc):
 QR 103 [(ll iW s jc)] [] [] F (oo.R r):=by
 unfold oo.f at H;refine aG Tryz.func103 J J (λW=>rc T 12 (BV J (λc1=>?_) (λc1=>?_)))
 ·have hx:s=[]:=Ow jB c1;replace H:some []=some r:=by simpa[hx] using H
  refine rc T 7 ?_
  cases H;refine bA (p1 T J [1,0] ⟨none,0,[],ak.nil,J,J⟩ J)
 refine rc T 4 (aV (c_ (k:=(Fl.int .u8)) T ([]:List Int) J J J J J J J J J (λa2 H2 s2=>ro T 1 ?_)));obtain⟨c2,H⟩:=az H;refine aV (eF (k:=(Fl.int .u8)) (xs:=([]:List Int)) T (g:=1) J J J J J J J J J J s2 (rO jB 0) c2 J (λa3 n3 H3 s3=>ro T 4 ?_))
 cases H;exact p1 T J [1,0] ⟨a3,n3,H3,s3,J,J⟩ J
def sK.f (s:(List aX)):Option (List aX):=if(aa ([]:List aX)+aa s<=1099511627776) then(some (([]:List aX)++s)) else none
def sK.R (r:(List aX)):bk:=λu G=> ∃a0 n0 H0,ak cP 285 r a0 n0 H0/\u=(ll a0 r n0)/\G=[H0]
theorem sK.c (H:sK.f s=some r) (jB:aP cP s iW F) (rV:aa s<=jc):
 QR 189 [(ll iW s jc)] [] [] F (sK.R r):=by
 unfold sK.f at H;refine aG Tryz.func189 J J (λW=>rc T 12 (BV J (λc1=>?_) (λc1=>?_)))
 ·have hx:s=[]:=Ow jB c1;replace H:some []=some r:=by simpa[hx] using H
  refine rc T 7 ?_
  cases H;refine bA (p1 T J [1,0] ⟨none,0,[],ak.nil,J,J⟩ J)
 refine rc T 4 (aV (c_ (k:=cP) T ([]:List aX) J J J J J J J J J (λa2 H2 s2=>ro T 1 ?_)));obtain⟨c2,H⟩:=az H;refine aV (eF (k:=cP) (xs:=([]:List aX)) T (g:=1) J J J J J J J J J J s2 (rO jB 0) c2 J (λa3 n3 H3 s3=>ro T 4 ?_))
 cases H;exact p1 T J [1,0] ⟨a3,n3,H3,s3,J,J⟩ J
def jI.l1:Nat->(List aX)->Int->List aX->Int->Int->Option (List aX)
 |0,_,_,_,_,_=>none
 |xO+1,s,x2,x7,x8,x9=>if x9<(aa (aB x7 x2 (aa s:Int)):Int) then(if(0<=x9/\x9<(aa (aB x7 x2 (aa s:Int)):Int)) then(if(0<=(af (x9-1))/\(af (x9-1))<(aa (aB x7 x2 (aa s:Int)):Int)) then(if(!(((rd (aB x7 x2 (aa s:Int)) x9).Cell==(rd (aB x7 x2 (aa s:Int)) (af (x9-1))).Cell)&&(((rd (aB x7 x2 (aa s:Int)) x9).cH==(rd (aB x7 x2 (aa s:Int)) (af (x9-1))).cH)&&(((rd (aB x7 x2 (aa s:Int)) x9).Key==(rd (aB x7 x2 (aa s:Int)) (af (x9-1))).Key)&&true))))=true then(if(0<=x8/\x8<(aa x7:Int)) then(jI.l1 xO s x2 (aD x7 (ax x8) (rd (aB x7 x2 (aa s:Int)) x9)) (af (x8+1)) (af (x9+1))) else none) else(jI.l1 xO s x2 x7 x8 (af (x9+1)))) else none) else none) else(if(0<=x8/\x8<=(aa x7:Int)/\(aa x7:Int)<=(aa x7:Int)) then(if(0<=(0:Int)/\(0:Int)<=x8/\x8<=(aa (cx x7 (ax x8) (aa (aB x7 x8 (aa x7:Int))) (ct (aa (aB x7 x8 (aa x7:Int))) (default:aX))):Int)) then(some (aB (cx x7 (ax x8) (aa (aB x7 x8 (aa x7:Int))) (ct (aa (aB x7 x8 (aa x7:Int))) (default:aX))) 0 x8)) else none) else none)
def jI.l0:Nat->(List aX)->Int->Option (List aX)
 |0,_,_=>none
 |k3+1,s,x2=>if x2<(aa s:Int) then(if(0<=x2/\x2<(aa s:Int)) then(if(0<=(af (x2-1))/\(af (x2-1))<(aa s:Int)) then(if(((rd s x2).Cell==(rd s (af (x2-1))).Cell)&&(((rd s x2).cH==(rd s (af (x2-1))).cH)&&(((rd s x2).Key==(rd s (af (x2-1))).Key)&&true)))=true then(if(0<=x2/\x2<=(aa s:Int)/\(aa s:Int)<=(aa s:Int)) then(jI.l1 fuel s x2 s x2 1) else none) else(jI.l0 k3 s (af (x2+1)))) else none) else none) else(some s)
def jI.f (s:(List aX)):Option (List aX):=if(aa s:Int)<2 then(some s) else(jI.l0 fuel s 1)
def jI.R (r:(List aX)):bk:=λu G=> ∃a0 n0 H0,ak cP 285 r a0 n0 H0/\u=(ll a0 r n0)/\G=[H0]
theorem jI.c (H:jI.f s=some r) (cX:ak cP 285 s iW jc dZ):
 QR 210 [(ll iW s jc)] [dZ] [] F (jI.R r):=by
 unfold jI.f at H;refine aG Tryz.func210 J J (λW=>rc T 13 (cd J H (λH=>?_) (λH=>?_)))
 ·refine rc T 8 ?_
  cases H;exact p1 T J [0,0] ⟨iW,jc,dZ,cX,J,J⟩ J
 refine rc T 9 (lq [0] [1,0] (λ(⟨k3,x2⟩:Nat×Int)=>(jI.l0 k3 s x2=some r,[(3,(ii x2))],[])) J J (fuel,1) [1,0] H J J ?_);rintro k3 x2 Z2;replace Z2:jI.l0 (k3+1) s x2=some r:=Z2;rw[jI.l0] at Z2;refine rc T 9 (cd J Z2 (λZ2=>?_) (λZ2=>?_))
 ·refine rc T 5 (dq mix aA (au T J (au T J ?_)));obtain⟨c4,Z2⟩:=az Z2;obtain⟨q2,o2,e2⟩:=cX.r.addr c4.1 c4.2;refine bg J J J (cB T J J J J J e2 c4.1 c4.2) (bg J J J (gd T (cs:=[(ii (rd s x2).Cell),(ii (rd s x2).cH),(ii (rd s x2).Key)]) J J J J J J (iu (k:=cP) (oO cX 1) e2 c4 J)) (au T J (au T J (au T J ?_))));obtain⟨c5,Z2⟩:=az Z2;refine bg J J J (cB T J J J J J e2 c5.1 c5.2) (bg J J J (gd T (cs:=[(ii (rd s (af (x2-1))).Cell),(ii (rd s (af (x2-1))).cH),(ii (rd s (af (x2-1))).Key)]) J J J J J J (iu (k:=cP) (oO cX 1) e2 c5 J)) (bg J J J (abb T (((rd s x2).Cell==(rd s (af (x2-1))).Cell)&&(((rd s x2).cH==(rd s (af (x2-1))).cH)&&(((rd s x2).Key==(rd s (af (x2-1))).Key)&&true))) J J J J Pm aA J) (cM (rx T 1 (cb J Z2 (λZ2=>?_) (λZ2=>?_))))))
  ·refine rc T 4 ?_;obtain⟨c7,Z2⟩:=az Z2;refine bx J (kP T J J J J J J c7 cX.b_) (ro T 10 (lq [] [0] (λ(⟨xO,x7,x8,x9,a5,n5,H5⟩:Nat×List aX×Int×Int×Option Addr×Nat×Hp)=>(jI.l1 xO s x2 x7 x8 x9=some r/\ak cP 285 x7 a5 n5 H5/\(0<=x2/\x2<=(aa s:Int)/\(aa s:Int)<=(aa x7:Int)),[(0,(ll a5 x7 n5)),(3,(ii x8)),(4,(ll (gk a5 n5 (ax x2) 3) (aB x7 x2 (aa s:Int)) (n5-ax x2))),(5,(ii x9))],[H5])) J J (fuel,s,x2,1,iW,jc,dZ) [0,0] ⟨Z2,cX,c7⟩ J J ?_));rintro xO ⟨x7,x8,x9,a5,n5,H5⟩ ⟨Z8,s5,Af⟩;rw[jI.l1] at Z8;refine rc T 9 (cd J Z8 (λZ8=>?_) (λZ8=>?_))
   ·refine rc T 5 (dq mix aA (au T J (au T J ?_)));obtain⟨iK,Z8⟩:=az Z8;obtain⟨q7,o7,e7⟩:=(nq s5.r Af s5.b_).addr iK.1 iK.2;refine bg J J J (cB T J J J J J e7 iK.1 iK.2) (bg J J J (gd T (cs:=[(ii (rd (aB x7 x2 (aa s:Int)) x9).Cell),(ii (rd (aB x7 x2 (aa s:Int)) x9).cH),(ii (rd (aB x7 x2 (aa s:Int)) x9).Key)]) J J J J J J (iu (k:=cP) (nq (oO s5 1) Af s5.b_) e7 iK J)) (au T J (au T J (au T J ?_))));obtain⟨di,Z8⟩:=az Z8;refine bg J J J (cB T J J J J J e7 di.1 di.2) (bg J J J (gd T (cs:=[(ii (rd (aB x7 x2 (aa s:Int)) (af (x9-1))).Cell),(ii (rd (aB x7 x2 (aa s:Int)) (af (x9-1))).cH),(ii (rd (aB x7 x2 (aa s:Int)) (af (x9-1))).Key)]) J J J J J J (iu (k:=cP) (nq (oO s5 1) Af s5.b_) e7 di J)) (bg J J J (MB T (((rd (aB x7 x2 (aa s:Int)) x9).Cell==(rd (aB x7 x2 (aa s:Int)) (af (x9-1))).Cell)&&(((rd (aB x7 x2 (aa s:Int)) x9).cH==(rd (aB x7 x2 (aa s:Int)) (af (x9-1))).cH)&&(((rd (aB x7 x2 (aa s:Int)) x9).Key==(rd (aB x7 x2 (aa s:Int)) (af (x9-1))).Key)&&true))) J J J J Pm aA J) (cM (rx T 1 (cb J Z8 (λZ8=>?_) (λZ8=>?_))))))
    ·refine rc T 6 (ix T J e7 iK (bx J (gd T (cs:=[(ii (rd (aB x7 x2 (aa s:Int)) x9).Cell),(ii (rd (aB x7 x2 (aa s:Int)) x9).cH),(ii (rd (aB x7 x2 (aa s:Int)) x9).Key)]) J J J J J J (iu (k:=cP) (nq (oO s5 1) Af s5.b_) e7 iK J)) ?_));obtain⟨jl,Z8⟩:=az Z8;obtain⟨q8,o8,e8⟩:=s5.r.addr jl.1 jl.2;refine ix T J e8 jl (aV (jN (k:=cP) T 1 0 (rd (aB x7 x2 (aa s:Int)) x9) J J J J J J s5 e8 jl J J J (λH9 s9=>?_)));have P5:(0<=x2/\x2<=(aa s:Int)/\(aa s:Int)<=(aa (aD x7 (ax x8) (rd (aB x7 x2 (aa s:Int)) x9)):Int)):=by simp only[nF];exact Af
     have P6:(0<=x2/\x2<=(aa s:Int)/\(aa s:Int)<=(aa (aD x7 (ax x8) (rd (aB x7 x2 (aa s:Int)) x9)):Int)):=by simp only[nF];exact Af
     refine kf [3,5] [0,0] [(0,(ll a5 (aD x7 (ax x8) (rd (aB x7 x2 (aa s:Int)) x9)) n5)),(4,(ll (gk a5 n5 (ax x2) 3) (aB (aD x7 (ax x8) (rd (aB x7 x2 (aa s:Int)) x9)) x2 (aa s:Int)) (n5-ax x2)))] J J ⟨dw,(by simp only[ll];rw[iQ P5,<-iQ Af];rfl),trivial⟩ (ro T 15 ?_)
     exact ar (_,_,_,_,_,_) [0,0] ⟨Z8,s9,P5⟩ J J
    refine rc T 9 (ar (_,_,_,_,_,_) [0,0] ⟨Z8,s5,Af⟩ J J)
   refine rc T 9 ?_;obtain⟨mC,Z8⟩:=az Z8;refine bx J (kP T J J J J J J mC s5.b_) ?_;have IE:(ax x8)+(aa (aB x7 x8 (aa x7:Int)))<=aa x7:=(HT mC);refine aV (YR (k:=cP) (xs:=x7) (lo:=(ax x8)) (g:=1) T (default:aX) J J J J J J J J s5 (.inr J) IE (λbZ bT=>?_));have P7:(0<=x2/\x2<=(aa s:Int)/\(aa s:Int)<=(aa (cx x7 (ax x8) (aa (aB x7 x8 (aa x7:Int))) (ct (aa (aB x7 x8 (aa x7:Int))) (default:aX))):Int)):=by simp only[L9 IE];exact Af
   have IH:(0<=x8/\x8<=(aa x7:Int)/\(aa x7:Int)<=(aa (cx x7 (ax x8) (aa (aB x7 x8 (aa x7:Int))) (ct (aa (aB x7 x8 (aa x7:Int))) (default:aX))):Int)):=by simp only[L9 IE];exact mC
   refine kf [3] [0,0] [(0,(ll a5 (cx x7 (ax x8) (aa (aB x7 x8 (aa x7:Int))) (ct (aa (aB x7 x8 (aa x7:Int))) (default:aX))) n5))] J J ⟨(by first |rfl |(simp only[ll,L9 IE];rfl)),trivial⟩ (ro T 6 ?_)
   obtain⟨FQ,Z8⟩:=az Z8;refine bx J (kP T J J J J J J FQ bT.b_) (ro T 9 ?_)
   cases Z8;exact p1 T J [1,0] ⟨(gk a5 n5 (ax 0) 3),(n5-ax 0),bZ,(ak.pre bT FQ),J,J⟩ J
  refine rc T 9 (ar _ [0,0] Z2 J J)
 refine rc T 12 ?_
 cases Z2;exact p1 T J [1,0] ⟨iW,jc,dZ,cX,J,J⟩ J
def kA.l0:Nat->List Int->Int->Option (List Int)
 |0,_,_=>none
 |k8+1,x6,x7=>if x7<(aa x6:Int) then(if(0<=x7/\x7<=(aa x6:Int)/\(aa x6:Int)<=(aa x6:Int)) then(if(0<=(0:Int)/\(0:Int)<=x7/\x7<=(aa x6:Int)) then(kA.l0 k8 (cx x6 (ax x7) (min (aa (aB x6 0 x7)) (aa (aB x6 x7 (aa x6:Int)))) (aB x6 0 x7)) (af (x7+(((min (aa (aB x6 0 x7)) (aa (aB x6 x7 (aa x6:Int)))):Nat):Int)))) else none) else none) else(some x6)
def kA.f (x:(List Int)) (count:Int):Option (List Int):=if count<0 then(none) else((tJ.f (eW (aa x:Int)) (eW count)).bind λv1=>if((decide (v1.1>0))||(decide (v1.2>9223372036854775807)))=true then(none) else(if(0<=(af v1.2)/\(af v1.2)<=1099511627776) then((kA.l0 fuel (cx (ct (ax (af v1.2)) (0:Int)) 0 (min (aa x) (aa (ct (ax (af v1.2)) (0:Int)))) x) (((min (aa x) (aa (ct (ax (af v1.2)) (0:Int)))):Nat):Int)).bind λx2=>some x2) else none))
def kA.R (r:(List Int)):bk:=λu G=> ∃a0 n0 H0,ak (Fl.int .i64) 3 r a0 n0 H0/\u=(ll a0 r n0)/\G=[H0]
theorem kA.c (H:kA.f x count=some r) (zm:aP (Fl.int .i64) x Fz F) (QY:aa x<=Hf):
 QR 248 [(ll Fz x Hf),(ii count)] [] [] F (kA.R r):=by
 unfold kA.f at H;refine aG Tryz.func248 J J (λW=>rc T 12 (cd J H (λH=>?_) (λH=>?_)))
 ·cases H
 refine rc T 9 (k [] J M6 H (tJ.c ·) (λv1 H=>ro T 13 (go T [3,4,5] 23 [0,6] 26 J J J J J J J (ro T 2 (cb J H (λH=>?_) (λH=>?_))))))
 ·cases H
 refine rc T 6 ?_;obtain⟨c4,H⟩:=az H;refine aV (xh (k:=(Fl.int .i64)) T (0:Int) J J J J J J J J c4 J (λa1 n1 H1 s1=>ro T 7 ?_));have L5:0+(aa (ct (ax (af v1.2)) (0:Int)))<=aa (ct (ax (af v1.2)) (0:Int)):=(Mz _);refine aV (BW (k:=(Fl.int .i64)) (xs:=(ct (ax (af v1.2)) (0:Int))) (ys:=x) (lo:=0) (g:=1) T J J J J J J J J s1 (rO zm 0) (.inl ⟨J,J⟩) L5 (λH2 s2=>kf [33] [0,0] [(7,(ll a1 (cx (ct (ax (af v1.2)) (0:Int)) 0 (min (aa x) (aa (ct (ax (af v1.2)) (0:Int)))) x) n1))] J J ⟨(by first |rfl |(simp only[ll,l8 L5];rfl)),trivial⟩ (ro T 3 ?_)))
 refine mq H [] [0] (λz3 (⟨x2,a3,n3,H3⟩:List Int×Option Addr×Nat×Hp)=>(x2=z3/\ak (Fl.int .i64) 3 x2 a3 n3 H3,[(7,(ll a3 x2 n3))],[H3])) J J (λz3 Z6 _=>?_) ?_
 ·refine rc T 1 (lq [] [0] (λ(⟨k8,x6,x7,a5,n5,H5⟩:Nat×List Int×Int×Option Addr×Nat×Hp)=>(kA.l0 k8 x6 x7=some z3/\ak (Fl.int .i64) 3 x6 a5 n5 H5,[(7,(ll a5 x6 n5)),(8,(ii x7))],[H5])) J J (fuel,(cx (ct (ax (af v1.2)) (0:Int)) 0 (min (aa x) (aa (ct (ax (af v1.2)) (0:Int)))) x),(((min (aa x) (aa (ct (ax (af v1.2)) (0:Int)))):Nat):Int),a1,n1,H2) [0,0] ⟨Z6,s2⟩ J J ?_);rintro k8 ⟨x6,x7,a5,n5,H5⟩ ⟨Z7,s5⟩;rw[kA.l0] at Z7;refine rc T 9 (cd J Z7 (λZ7=>?_) (λZ7=>?_))
  ·refine rc T 3 (fz J (rz [7] mix (bR bQ) (λhg pf=>ha T 7 [0,1,2] sz hg pf J ?_)));obtain⟨c9,Z7⟩:=az Z7;refine av 3 sz hg pf J (kP T J J J J J J c9 s5.b_) (ha T 4 [4,5] sz hg pf J ?_);obtain⟨iK,Z7⟩:=az Z7;refine av 6 sz hg pf J (kP T J J J J J J iK s5.b_) (ao 7 ?_);have sS:(ax x7)+(aa (aB x6 x7 (aa x6:Int)))<=aa x6:=(HT c9);refine BW (k:=(Fl.int .i64)) (xs:=x6) (ys:=(aB x6 0 x7)) (lo:=(ax x7)) (g:=1) T J J J J J J J J s5 (nq (oO s5 1) iK s5.b_) (.inr J) sS (λH6 s6=>?_);have Fm:(0<=x7/\x7<=(aa x6:Int)/\(aa x6:Int)<=(aa (cx x6 (ax x7) (min (aa (aB x6 0 x7)) (aa (aB x6 x7 (aa x6:Int)))) (aB x6 0 x7)):Int)):=by simp only[l8 sS];exact c9
   have Lv:(0<=(0:Int)/\(0:Int)<=x7/\x7<=(aa (cx x6 (ax x7) (min (aa (aB x6 0 x7)) (aa (aB x6 x7 (aa x6:Int)))) (aB x6 0 x7)):Int)):=by simp only[l8 sS];exact iK
   refine kf [8,37,38,40,43,45] [0,0] [(7,(ll a5 (cx x6 (ax x7) (min (aa (aB x6 0 x7)) (aa (aB x6 x7 (aa x6:Int)))) (aB x6 0 x7)) n5)),(39,(ll a5 (cx x6 (ax x7) (min (aa (aB x6 0 x7)) (aa (aB x6 x7 (aa x6:Int)))) (aB x6 0 x7)) n5)),(41,(ll (gk a5 n5 (ax x7) 1) (aB (cx x6 (ax x7) (min (aa (aB x6 0 x7)) (aa (aB x6 x7 (aa x6:Int)))) (aB x6 0 x7)) x7 (aa x6:Int)) (n5-ax x7))),(42,(ll a5 (cx x6 (ax x7) (min (aa (aB x6 0 x7)) (aa (aB x6 x7 (aa x6:Int)))) (aB x6 0 x7)) n5)),(44,(ll (gk a5 n5 (ax 0) 1) (aB (cx x6 (ax x7) (min (aa (aB x6 0 x7)) (aa (aB x6 x7 (aa x6:Int)))) (aB x6 0 x7)) 0 x7) (n5-ax 0)))] J J ⟨(by first |rfl |(simp only[ll,l8 sS];rfl)),(by first |rfl |(simp only[ll,l8 sS];rfl)),(by simp only[ll];rw[iQ Fm,<-iQ c9];rfl),(by first |rfl |(simp only[ll,l8 sS];rfl)),(by simp only[ll];rw[iQ Lv,<-iQ iK];rfl),trivial⟩ (an sl (hb T 8 sl hg pf J (hb T 9 sl hg pf J (ae (rx T 2 ?_)))))
   exact ar (_,_,_,_,_) [0,0] ⟨Z7,s6⟩ J J
  refine rc T 5 (am (_,_,_,_) [0,0] ⟨oi Z7,s5⟩ J J)
 rintro _ ⟨x2,a3,n3,H3⟩ ⟨rfl,s3⟩ H;refine rc T 7 ?_
 cases H;exact p1 T J [1,0] ⟨a3,n3,H3,s3,J,J⟩ J
def pW.l0:Nat->List Int->Int->Option (List Int)
 |0,_,_=>none
 |k8+1,x6,x7=>if x7<(aa x6:Int) then(if(0<=x7/\x7<=(aa x6:Int)/\(aa x6:Int)<=(aa x6:Int)) then(if(0<=(0:Int)/\(0:Int)<=x7/\x7<=(aa x6:Int)) then(pW.l0 k8 (cx x6 (ax x7) (min (aa (aB x6 0 x7)) (aa (aB x6 x7 (aa x6:Int)))) (aB x6 0 x7)) (af (x7+(((min (aa (aB x6 0 x7)) (aa (aB x6 x7 (aa x6:Int)))):Nat):Int)))) else none) else none) else(some x6)
def pW.f (x:(List Int)) (count:Int):Option (List Int):=if count<0 then(none) else((tJ.f (eW (aa x:Int)) (eW count)).bind λv1=>if((decide (v1.1>0))||(decide (v1.2>9223372036854775807)))=true then(none) else(if(0<=(af v1.2)/\(af v1.2)<=1099511627776) then((pW.l0 fuel (cx (ct (ax (af v1.2)) (0:Int)) 0 (min (aa x) (aa (ct (ax (af v1.2)) (0:Int)))) x) (((min (aa x) (aa (ct (ax (af v1.2)) (0:Int)))):Nat):Int)).bind λx2=>some x2) else none))
def pW.R (r:(List Int)):bk:=λu G=> ∃a0 n0 H0,ak (Fl.int .i32) 21 r a0 n0 H0/\u=(ll a0 r n0)/\G=[H0]
theorem pW.c (H:pW.f x count=some r) (zm:aP (Fl.int .i32) x Fz F) (QY:aa x<=Hf):
 QR 212 [(ll Fz x Hf),(ii count)] [] [] F (pW.R r):=by
 unfold pW.f at H;refine aG Tryz.func212 J J (λW=>rc T 12 (cd J H (λH=>?_) (λH=>?_)))
 ·cases H
 refine rc T 9 (k [] J M6 H (tJ.c ·) (λv1 H=>ro T 13 (go T [3,4,5] 23 [0,6] 26 J J J J J J J (ro T 2 (cb J H (λH=>?_) (λH=>?_))))))
 ·cases H
 refine rc T 6 ?_;obtain⟨c4,H⟩:=az H;refine aV (xh (k:=(Fl.int .i32)) T (0:Int) J J J J J J J J c4 J (λa1 n1 H1 s1=>ro T 7 ?_));have L5:0+(aa (ct (ax (af v1.2)) (0:Int)))<=aa (ct (ax (af v1.2)) (0:Int)):=(Mz _);refine aV (BW (k:=(Fl.int .i32)) (xs:=(ct (ax (af v1.2)) (0:Int))) (ys:=x) (lo:=0) (g:=1) T J J J J J J J J s1 (rO zm 0) (.inl ⟨J,J⟩) L5 (λH2 s2=>kf [33] [0,0] [(7,(ll a1 (cx (ct (ax (af v1.2)) (0:Int)) 0 (min (aa x) (aa (ct (ax (af v1.2)) (0:Int)))) x) n1))] J J ⟨(by first |rfl |(simp only[ll,l8 L5];rfl)),trivial⟩ (ro T 3 ?_)))
 refine mq H [] [0] (λz3 (⟨x2,a3,n3,H3⟩:List Int×Option Addr×Nat×Hp)=>(x2=z3/\ak (Fl.int .i32) 21 x2 a3 n3 H3,[(7,(ll a3 x2 n3))],[H3])) J J (λz3 Z6 _=>?_) ?_
 ·refine rc T 1 (lq [] [0] (λ(⟨k8,x6,x7,a5,n5,H5⟩:Nat×List Int×Int×Option Addr×Nat×Hp)=>(pW.l0 k8 x6 x7=some z3/\ak (Fl.int .i32) 21 x6 a5 n5 H5,[(7,(ll a5 x6 n5)),(8,(ii x7))],[H5])) J J (fuel,(cx (ct (ax (af v1.2)) (0:Int)) 0 (min (aa x) (aa (ct (ax (af v1.2)) (0:Int)))) x),(((min (aa x) (aa (ct (ax (af v1.2)) (0:Int)))):Nat):Int),a1,n1,H2) [0,0] ⟨Z6,s2⟩ J J ?_);rintro k8 ⟨x6,x7,a5,n5,H5⟩ ⟨Z7,s5⟩;rw[pW.l0] at Z7;refine rc T 9 (cd J Z7 (λZ7=>?_) (λZ7=>?_))
  ·refine rc T 3 (fz J (rz [7] mix (bR bQ) (λhg pf=>ha T 7 [0,1,2] sz hg pf J ?_)));obtain⟨c9,Z7⟩:=az Z7;refine av 3 sz hg pf J (kP T J J J J J J c9 s5.b_) (ha T 4 [4,5] sz hg pf J ?_);obtain⟨iK,Z7⟩:=az Z7;refine av 6 sz hg pf J (kP T J J J J J J iK s5.b_) (ao 7 ?_);have sS:(ax x7)+(aa (aB x6 x7 (aa x6:Int)))<=aa x6:=(HT c9);refine BW (k:=(Fl.int .i32)) (xs:=x6) (ys:=(aB x6 0 x7)) (lo:=(ax x7)) (g:=1) T J J J J J J J J s5 (nq (oO s5 1) iK s5.b_) (.inr J) sS (λH6 s6=>?_);have Fm:(0<=x7/\x7<=(aa x6:Int)/\(aa x6:Int)<=(aa (cx x6 (ax x7) (min (aa (aB x6 0 x7)) (aa (aB x6 x7 (aa x6:Int)))) (aB x6 0 x7)):Int)):=by simp only[l8 sS];exact c9
   have Lv:(0<=(0:Int)/\(0:Int)<=x7/\x7<=(aa (cx x6 (ax x7) (min (aa (aB x6 0 x7)) (aa (aB x6 x7 (aa x6:Int)))) (aB x6 0 x7)):Int)):=by simp only[l8 sS];exact iK
   refine kf [8,37,38,40,43,45] [0,0] [(7,(ll a5 (cx x6 (ax x7) (min (aa (aB x6 0 x7)) (aa (aB x6 x7 (aa x6:Int)))) (aB x6 0 x7)) n5)),(39,(ll a5 (cx x6 (ax x7) (min (aa (aB x6 0 x7)) (aa (aB x6 x7 (aa x6:Int)))) (aB x6 0 x7)) n5)),(41,(ll (gk a5 n5 (ax x7) 1) (aB (cx x6 (ax x7) (min (aa (aB x6 0 x7)) (aa (aB x6 x7 (aa x6:Int)))) (aB x6 0 x7)) x7 (aa x6:Int)) (n5-ax x7))),(42,(ll a5 (cx x6 (ax x7) (min (aa (aB x6 0 x7)) (aa (aB x6 x7 (aa x6:Int)))) (aB x6 0 x7)) n5)),(44,(ll (gk a5 n5 (ax 0) 1) (aB (cx x6 (ax x7) (min (aa (aB x6 0 x7)) (aa (aB x6 x7 (aa x6:Int)))) (aB x6 0 x7)) 0 x7) (n5-ax 0)))] J J ⟨(by first |rfl |(simp only[ll,l8 sS];rfl)),(by first |rfl |(simp only[ll,l8 sS];rfl)),(by simp only[ll];rw[iQ Fm,<-iQ c9];rfl),(by first |rfl |(simp only[ll,l8 sS];rfl)),(by simp only[ll];rw[iQ Lv,<-iQ iK];rfl),trivial⟩ (an sl (hb T 8 sl hg pf J (hb T 9 sl hg pf J (ae (rx T 2 ?_)))))
   exact ar (_,_,_,_,_) [0,0] ⟨Z7,s6⟩ J J
  refine rc T 5 (am (_,_,_,_) [0,0] ⟨oi Z7,s5⟩ J J)
 rintro _ ⟨x2,a3,n3,H3⟩ ⟨rfl,s3⟩ H;refine rc T 7 ?_
 cases H;exact p1 T J [1,0] ⟨a3,n3,H3,s3,J,J⟩ J
def qD.f (s:(List Int)):Option (List Int):=if(aa ([]:List Int)+aa s<=1099511627776) then(some (([]:List Int)++s)) else none
def qD.R (r:(List Int)):bk:=λu G=> ∃a0 n0 H0,ak (Fl.int .i64) 3 r a0 n0 H0/\u=(ll a0 r n0)/\G=[H0]
theorem qD.c (H:qD.f s=some r) (jB:aP (Fl.int .i64) s iW F) (rV:aa s<=jc):
 QR 227 [(ll iW s jc)] [] [] F (qD.R r):=by
 unfold qD.f at H;refine aG Tryz.func227 J J (λW=>rc T 12 (BV J (λc1=>?_) (λc1=>?_)))
 ·have hx:s=[]:=Ow jB c1;replace H:some []=some r:=by simpa[hx] using H
  refine rc T 7 ?_
  cases H;refine bA (p1 T J [1,0] ⟨none,0,[],ak.nil,J,J⟩ J)
 refine rc T 4 (aV (c_ (k:=(Fl.int .i64)) T ([]:List Int) J J J J J J J J J (λa2 H2 s2=>ro T 1 ?_)));obtain⟨c2,H⟩:=az H;refine aV (eF (k:=(Fl.int .i64)) (xs:=([]:List Int)) T (g:=1) J J J J J J J J J J s2 (rO jB 0) c2 J (λa3 n3 H3 s3=>ro T 4 ?_))
 cases H;exact p1 T J [1,0] ⟨a3,n3,H3,s3,J,J⟩ J
def Bm.f (x:Int):Option Bool:=some (x !=x)
theorem Bm.c (H:Bm.f x=some r):
 QU 301 [(ii x)] [] F (bb r):=by
 unfold Bm.f at H;refine aG Tryz.func301 J J (λW=>rc T 14 ?_)
 cases H;exact p0 T J [0] J
def oZ.l0:Nat->(List Int)->Int->Int->Int->Option Int
 |0,_,_,_,_=>none
 |k7+1,x,target,x5,x6=>if x5<x6 then(if(0<=(af (fL (eW (af (x5+x6))) (2^1)))/\(af (fL (eW (af (x5+x6))) (2^1)))<(aa x:Int)) then((cmp_Less_int.f (rd x (af (fL (eW (af (x5+x6))) (2^1)))) target).bind λv8=>if v8=true then(oZ.l0 k7 x target (af ((af (fL (eW (af (x5+x6))) (2^1)))+1)) x6) else(oZ.l0 k7 x target x5 (af (fL (eW (af (x5+x6))) (2^1))))) else none) else(some x5)
def oZ.f (x:(List Int)) (target:Int):Option (Int×Bool):=(oZ.l0 fuel x target 0 (aa x:Int)).bind λx1=>(if x1<(aa x:Int) then(if(0<=x1/\x1<(aa x:Int)) then(if((rd x x1)==target)=true then(some true) else((Bm.f (rd x x1)).bind λv11=>if v11=true then((Bm.f target).bind λv12=>some v12) else(some false))) else none) else(some false)).bind λx9=>some (x1,x9)
theorem oZ.c (H:oZ.f x target=some r) (zm:aP (Fl.int .i64) x Fz F) (QY:aa x<=Hf):
 QU 289 [(ll Fz x Hf),(ii target)] [] F (.tuple #[(ii r.1),(bb r.2)]):=by
 unfold oZ.f at H;refine aG Tryz.func289 J J (λW=>rc T 20 (mq H [0,1,6] [0] (λz2 (x1:Int)=>(x1=z2,[(7,(ii x1))],[])) J J (λz2 Z1 _=>?_) ?_))
 ·refine rc T 1 (lq [0,1,6] [0] (λ(⟨k7,x5,x6⟩:Nat×Int×Int)=>(oZ.l0 k7 x target x5 x6=some z2,[(7,(ii x5)),(8,(ii x6))],[])) J J (fuel,0,(aa x:Int)) [0] Z1 J J ?_);rintro k7 ⟨x5,x6⟩ Z2;replace Z2:oZ.l0 (k7+1) x target x5 x6=some z2:=Z2;rw[oZ.l0] at Z2;refine rc T 8 (cd J Z2 (λZ2=>?_) (λZ2=>?_))
  ·refine rc T 18 ?_;obtain⟨c4,Z2⟩:=az Z2;obtain⟨q1,o1,e1⟩:=zm.addr c4.1 c4.2;refine ix T J e1 c4 (le T 0 (rO zm 0) e1 c4 J J (ro T 1 (k [] J adh Z2 (cmp_Less_int.c ·) (λv8 Z2=>ro T 2 (cb J Z2 (λZ2=>?_) (λZ2=>?_))))))
   ·refine rc T 7 (ar (_,_) [0] Z2 J J)
   refine rc T 6 (ar (_,_) [0] Z2 J J)
  refine rc T 5 (am _ [0] (oi Z2) J J)
 rintro _ x1 rfl H;refine mq H [] [0] (λmo (x9:Bool)=>(x9=mo,[(4,(ii x1)),(5,(bb x9))],[])) J J (λmo Z7 _=>?_) ?_
 ·refine rc T 6 (ad 35 J Z7 (λZ7=>?_) (λZ7=>?_))
  ·refine ro T 2 ?_;obtain⟨c9,Z7⟩:=az Z7;obtain⟨q2,o2,e2⟩:=zm.addr c9.1 c9.2;refine ix T J e2 c9 (le T 0 (rO zm 0) e2 c9 J J (ro T 3 (ab 42 J Z7 (λZ7=>?_) (λZ7=>?_))))
   ·refine ro T 15 (am _ [0] (oi Z7) J J)
   refine ro T 2 (ix T J e2 c9 (le T 0 (rO zm 0) e2 c9 J J (k [] J Ta Z7 (Bm.c ·) (λv11 Z7=>ro T 1 (ab 48 J Z7 (λZ7=>?_) (λZ7=>?_))))))
   ·refine ro T 1 (k [] J Ta Z7 (Bm.c ·) (λv12 Z7=>ro T 7 (am _ [0] (oi Z7) J J)))
   refine ro T 9 (am _ [0] (oi Z7) J J)
  refine ro T 22 (am _ [0] (oi Z7) J J)
 rintro _ x9 rfl H;refine rc T 1 ?_
 cases H;exact p0 T J [0] J
def ry.l0:Nat->(List aX)->(List aX)->Int->Option Bool
 |0,_,_,_=>none
 |k3+1,ag,ai,x2=>if x2<(aa ag:Int) then(if(0<=x2/\x2<(aa ag:Int)) then(if(0<=x2/\x2<(aa ai:Int)) then(if(!(((rd ag x2).Cell==(rd ai x2).Cell)&&(((rd ag x2).cH==(rd ai x2).cH)&&(((rd ag x2).Key==(rd ai x2).Key)&&true))))=true then(some false) else(ry.l0 k3 ag ai (af (x2+1)))) else none) else none) else(some true)
def ry.f (ag:(List aX)) (ai:(List aX)):Option Bool:=if((aa ag:Int)!=(aa ai:Int))=true then(some false) else(ry.l0 fuel ag ai 0)
theorem ry.c (H:ry.f ag ai=some r) (vU:aP cP ag Fy F) (QV:aa ag<=He) (Sh:aP cP ai Yb F) (aiV:aa ai<=aft):
 QU 226 [(ll Fy ag He),(ll Yb ai aft)] [] F (bb r):=by
 unfold ry.f at H;refine aG Tryz.func226 J J (λW=>rc T 15 (cb J H (λH=>?_) (λH=>?_)))
 ·refine rc T 7 ?_
  cases H;exact p0 T J [0] J
 refine rc T 11 (lq [0,1,12] [0] (λ(⟨k3,x2⟩:Nat×Int)=>(ry.l0 k3 ag ai x2=some r,[(13,(ii x2))],[])) J J (fuel,0) [0] H J J ?_);rintro k3 x2 Z2;replace Z2:ry.l0 (k3+1) ag ai x2=some r:=Z2;rw[ry.l0] at Z2;refine rc T 6 (cd J Z2 (λZ2=>?_) (λZ2=>?_))
 ·refine rc T 11 (dq mix aA (au T J (au T J ?_)));obtain⟨c4,Z2⟩:=az Z2;obtain⟨q1,o1,e1⟩:=vU.addr c4.1 c4.2;refine bg J J J (cB T J J J J J e1 c4.1 c4.2) (bg J J J (gd T (cs:=[(ii (rd ag x2).Cell),(ii (rd ag x2).cH),(ii (rd ag x2).Key)]) J J J J J J (iu (k:=cP) (rO vU 0) e1 c4 J)) (au T J (au T J ?_)));obtain⟨c5,Z2⟩:=az Z2;obtain⟨q2,o2,e2⟩:=Sh.addr c5.1 c5.2;refine bg J J J (cB T J J J J J e2 c5.1 c5.2) (bg J J J (gd T (cs:=[(ii (rd ai x2).Cell),(ii (rd ai x2).cH),(ii (rd ai x2).Key)]) J J J J J J (iu (k:=cP) (rO Sh 0) e2 c5 J)) (bg J J J (MB T (((rd ag x2).Cell==(rd ai x2).Cell)&&(((rd ag x2).cH==(rd ai x2).cH)&&(((rd ag x2).Key==(rd ai x2).Key)&&true))) J J J J Pm aA J) (cM (rx T 1 (cb J Z2 (λZ2=>?_) (λZ2=>?_))))))
  ·refine rc T 11 ?_
   cases Z2;exact p0 T J [0] J
  refine rc T 8 (ar _ [0] Z2 J J)
 refine rc T 11 ?_
 cases Z2;exact p0 T J [0] J
end
noncomputable section
def Bv.f (n:Int):Option Bool:=some ((decide (n≥1))&&(decide (n<=16)))
theorem Bv.c (H:Bv.f n=some r):
 QU 245 [(ii n)] [] F (bb r):=by
 unfold Bv.f at H;refine aG Tryz.func245 J J (λW=>rc T 10 (ga T [3,4,5] 5 [] 8 J J J J J J J (ro T 4 ?_)))
 cases H;exact p0 T J [0] J
def uk.f (t:aF):Option Bool:=((Bv.f t.W).bind λv3=>if v3=true then((Bv.f t.H).bind λv4=>if v4=true then(if((aa t.C:Int)==(af (t.W*t.H)))=true then((wQ.f t.C 0).bind λv5=>some (!v5)) else(some false)) else(some false)) else(some false)).bind λx1=>some x1
theorem uk.c (H:uk.f t=some r) (dU:aP (Fl.int .u8) t.C iz F) (fq:aa t.C<=iB):
 QU 220 [(.agg #[(ii t.W),(ii t.H),(ll iz t.C iB)])] [] F (bb r):=by
 unfold uk.f at H;refine aG Tryz.func220 J J (λW=>rc T 2 (nc T J (λb1=>ro T 3 (mq H [] [0] (λz2 (x1:Bool)=>(x1=z2,[(2,(bb x1))],[])) J J (λz2 Z1 _=>?_) ?_))))
 ·refine rc T 2 (lf T 1 J (k [] J S0 Z1 (Bv.c ·) (λv3 Z1=>ro T 1 (ab 6 J Z1 (λZ1=>?_) (λZ1=>?_)))))
  ·refine ro T 1 (lf T 1 J (k [] J S0 Z1 (Bv.c ·) (λv4 Z1=>ro T 2 (ab 11 J Z1 (λZ1=>?_) (λZ1=>?_)))))
   ·refine ro T 1 (lf T 1 J (ro T 2 (lf T 1 J (ro T 1 (lf T 1 J (ro T 4 (ab 22 J Z1 (λZ1=>?_) (λZ1=>?_))))))))
    ·refine ro T 1 (lf T 1 J (k [] J M1 Z1 (wQ.c · (rO dU 0) fq) (λv5 Z1=>ro T 5 (am _ [0] (oi Z1) J J))))
    refine ro T 8 (am _ [0] (oi Z1) J J)
   refine ro T 19 (am _ [0] (oi Z1) J J)
  refine ro T 24 (am _ [0] (oi Z1) J J)
 rintro _ x1 rfl H;refine rc T 1 ?_
 cases H;exact p0 T J [0] J
def EZ.f (t:aF) (ai:Int):Option Bool:=(if ai≥0 then(if ai<(aa t.C:Int) then((uk.f t).bind λv3=>some v3) else(some false)) else(some false)).bind λx1=>some x1
theorem EZ.c (H:EZ.f t ai=some r) (dU:aP (Fl.int .u8) t.C iz F) (fq:aa t.C<=iB):
 QU 299 [(.agg #[(ii t.W),(ii t.H),(ll iz t.C iB)]),(ii ai)] [] F (bb r):=by
 unfold EZ.f at H;refine aG Tryz.func299 J J (λW=>rc T 2 (nc T J (λb1=>ro T 3 (mq H [] [0] (λz2 (x1:Bool)=>(x1=z2,[(4,(bb x1))],[])) J J (λz2 Z1 _=>?_) ?_))))
 ·refine rc T 4 (ad 7 J Z1 (λZ1=>?_) (λZ1=>?_))
  ·refine ro T 2 (lf T 1 J (ro T 4 (ad 14 J Z1 (λZ1=>?_) (λZ1=>?_))))
   ·refine lm T 1 J (k [] J JI Z1 (uk.c · (rO dU 0) fq) (λv3 Z1=>ro T 4 (am _ [0] (oi Z1) J J)))
   refine ro T 6 (am _ [0] (oi Z1) J J)
  refine ro T 13 (am _ [0] (oi Z1) J J)
 rintro _ x1 rfl H;refine rc T 1 ?_
 cases H;exact p0 T J [0] J
def Bu.f (t:aF) (ai:Int):Option Int:=(EZ.f t ai).bind λv1=>if(!v1)=true then(some 0) else(if(0<=ai/\ai<(aa t.C:Int)) then(some (af (rd t.C ai))) else none)
theorem Bu.c (H:Bu.f t ai=some r) (dU:aP (Fl.int .u8) t.C iz F) (fq:aa t.C<=iB):
 QU 288 [(.agg #[(ii t.W),(ii t.H),(ll iz t.C iB)]),(ii ai)] [] F (ii r):=by
 unfold Bu.f at H;refine aG Tryz.func288 J J (λW=>rc T 2 (nc T J (λb1=>ro T 6 (lm T 1 J (ro T 1 (k [] J adg H (EZ.c · (rO dU 0) fq) (λv1 H=>ro T 3 (cb J H (λH=>?_) (λH=>?_)))))))))
 ·refine rc T 7 ?_
  cases H;exact p0 T J [0] J
 refine rc T 5 (lf T 1 J (ro T 1 ?_));obtain⟨c3,H⟩:=az H;obtain⟨q2,o2,e2⟩:=dU.addr c3.1 c3.2;refine ix T J e2 c3 (le T 0 (rO dU 0) e2 c3 J J (ro T 5 ?_))
 cases H;exact p0 T J [0] J
end
end Go.Proofs.YthodkonhneebbaaGreatDoor
