/- What the functions of some packages compute, each as a function of plain Lean, with its contract. No condition. -/
import Derived.Test.YthodkonhneebbaaGreatDoorKST
namespace Go.Proofs.YthodkonhneebbaaGreatDoor
open Go.Hx
set_option maxRecDepth 100000
set_option linter.unusedSimpArgs false
set_option linter.unusedVariables false
set_option maxHeartbeats 4000000
set_option autoImplicit true
set_option relaxedAutoImplicit true
noncomputable section
def eN.f (n:Int) (lo:Int) (hi:Int):Option Int:=if(¬(aa ((aa (hi-lo))+1))=0) then(if(Int.tmod n (aa ((aa (hi-lo))+1)))<0 then(some (aa (lo+(aa ((aa ((aa ((Int.tmod n (aa ((aa (hi-lo))+1)))+hi))-lo))+1))))) else(some (aa (lo+(Int.tmod n (aa ((aa (hi-lo))+1))))))) else none
theorem eN.c (H:eN.f n lo hi=some r):
 QU 12 [(ii n),(ii lo),(ii hi)] [] F (ii r):=by
 unfold eN.f at H;refine aD Tryz.func12 J J (λW=>rc T 12 ?_);obtain⟨c1,H⟩:=az H;refine br J (vK J J J c1) (ro T 10 (cd J H (λH=>?_) (λH=>?_)))
 ·refine rc T 19 ?_
  cases H;exact p0 T J [0] J
 refine rc T 11 ?_
 cases H;exact p0 T J [0] J
def wu.f (x:Int):Option Int:=if((Int.tmod x 8)==7)=true then(some 255) else(if x<160 then(some (bU (1+(Int.tmod x 4)))) else(some x))
theorem wu.c (H:wu.f x=some r):
 QU 49 [(.int .u8 x)] [] F (.int .u8 r):=by
 unfold wu.f at H;refine aD Tryz.func49 J J (λW=>rc T 13 (cb J H (λH=>?_) (λH=>?_)))
 ·refine rc T 7 ?_
  cases H;exact p0 T J [0] J
 refine rc T 9 (cd J H (λH=>?_) (λH=>?_))
 ·refine rc T 10 ?_
  cases H;exact p0 T J [0] J
 refine rc T 9 ?_
 cases H;exact p0 T J [0] J
def lC.l0:Nat->(List Int)->Int->Int->List Int->Int->Option aL
 |0,_,_,_,_,_=>none
 |k7+1,p2,v1,v2,x5,x6=>if x6<(aa (v1*v2)) then(if(List.length p2:Int)>0 then(if(¬(List.length p2:Int)=0) then(if(¬(List.length p2:Int)=0) then(if(0<=(Int.tmod (aa (x6+(aa ((aa (Int.tdiv x6 (List.length p2:Int)))*5)))) (List.length p2:Int))/\(Int.tmod (aa (x6+(aa ((aa (Int.tdiv x6 (List.length p2:Int)))*5)))) (List.length p2:Int))<(List.length p2:Int)) then((wu.f (rd p2 (Int.tmod (aa (x6+(aa ((aa (Int.tdiv x6 (List.length p2:Int)))*5)))) (List.length p2:Int)))).bind λv8=>if(List.length x5+1<=1099511627776) then(lC.l0 k7 p2 v1 v2 (x5++[v8]) (aa (x6+1))) else none) else none) else none) else none) else((wu.f 1).bind λv9=>if(List.length x5+1<=1099511627776) then(lC.l0 k7 p2 v1 v2 (x5++[v9]) (aa (x6+1))) else none)) else(some (aL.mk v1 v2 x5))
def lC.f (w:Int) (h:Int) (p2:(List Int)):Option aL:=(eN.f w 1 40).bind λv1=>(eN.f h 1 40).bind λv2=>lC.l0 fuel p2 v1 v2 [] 0
def lC.R (r:aL):bg:=λu G=> ∃a0 n0 H0,aj (Fl.int .u8) 5 r.C a0 n0 H0/\u=(.agg #[(ii r.W),(ii r.H),(ll a0 r.C n0)])/\G=[H0]
theorem lC.c (H:lC.f w h p2=some r) (Gr:aP (Fl.int .u8) p2 Mb F) (ME:List.length p2<=OW):
 QR 48 [(ii w),(ii h),(ll Mb p2 OW)] [] [] F (lC.R r):=by
 unfold lC.f at H;refine aD Tryz.func48 J J (λW=>rc T 2 (nc T J (λb1=>ro T 5 (k [] J kF H (eN.c ·) (λv1 H=>ro T 1 (k [] J kF H (eN.c ·) (λv2 H=>ro T 1 (nc T J (λb2=>sg T 2 J (ro T 9 (bq (lq [2,6,7] [0,0] (λ(⟨k7,x5,x6,a4,n4,H4⟩:Nat×List Int×Int×Option Addr×Nat×Hp)=>(lC.l0 k7 p2 v1 v2 x5 x6=some r/\aj (Fl.int .u8) 5 x5 a4 n4 H4,[(8,(ii x6))],[(cl b2 30 [(ii v1),(ii v2),(ll a4 x5 n4)]),H4])) J J (fuel,[],0,none,0,[]) [0,0,0,0] ⟨H,aj.nil⟩ J J ?_))))))))))));rintro k7 ⟨x5,x6,a4,n4,H4⟩ ⟨Z3,s4⟩;rw[lC.l0] at Z3;refine rc T 5 (lf T 2 J (ro T 1 (lf T 2 J (ro T 4 (cd J Z3 (λZ3=>?_) (λZ3=>?_))))))
 ·refine rc T 23 (cd J Z3 (λZ3=>?_) (λZ3=>?_))
  ·refine rc T 5 ?_;obtain⟨c6,Z3⟩:=az Z3;refine br J (vJ J J J c6) (ro T 3 ?_);obtain⟨c7,Z3⟩:=az Z3;refine br J (vK J J J c7) ?_;obtain⟨c8,Z3⟩:=az Z3;obtain⟨q5,o5,e5⟩:=Gr.addr c8.1 c8.2;refine ix T J e5 c8 (le T 0 (rO Gr 0) e5 c8 J J (ro T 3 (fz J (rg [5,7] [0,0,0,0] mix (bO bN) (λhg pf=>ha T 7 [0] sz hg pf J (av 1 sz hg pf J (aw T J J J J (aK (j:=2) J J)) (ha T 5 [2] sz hg pf J (ao 3 (kh [] J NS Z3 (wu.c ·) (λv8 Z3=>an sz (ao 4 (cY (k:=(Fl.int .u8)) T [v8] J J J J J J J J J (λa6 H6 s6=>an (so [0,0,0,0]) (ao 5 ?_))))))))))))));obtain⟨iT,Z3⟩:=az Z3;refine dW (k:=(Fl.int .u8)) (xs:=x5) T (g:=3) J J J J J J J J J J s4 (oO s6 4) iT J (λa7 n7 H7 s7=>an sl (hb T 6 sl hg pf J (ao 7 (sf T 2 J (an sl (ae (rx T 8 (ar (_,_,_,_,_) [0,0,0,0] ⟨Z3,s7⟩ J J))))))))
  refine rc T 2 (fz J (rg [5,7] [0,0,0,0] mix (bO bN) (λhg pf=>ha T 7 [0] sz hg pf J (av 1 sz hg pf J (aw T J J J J (aK (j:=2) J J)) (ha T 5 [2] sz hg pf J (ao 3 (kh [] J NS Z3 (wu.c ·) (λv9 Z3=>an sz (ao 4 (cY (k:=(Fl.int .u8)) T [v9] J J J J J J J J J (λa8 H8 s8=>an (so [0,0,0,0]) (ao 5 ?_))))))))))));obtain⟨ir,Z3⟩:=az Z3;refine dW (k:=(Fl.int .u8)) (xs:=x5) T (g:=3) J J J J J J J J J J s4 (oO s8 4) ir J (λa9 n9 H9 s9=>an sl (hb T 6 sl hg pf J (ao 7 (sf T 2 J (an sl (ae (rx T 8 (ar (_,_,_,_,_) [0,0,0,0] ⟨Z3,s9⟩ J J))))))))
 refine rc T 7 (lm T 2 J (sg T 1 J (ro T 3 ?_)))
 cases Z3;exact pb T J (.cQ (j:=1) [(ii v1),(ii v2),(ll a4 x5 n4)] J J J J J J J .nil) [3,0] ⟨(_,_),a4,n4,H4,s4,J,J⟩ J J
def tJ.f (n:Int) (lo:Int) (hi:Int):Option Bool:=some ((decide (n≥lo))&&(decide (n<=hi)))
theorem tJ.c (H:tJ.f n lo hi=some r):
 QU 47 [(ii n),(ii lo),(ii hi)] [] F (bb r):=by
 unfold tJ.f at H;refine aD Tryz.func47 J J (λW=>rc T 11 (ga T [4,5,6,7] 10 [] 14 J J J J J J J (ro T 4 ?_)))
 cases H;exact p0 T J [0] J
def Dg.f (w:Int) (h:Int):Option Bool:=((tJ.f w 1 1024).bind λv3=>if v3=true then((tJ.f h 1 1024).bind λv4=>some v4) else(some false)).bind λx1=>some x1
theorem Dg.c (H:Dg.f w h=some r):
 QU 67 [(ii w),(ii h)] [] F (bb r):=by
 unfold Dg.f at H;refine aD Tryz.func67 J J (λW=>rc T 5 (mq H [] [0] (λz2 (x1:Bool)=>(x1=z2,[(4,(bb x1))],[])) J J (λz2 Z1 _=>?_) ?_))
 ·refine rc T 2 (k [] J J' Z1 (tJ.c ·) (λv3 Z1=>ro T 1 (ab 7 J Z1 (λZ1=>?_) (λZ1=>?_))))
  ·refine ro T 1 (k [] J J' Z1 (tJ.c ·) (λv4 Z1=>ro T 4 (am _ [0] (oi Z1) J J)))
  refine ro T 6 (am _ [0] (oi Z1) J J)
 rintro _ x1 rfl H;refine rc T 1 ?_
 cases H;exact p0 T J [0] J
def wv.f (w:Int) (h:Int):Option (Int×Int):=(Dg.f w h).bind λv1=>if(!v1)=true then(some (0,0)) else(some ((aa (Int.tdiv (aa ((aa (w+16))-1)) 16)),(aa (Int.tdiv (aa ((aa (h+16))-1)) 16))))
theorem wv.c (H:wv.f w h=some r):
 QU 57 [(ii w),(ii h)] [] F (.tuple #[(ii r.1),(ii r.2)]):=by
 unfold wv.f at H;refine aD Tryz.func57 J J (λW=>rc T 11 (k [] J aey H (Dg.c ·) (λv1 H=>ro T 3 (cb J H (λH=>?_) (λH=>?_)))))
 ·refine rc T 8 ?_
  cases H;exact p0 T J [0] J
 refine rc T 17 ?_
 cases H;exact p0 T J [0] J
def zG.f (w:Int) (h:Int):Option Int:=(wv.f w h).bind λv1=>some (aa (v1.1*v1.2))
theorem zG.c (H:zG.f w h=some r):
 QU 25 [(ii w),(ii h)] [] F (ii r):=by
 unfold zG.f at H;refine aD Tryz.func25 J J (λW=>rc T 9 (k [] J NT H (wv.c ·) (λv1 H=>ro T 16 ?_)))
 cases H;exact p0 T J [0] J
def zH.f (w:Int) (h:Int) (s:Int):Option (Int×Int):=(zG.f w h).bind λv1=>(tJ.f s 0 (aa (v1-1))).bind λv2=>if(!v2)=true then(some (0,0)) else((wv.f w h).bind λv3=>if(¬v3.1=0) then(if(¬v3.1=0) then(some ((if(aa (w-(aa (16*(Int.tmod s v3.1)))))<16 then(aa (w-(aa (16*(Int.tmod s v3.1))))) else 16),(if(aa (h-(aa (16*(aa (Int.tdiv s v3.1))))))<16 then(aa (h-(aa (16*(aa (Int.tdiv s v3.1)))))) else 16))) else none) else none)
theorem zH.c (H:zH.f w h s=some r):
 QU 70 [(ii w),(ii h),(ii s)] [] F (.tuple #[(ii r.1),(ii r.2)]):=by
 unfold zH.f at H;refine aD Tryz.func70 J J (λW=>rc T 12 (k [] J TO H (zG.c ·) (λv1 H=>ro T 1 (k [] J J' H (tJ.c ·) (λv2 H=>ro T 3 (cb J H (λH=>?_) (λH=>?_)))))))
 ·refine rc T 8 ?_
  cases H;exact p0 T J [0] J
 refine rc T 6 (k [] J NT H (wv.c ·) (λv3 H=>ro T 8 (dx mix ay (au T J (au T J (au T J ?_))))));obtain⟨c5,H⟩:=az H;refine aO J J J (vK J J J c5) ?_
 iterate 6 refine au T J ?_
 obtain⟨c6,H⟩:=az H;refine aO J J J (vJ J J J c6) ?_
 iterate 5 refine au T J ?_
 refine dh (rx T 2 ?_)
 cases H;exact p0 T J [0] J
def Df.f (w:Int) (h:Int) (s:Int) (l:Int):Option Int:=(zH.f w h s).bind λv1=>(tJ.f l 0 (aa ((aa (v1.1*v1.2))-1))).bind λv2=>if(!v2)=true then(some (-1)) else((wv.f w h).bind λv3=>if(¬v3.1=0) then(if(¬v1.1=0) then(if(¬v3.1=0) then(if(¬v1.1=0) then(some (aa ((aa ((aa ((aa ((aa (16*(aa (Int.tdiv s v3.1))))+(aa (Int.tdiv l v1.1))))*w))+(aa (16*(Int.tmod s v3.1)))))+(Int.tmod l v1.1)))) else none) else none) else none) else none)
theorem Df.c (H:Df.f w h s l=some r):
 QU 71 [(ii w),(ii h),(ii s),(ii l)] [] F (ii r):=by
 unfold Df.f at H;refine aD Tryz.func71 J J (λW=>rc T 10 (k [] J T9 H (zH.c ·) (λv1 H=>ro T 15 (k [] J J' H (tJ.c ·) (λv2 H=>ro T 3 (cb J H (λH=>?_) (λH=>?_)))))))
 ·refine rc T 7 ?_
  cases H;exact p0 T J [0] J
 refine rc T 6 (k [] J NT H (wv.c ·) (λv3 H=>ro T 8 (dx mix ay (au T J (au T J ?_)))));obtain⟨c5,H⟩:=az H;refine aO J J J (vJ J J J c5) (au T J (au T J (au T J ?_)));obtain⟨c6,H⟩:=az H;refine aO J J J (vJ J J J c6) ?_
 iterate 5 refine au T J ?_
 obtain⟨c7,H⟩:=az H;refine aO J J J (vK J J J c7) ?_
 iterate 4 refine au T J ?_
 obtain⟨c8,H⟩:=az H;refine aO J J J (vK J J J c8) (au T J (au T J (dh (rx T 2 ?_))))
 cases H;exact p0 T J [0] J
def nS.l0:Nat->aL->Int->(Int×Int)->List Int->Int->Option aL
 |0,_,_,_,_,_=>none
 |k6+1,m,s,v1,x4,x5=>if x5<(aa (v1.1*v1.2)) then((Df.f m.W m.H s x5).bind λv7=>if(0<=v7/\v7<(List.length m.C:Int)) then(if(List.length x4+1<=1099511627776) then(nS.l0 k6 m s v1 (x4++[(rd m.C v7)]) (aa (x5+1))) else none) else none) else(some (aL.mk v1.1 v1.2 x4))
def nS.f (m:aL) (s:Int):Option aL:=(zH.f m.W m.H s).bind λv1=>nS.l0 fuel m s v1 [] 0
def nS.R (r:aL):bg:=λu G=> ∃a0 n0 H0,aj (Fl.int .u8) 5 r.C a0 n0 H0/\u=(.agg #[(ii r.W),(ii r.H),(ll a0 r.C n0)])/\G=[H0]
theorem nS.c (H:nS.f m s=some r) (tf:aP (Fl.int .u8) m.C pa F) (vx:List.length m.C<=oK):
 QR 76 [(.agg #[(ii m.W),(ii m.H),(ll pa m.C oK)]),(ii s)] [] [] F (nS.R r):=by
 unfold nS.f at H;refine aD Tryz.func76 J J (λW=>rc T 2 (nc T J (λb1=>nc T J (λb2=>ro T 5 (lf T 1 J (ro T 1 (lf T 1 J (ro T 1 (k [] J T9 H (zH.c ·) (λv1 H=>ro T 12 (nc T J (λb3=>sg T 3 J (ro T 9 (bq (lq [1,2,4,5,6,7] [0,0,0] (λ(⟨k6,x4,x5,a5,n5,H5⟩:Nat×List Int×Int×Option Addr×Nat×Hp)=>(nS.l0 k6 m s v1 x4 x5=some r/\aj (Fl.int .u8) 5 x4 a5 n5 H5,[(8,(ii x5))],[(cl b3 139 [(ii v1.1),(ii v1.2),(ll a5 x4 n5)]),H5])) J J (fuel,[],0,none,0,[]) [0,0,0,0,0] ⟨H,aj.nil⟩ J J ?_)))))))))))))));rintro k6 ⟨x4,x5,a5,n5,H5⟩ ⟨Z2,s5⟩;rw[nS.l0] at Z2;refine rc T 10 (cd J Z2 (λZ2=>?_) (λZ2=>?_))
 ·refine rc T 4 (fz J (rg [14,16] [0,0,0,0,0] mix (bO bN) (λhg pf=>ha T 16 [0] sz hg pf J (av 1 sz hg pf J (aw T J J J J (aK (j:=3) J J)) (ha T 14 [2] sz hg pf J (av 3 sz hg pf J (aw T J J J J (aK (j:=1) J J)) (ha T 12 [4] sz hg pf J (av 5 sz hg pf J (aw T J J J J (aK (j:=1) J J)) (ha T 10 [6] sz hg pf J (av 7 sz hg pf J (aw T J J J J (aK (j:=1) J J)) (ha T 7 [8,9] sz hg pf J (ao 10 (kh [] J aeA Z2 (Df.c ·) (λv7 Z2=>an sz ?_))))))))))))));obtain⟨c5,Z2⟩:=az Z2;obtain⟨q6,o6,e6⟩:=tf.addr c5.1 c5.2;refine av 11 sz hg pf J (cC T J J J J J e6 c5.1 c5.2) (av 12 sz hg pf J (aw T J J J J (g_ (k:=(Fl.int .u8)) (rO tf 0) e6 c5 0 J)) (ao 13 (cY (k:=(Fl.int .u8)) T [(rd m.C v7)] J J J J J J J J J (λa7 H7 s7=>an (so [0,0,0,0,0]) (ao 14 ?_)))));obtain⟨c6,Z2⟩:=az Z2;refine dW (k:=(Fl.int .u8)) (xs:=x4) T (g:=4) J J J J J J J J J J s5 (oO s7 5) c6 J (λa8 n8 H8 s8=>an sl (hb T 15 sl hg pf J (ao 16 (sf T 3 J (an sl (ae (rx T 8 (ar (_,_,_,_,_) [0,0,0,0,0] ⟨Z2,s8⟩ J J))))))))
 refine rc T 7 (lm T 3 J (sg T 2 J (ro T 3 ?_)))
 cases Z2;exact pb T J (.cQ (j:=2) [(ii v1.1),(ii v1.2),(ll a5 x4 n5)] J J J J J J J .nil) [4,0] ⟨(_,_),a5,n5,H5,s5,J,J⟩ J J
def iN.l1:Nat->(List Int)->Int->Int->Option Int
 |0,_,_,_=>none
 |uT+1,ag,x4,bx=>(if(aa (x4+bx))<(List.length ag:Int) then(if(0<=(aa (x4+bx))/\(aa (x4+bx))<(List.length ag:Int)) then(if(0<=x4/\x4<(List.length ag:Int)) then(some ((rd ag (aa (x4+bx)))==(rd ag x4))) else none) else none) else(some false)).bind λbc=>if bc=true then(iN.l1 uT ag x4 (aa (bx+1))) else(some bx)
def iN.l0:Nat->(List Int)->List Int->Int->Option (List Int)
 |0,_,_,_=>none
 |k5+1,ag,x3,x4=>if x4<(List.length ag:Int) then(((iN.l1 fuel ag x4 1).bind λx9=>if(0<=x4/\x4<(List.length ag:Int)) then(if(List.length x3+2<=1099511627776) then(some ((x3++[(bU (aa (x9-1))),(rd ag x4)]),(aa (x4+x9)))) else none) else none).bind λ(x6,x7)=>iN.l0 k5 ag x6 x7) else(some x3)
def iN.f (ag:(List Int)):Option (List Int):=iN.l0 fuel ag [2] 0
def iN.R (r:(List Int)):bg:=λu G=> ∃a0 n0 H0,aj (Fl.int .u8) 5 r a0 n0 H0/\u=(ll a0 r n0)/\G=[H0]
theorem iN.c (H:iN.f ag=some r) (AM:aP (Fl.int .u8) ag Ma F) (aaR:List.length ag<=OV):
 QR 104 [(ll Ma ag OV)] [] [] F (iN.R r):=by
 unfold iN.f at H;refine aD Tryz.func104 J J (λW=>rc T 7 (aX (cY (k:=(Fl.int .u8)) T [2] J J J J J J J J J (λa1 H1 s1=>ro T 10 (lq [0] [0] (λ(⟨k5,x3,x4,a3,n3,H3⟩:Nat×List Int×Int×Option Addr×Nat×Hp)=>(iN.l0 k5 ag x3 x4=some r/\aj (Fl.int .u8) 5 x3 a3 n3 H3,[(3,(ll a3 x3 n3)),(4,(ii x4))],[H3])) J J (fuel,[2],0,a1,(List.length [2]),H1) [0,0] ⟨H,s1⟩ J J ?_)))));rintro k5 ⟨x3,x4,a3,n3,H3⟩ ⟨Z1,s3⟩;rw[iN.l0] at Z1;refine rc T 9 (cd J Z1 (λZ1=>?_) (λZ1=>?_))
 ·refine rc T 2 (mn Z1 [0] [0] (λz8 (⟨x6,x7,a4,n4,H4⟩:List Int×Int×Option Addr×Nat×Hp)=>((x6,x7)=z8/\aj (Fl.int .u8) 5 x6 a4 n4 H4,[(3,(ll a4 x6 n4)),(4,(ii x7))],[H4])) J J (λz8 Z3 _=>?_) ?_)
  ·refine rc T 6 (mq Z3 [0,3,4] [0,0] (λoo (x9:Int)=>(x9=oo,[(5,(ii x9))],[])) J J (λoo Z4 _=>?_) ?_)
   ·refine rc T 1 (lq [0,3,4] [0,0] (λ(⟨uT,bx⟩:Nat×Int)=>(iN.l1 uT ag x4 bx=some oo,[(5,(ii bx))],[])) J J (fuel,1) [0,0] Z4 J J ?_);rintro uT bx Z5;replace Z5:iN.l1 (uT+1) ag x4 bx=some oo:=Z5;rw[iN.l1] at Z5;refine rc T 1 (mq Z5 [0,3,4,5] [0,0] (λIV (bc:Bool)=>(bc=IV,[(29,(bb bc))],[])) J J (λIV Z6 _=>?_) ?_)
    ·refine dx mix ay ?_
     iterate 7 refine au T J ?_
     refine qd 17 J Z6 (λZ6=>?_) (λZ6=>?_)
     ·iterate 4 refine au T J ?_
      obtain⟨c8,Z6⟩:=az Z6;obtain⟨q5,o5,e5⟩:=AM.addr c8.1 c8.2;refine aO J J J (cC T J J J J J e5 c8.1 c8.2) (aO J J J (aw T J J J J (g_ (k:=(Fl.int .u8)) (rO AM 0) e5 c8 0 J)) (au T J (au T J ?_)));obtain⟨c9,Z6⟩:=az Z6;refine aO J J J (cC T J J J J J e5 c9.1 c9.2) (aO J J J (aw T J J J J (g_ (k:=(Fl.int .u8)) (rO AM 0) e5 c9 0 J)) (au T J (au T J (dh (rx T 1 (am _ [0,0] (oi Z6) J J))))))
     iterate 12 refine au T J ?_
     refine dh (rx T 1 (am _ [0,0] (oi Z6) J J))
    rintro _ bc rfl Z5;refine cb J Z5 (λZ5=>?_) (λZ5=>?_)
    ·refine rc T 10 (ar _ [0,0] Z5 J J)
    refine rc T 5 (am _ [0,0] (oi Z5) J J)
   rintro _ x9 rfl Z3;refine rc T 8 ?_;obtain⟨eJ,Z3⟩:=az Z3;obtain⟨q6,o6,e6⟩:=AM.addr eJ.1 eJ.2;refine ix T J e6 eJ (le T 0 (rO AM 0) e6 eJ J J (aX (cY (k:=(Fl.int .u8)) T [(bU (aa (x9-1))),(rd ag x4)] J J J J J J J J J (λa7 H7 s7=>?_))));obtain⟨ir,Z3⟩:=az Z3;refine aX (dW (k:=(Fl.int .u8)) (xs:=x3) T (g:=1) J J J J J J J J J J s3 (oO s7 2) ir J (λa8 n8 H8 s8=>ro T 11 (am (_,_,_,_,_) [0,0] ⟨oi Z3,s8⟩ J J)))
  rintro _ ⟨x6,x7,a4,n4,H4⟩ ⟨rfl,s4⟩ Z1;refine rx T 1 (ar (_,_,_,_,_) [0,0] ⟨Z1,s4⟩ J J)
 refine rc T 12 ?_
 cases Z1;exact p1 T J [1,0] ⟨a3,n3,H3,s3,J,J⟩ J
def xS.f (t:aL):Option (Int×(List Int)):=(iN.f t.C).bind λv1=>if((List.length v1:Int)==3)=true then(if(0<=(0:Int)/\(0:Int)<(List.length t.C:Int)) then(some (0,[0,(rd t.C 0)])) else none) else(if(List.length v1:Int)<(aa (1+(List.length t.C:Int))) then(some (2,v1)) else(if(List.length [1]+List.length t.C<=1099511627776) then(some (1,([1]++t.C))) else none))
def xS.R (r:(Int×(List Int))):bg:=λu G=> ∃a0 n0 H0,aj (Fl.int .u8) 5 r.2 a0 n0 H0/\u=(.tuple #[(ii r.1),(ll a0 r.2 n0)])/\G=[H0]
theorem xS.c (H:xS.f t=some r) (dR:aP (Fl.int .u8) t.C iG F) (fw:List.length t.C<=iM):
 QR 75 [(.agg #[(ii t.W),(ii t.H),(ll iG t.C iM)])] [] [] F (xS.R r):=by
 unfold xS.f at H;refine aD Tryz.func75 J J (λW=>rc T 2 (nc T J (λb1=>ro T 7 (lf T 1 J (kr iN.R [] [] J acK H (iN.c · (rO dR 0) fw) (λv1 H=>?_))))));rintro _ _ ⟨a2,n2,H2,s2,rfl,rfl⟩;refine fz J (ro T 11 (cb J H (λH=>?_) (λH=>?_)))
 ·refine rc T 1 (ke [1] [0,0] J J (fz J (rg [] [0,0] mix (bO bN) (λhg pf=>ha T 6 [0] sz hg pf J (av 1 sz hg pf J (aw T J J J J (aK (j:=1) J J)) ?_)))));obtain⟨c3,H⟩:=az H;obtain⟨q3,o3,e3⟩:=dR.addr c3.1 c3.2;refine av 2 sz hg pf J (cC T J J J J J e3 c3.1 c3.2) (av 3 sz hg pf J (aw T J J J J (g_ (k:=(Fl.int .u8)) (rO dR 0) e3 c3 0 J)) (ha T 2 [5] sz hg pf J (ao 4 (cY (k:=(Fl.int .u8)) T [0,(rd t.C 0)] J J J J J J J J J (λa4 H4 s4=>an (so [0,0]) (ha T 0 [6] (so [0,0]) hg pf J (ae (rx T 3 ?_))))))))
  cases H;exact p1 T J [2,0] ⟨a4,(List.length [0,(rd t.C 0)]),H4,s4,J,J⟩ J
 refine rc T 8 (lf T 1 J (ro T 5 (cd J H (λH=>?_) (λH=>?_))))
 ·refine rc T 9 ?_
  cases H;exact p1 T J [2,0] ⟨a2,n2,H2,s2,J,J⟩ J
 refine rc T 4 (aX (cY (k:=(Fl.int .u8)) T [1] J J J J J J J J J (λa5 H5 s5=>ro T 1 (lf T 1 J ?_))));obtain⟨c5,H⟩:=az H;refine aX (dW (k:=(Fl.int .u8)) (xs:=[1]) T (g:=3) J J J J J J J J J J s5 (rO dR 0) c5 J (λa6 n6 H6 s6=>ro T 3 (ke [2,3] [0,2] J J (rx T 2 ?_))))
 cases H;exact p1 T J [1,0] ⟨a6,n6,H6,s6,J,J⟩ J
def lD.l0:Nat->aL->List Int->Int->Option (List Int)
 |0,_,_,_=>none
 |k5+1,m,x3,x4=>(zG.f m.W m.H).bind λv6=>if x4<v6 then((nS.f m x4).bind λv7=>(xS.f v7).bind λv8=>if(List.length x3+List.length v8.2<=1099511627776) then(lD.l0 k5 m (x3++v8.2) (aa (x4+1))) else none) else(some x3)
def lD.f (m:aL):Option (List Int):=lD.l0 fuel m [(bU m.W),(bU (Int.fdiv m.W (2^8))),(bU m.H),(bU (Int.fdiv m.H (2^8)))] 0
def lD.R (r:(List Int)):bg:=λu G=> ∃a0 n0 H0,aj (Fl.int .u8) 5 r a0 n0 H0/\u=(ll a0 r n0)/\G=[H0]
theorem lD.c (H:lD.f m=some r) (tf:aP (Fl.int .u8) m.C pa F) (vx:List.length m.C<=oK):
 QR 45 [(.agg #[(ii m.W),(ii m.H),(ll pa m.C oK)])] [] [] F (lD.R r):=by
 unfold lD.f at H;refine aD Tryz.func45 J J (λW=>rc T 2 (nc T J (λb1=>ro T 6 (lf T 1 J (ro T 2 (lf T 1 J (ro T 3 (lf T 1 J (ro T 2 (lf T 1 J (ro T 2 (aX (cY (k:=(Fl.int .u8)) T [(bU m.W),(bU (Int.fdiv m.W (2^8))),(bU m.H),(bU (Int.fdiv m.H (2^8)))] J J J J J J J J J (λa2 H2 s2=>ro T 10 (lq [1] [0,0] (λ(⟨k5,x3,x4,a4,n4,H4⟩:Nat×List Int×Int×Option Addr×Nat×Hp)=>(lD.l0 k5 m x3 x4=some r/\aj (Fl.int .u8) 5 x3 a4 n4 H4,[(3,(ll a4 x3 n4)),(4,(ii x4))],[H4])) J J (fuel,[(bU m.W),(bU (Int.fdiv m.W (2^8))),(bU m.H),(bU (Int.fdiv m.H (2^8)))],0,a2,(List.length [(bU m.W),(bU (Int.fdiv m.W (2^8))),(bU m.H),(bU (Int.fdiv m.H (2^8)))]),H2) [0,0,0] ⟨H,s2⟩ J J ?_)))))))))))))));rintro k5 ⟨x3,x4,a4,n4,H4⟩ ⟨Z1,s4⟩;rw[lD.l0] at Z1;refine rc T 5 (lf T 1 J (ro T 1 (lf T 1 J (k [] J TO Z1 (zG.c ·) (λv6 Z1=>ro T 3 (cd J Z1 (λZ1=>?_) (λZ1=>?_)))))))
 ·refine rc T 6 (lm T 1 J (ro T 1 (kr nS.R [] [] J aeC Z1 (nS.c · (rO tf 0) vx) (λv7 Z1=>?_))));rintro _ _ ⟨a5,n5,H5,s5,rfl,rfl⟩;refine fz J (kr xS.R [] [] J aeB Z1 (xS.c · (oO s5 3) s5.bT) (λv8 Z1=>?_));rintro _ _ ⟨a6,n6,H6,s6,rfl,rfl⟩;refine fz J (ro T 10 ?_);obtain⟨c6,Z1⟩:=az Z1;refine aX (dW (k:=(Fl.int .u8)) (xs:=x3) T (g:=2) J J J J J J J J J J s4 (oO s6 4) c6 J (λa7 n7 H7 s7=>ro T 10 (ar (_,_,_,_,_) [0,0,0] ⟨Z1,s7⟩ J J)))
 refine rc T 12 ?_
 cases Z1;exact p1 T J [2,0] ⟨a4,n4,H4,s4,J,J⟩ J
def pH.l0:Nat->(List Int)->(List Int)->Int->Option Bool
 |0,_,_,_=>none
 |k3+1,a,b,x2=>if x2<(List.length a:Int) then(if(0<=x2/\x2<(List.length a:Int)) then(if(0<=x2/\x2<(List.length b:Int)) then(if((rd a x2)!=(rd b x2))=true then(some false) else(pH.l0 k3 a b (aa (x2+1)))) else none) else none) else(some true)
def pH.f (a:(List Int)) (b:(List Int)):Option Bool:=if((List.length a:Int)!=(List.length b:Int))=true then(some false) else(pH.l0 fuel a b 0)
theorem pH.c (H:pH.f a b=some r) (pq:aP (Fl.int .i64) a sK F) (Cf:List.length a<=tv) (fh:aP (Fl.int .i64) b gY F) (fJ:List.length b<=gP):
 QU 69 [(ll sK a tv),(ll gY b gP)] [] F (bb r):=by
 unfold pH.f at H;refine aD Tryz.func69 J J (λW=>rc T 15 (cb J H (λH=>?_) (λH=>?_)))
 ·refine rc T 7 ?_
  cases H;exact p0 T J [0] J
 refine rc T 9 (lq [0,1] [0] (λ(⟨k3,x2⟩:Nat×Int)=>(pH.l0 k3 a b x2=some r,[(5,(ii x2))],[])) J J (fuel,0) [0] H J J ?_);rintro k3 x2 Z2;replace Z2:pH.l0 (k3+1) a b x2=some r:=Z2;rw[pH.l0] at Z2;refine rc T 9 (cd J Z2 (λZ2=>?_) (λZ2=>?_))
 ·refine rc T 5 (dx mix ay (au T J (au T J ?_)));obtain⟨c4,Z2⟩:=az Z2;obtain⟨q1,o1,e1⟩:=pq.addr c4.1 c4.2;refine aO J J J (cC T J J J J J e1 c4.1 c4.2) (aO J J J (aw T J J J J (g_ (k:=(Fl.int .i64)) (rO pq 0) e1 c4 0 J)) (au T J (au T J ?_)));obtain⟨c5,Z2⟩:=az Z2;obtain⟨q2,o2,e2⟩:=fh.addr c5.1 c5.2;refine aO J J J (cC T J J J J J e2 c5.1 c5.2) (aO J J J (aw T J J J J (g_ (k:=(Fl.int .i64)) (rO fh 0) e2 c5 0 J)) (au T J (dh (rx T 1 (cb J Z2 (λZ2=>?_) (λZ2=>?_))))))
  ·refine rc T 11 ?_
   cases Z2;exact p0 T J [0] J
  refine rc T 9 (ar _ [0] Z2 J J)
 refine rc T 11 ?_
 cases Z2;exact p0 T J [0] J
def E0.f (a:(List Int)) (b:(List Int)):Option Bool:=some (Bz a b)
theorem E0.c (H:E0.f a b=some r) (pq:aP (Fl.int .u8) a sK F) (Cf:List.length a<=tv) (fh:aP (Fl.int .u8) b gY F) (fJ:List.length b<=gP):
 QU 65 [(ll sK a tv),(ll gY b gP)] [] F (bb r):=by
 unfold E0.f at H;refine aD Tryz.func65 J J (λW=>rc T 8 (br J (JP T J J J J J (rO pq 0)) (ro T 1 (br J (JP T J J J J J (rO fh 0)) (br J (Sv J J J) (ro T 4 ?_))))))
 cases H;exact p0 T J [0] J
def Dh.f (a:aL) (b:aL):Option Bool:=(if(a.W==b.W)=true then(if(a.H==b.H)=true then((E0.f a.C b.C).bind λv3=>some v3) else(some false)) else(some false)).bind λx1=>some x1
theorem Dh.c (H:Dh.f a b=some r) (acA:aP (Fl.int .u8) a.C YH F) (aaL:List.length a.C<=agL) (acD:aP (Fl.int .u8) b.C YI F) (aaO:List.length b.C<=agM):
 QU 34 [(.agg #[(ii a.W),(ii a.H),(ll YH a.C agL)]),(.agg #[(ii b.W),(ii b.H),(ll YI b.C agM)])] [] F (bb r):=by
 unfold Dh.f at H;refine aD Tryz.func34 J J (λW=>rc T 2 (nc T J (λb1=>nc T J (λb2=>ro T 3 (mq H [] [0] (λz2 (x1:Bool)=>(x1=z2,[(4,(bb x1))],[])) J J (λz2 Z1 _=>?_) ?_)))))
 ·refine rc T 2 (lf T 1 J (ro T 1 (lf T 2 J (ro T 2 (ab 10 J Z1 (λZ1=>?_) (λZ1=>?_))))))
  ·refine ro T 1 (lf T 1 J (ro T 1 (lf T 2 J (ro T 3 (ab 17 J Z1 (λZ1=>?_) (λZ1=>?_))))))
   ·refine ro T 1 (lf T 1 J (ro T 1 (lf T 2 J (k [] J aex Z1 (E0.c · (rO acA 0) aaL (rO acD 0) aaO) (λv3 Z1=>ro T 4 (am _ [0] (oi Z1) J J))))))
   refine ro T 9 (am _ [0] (oi Z1) J J)
  refine ro T 16 (am _ [0] (oi Z1) J J)
 rintro _ x1 rfl H;refine rc T 1 ?_
 cases H;exact p0 T J [0] J
end
noncomputable section
def oP.l0:Nat->(List eD)->(List eD)->Int->Option Bool
 |0,_,_,_=>none
 |k3+1,a,b,x2=>if x2<(List.length a:Int) then(if(0<=x2/\x2<(List.length a:Int)) then(if(0<=x2/\x2<(List.length b:Int)) then(if(!(((rd a x2).Id==(rd b x2).Id)&&(((rd a x2).To==(rd b x2).To)&&true)))=true then(some false) else(oP.l0 k3 a b (aa (x2+1)))) else none) else none) else(some true)
def oP.f (a:(List eD)) (b:(List eD)):Option Bool:=if((List.length a:Int)!=(List.length b:Int))=true then(some false) else(oP.l0 fuel a b 0)
theorem oP.c (H:oP.f a b=some r) (pq:aP iJ a sK F) (Cf:List.length a<=tv) (fh:aP iJ b gY F) (fJ:List.length b<=gP):
 QU 46 [(ll sK a tv),(ll gY b gP)] [] F (bb r):=by
 unfold oP.f at H;refine aD Tryz.func46 J J (λW=>rc T 15 (cb J H (λH=>?_) (λH=>?_)))
 ·refine rc T 7 ?_
  cases H;exact p0 T J [0] J
 refine rc T 9 (lq [0,1] [0] (λ(⟨k3,x2⟩:Nat×Int)=>(oP.l0 k3 a b x2=some r,[(5,(ii x2))],[])) J J (fuel,0) [0] H J J ?_);rintro k3 x2 Z2;replace Z2:oP.l0 (k3+1) a b x2=some r:=Z2;rw[oP.l0] at Z2;refine rc T 9 (cd J Z2 (λZ2=>?_) (λZ2=>?_))
 ·refine rc T 5 (dx mix ay (au T J (au T J ?_)));obtain⟨c4,Z2⟩:=az Z2;obtain⟨q1,o1,e1⟩:=pq.addr c4.1 c4.2;refine aO J J J (cC T J J J J J e1 c4.1 c4.2) (aO J J J (fC T (cs:=[(ii (rd a x2).Id),(ii (rd a x2).To)]) J J J J J J (iv (k:=iJ) (rO pq 0) e1 c4 J)) (au T J (au T J ?_)));obtain⟨c5,Z2⟩:=az Z2;obtain⟨q2,o2,e2⟩:=fh.addr c5.1 c5.2;refine aO J J J (cC T J J J J J e2 c5.1 c5.2) (aO J J J (fC T (cs:=[(ii (rd b x2).Id),(ii (rd b x2).To)]) J J J J J J (iv (k:=iJ) (rO fh 0) e2 c5 J)) (aO J J J (M_ T (((rd a x2).Id==(rd b x2).Id)&&(((rd a x2).To==(rd b x2).To)&&true)) J J J J ajh ay J) (dh (rx T 1 (cb J Z2 (λZ2=>?_) (λZ2=>?_))))))
  ·refine rc T 11 ?_
   cases Z2;exact p0 T J [0] J
  refine rc T 9 (ar _ [0] Z2 J J)
 refine rc T 11 ?_
 cases Z2;exact p0 T J [0] J
def qm.l0:Nat->(List Int)->(List Int)->Int->Option Bool
 |0,_,_,_=>none
 |k3+1,a,b,x2=>if x2<(List.length a:Int) then(if(0<=x2/\x2<(List.length a:Int)) then(if(0<=x2/\x2<(List.length b:Int)) then(if((rd a x2)!=(rd b x2))=true then(some false) else(qm.l0 k3 a b (aa (x2+1)))) else none) else none) else(some true)
def qm.f (a:(List Int)) (b:(List Int)):Option Bool:=if((List.length a:Int)!=(List.length b:Int))=true then(some false) else(qm.l0 fuel a b 0)
theorem qm.c (H:qm.f a b=some r) (pq:aP (Fl.int .u32) a sK F) (Cf:List.length a<=tv) (fh:aP (Fl.int .u32) b gY F) (fJ:List.length b<=gP):
 QU 33 [(ll sK a tv),(ll gY b gP)] [] F (bb r):=by
 unfold qm.f at H;refine aD Tryz.func33 J J (λW=>rc T 15 (cb J H (λH=>?_) (λH=>?_)))
 ·refine rc T 7 ?_
  cases H;exact p0 T J [0] J
 refine rc T 9 (lq [0,1] [0] (λ(⟨k3,x2⟩:Nat×Int)=>(qm.l0 k3 a b x2=some r,[(5,(ii x2))],[])) J J (fuel,0) [0] H J J ?_);rintro k3 x2 Z2;replace Z2:qm.l0 (k3+1) a b x2=some r:=Z2;rw[qm.l0] at Z2;refine rc T 9 (cd J Z2 (λZ2=>?_) (λZ2=>?_))
 ·refine rc T 5 (dx mix ay (au T J (au T J ?_)));obtain⟨c4,Z2⟩:=az Z2;obtain⟨q1,o1,e1⟩:=pq.addr c4.1 c4.2;refine aO J J J (cC T J J J J J e1 c4.1 c4.2) (aO J J J (aw T J J J J (g_ (k:=(Fl.int .u32)) (rO pq 0) e1 c4 0 J)) (au T J (au T J ?_)));obtain⟨c5,Z2⟩:=az Z2;obtain⟨q2,o2,e2⟩:=fh.addr c5.1 c5.2;refine aO J J J (cC T J J J J J e2 c5.1 c5.2) (aO J J J (aw T J J J J (g_ (k:=(Fl.int .u32)) (rO fh 0) e2 c5 0 J)) (au T J (dh (rx T 1 (cb J Z2 (λZ2=>?_) (λZ2=>?_))))))
  ·refine rc T 11 ?_
   cases Z2;exact p0 T J [0] J
  refine rc T 9 (ar _ [0] Z2 J J)
 refine rc T 11 ?_
 cases Z2;exact p0 T J [0] J
end
noncomputable section
def xU.f (x:tj) (n:Int):Option cR:=((eN.f x.B 1 6).bind λv6=>(eN.f x.A 0 5).bind λv7=>(eN.f x.A 0 9).bind λv8=>some (v6,(aa (n+v7)),v8,([]:List Int))).bind λ(x1,x2,x3,x4)=>if(x1==1)=true then(some (cR.mk x1 0 0 [2,0,1,0,1,(bU x.A),(bU x.B)])) else(if(x1==2)=true then((eN.f x.A 0 (aa (n-1))).bind λdD=>(eN.f x.A 0 1).bind λeG=>some (cR.mk x1 dD (aa (eG*255)) x4)) else(if(x1==5)=true then(some (cR.mk x1 x2 0 x4)) else(some (cR.mk x1 x2 x3 x4))))
def xU.R (r:cR):bg:=λu G=> ∃a0 n0 H0,aj (Fl.int .u8) 5 r.Map a0 n0 H0/\u=(.agg #[(ii r.Kind),(ii r.A),(ii r.B),(ll a0 r.Map n0)])/\G=[H0]
theorem xU.c (H:xU.f x n=some r):
 QR 50 [(.agg #[(ii x.Kind),(ii x.A),(ii x.B)]),(ii n)] [] [] F (xU.R r):=by
 unfold xU.f at H;refine aD Tryz.func50 J J (λW=>rc T 2 (nc T J (λb1=>nc T J (λb2=>ro T 2 (mq H [1,2,4] [0,0,0] (λz5 (⟨x1,x2,x3,x4,b3,a4,n4,H4⟩:Int×Int×Int×List Int×Nat×Option Addr×Nat×Hp)=>((x1,x2,x3,x4)=z5/\aj (Fl.int .u8) 5 x4 a4 n4 H4,[(5,(pp b3))],[(cl b3 55 [(ii x1),(ii x2),(ii x3),(ll a4 x4 n4)]),H4])) J J (λz5 Z1 _=>?_) ?_)))))
 ·refine ks [1,2,4] J (fz J (rz [] mix (bO bN) (λhg pf=>ha T 13 [0] sz hg pf J (av 1 sz hg pf J (aw T J J J J (aK (j:=1) J J)) (ha T 10 [3,4] sz hg pf J (av 5 sz hg pf J (aw T J J J J (aK (j:=1) J J)) (ha T 8 [8] sz hg pf J (av 9 sz hg pf J (aw T J J J J (aK (j:=1) J J)) (gK 2 12 ?_ ?_)))))))))
  ·refine kh [] J kF Z1 (eN.c ·) (λv6 Z1=>an sz (gK 6 12 ?_ ?_))
   ·refine kh [] J kF Z1 (eN.c ·) (λv7 Z1=>an sz (ha T 4 [7] sz hg pf J (gK 10 12 ?_ ?_)))
    ·refine kh [] J kF Z1 (eN.c ·) (λv8 Z1=>an sz (ha T 2 [11] sz hg pf J (ao 12 (nw T J (λb5=>an (so [0,0,0]) (ao 13 (sf T 3 J (an (so [0,0,0]) (ae (rx T 1 (bq (am (_,_,_,_,_,_,_,_) [0,0,0,0,0] ⟨oi Z1,aj.nil⟩ J J))))))))))))
    refine nw T J (λb6=>an (so [0,0,0]) (ao 10 (kh [] J kF Z1 (eN.c ·) (λv9 Z1=>an (so [0,0,0]) (ha T 1 [11] (so [0,0,0]) hg pf J (ao 13 (sf T 3 J (an (so [0,0,0]) (ae (rx T 1 (bq (am (_,_,_,_,_,_,_,_) [0,0,0,0,0] ⟨oi Z1,aj.nil⟩ J J))))))))))))
   refine nw T J (λb7=>an (so [0,0,0]) (ao 6 (kh [] J kF Z1 (eN.c ·) (λv10 Z1=>an (so [0,0,0]) (ha T 3 [7] (so [0,0,0]) hg pf J (ao 10 (kh [] J kF Z1 (eN.c ·) (λv11 Z1=>an (so [0,0,0]) (ha T 1 [11] (so [0,0,0]) hg pf J (ao 13 (sf T 3 J (an (so [0,0,0]) (ae (rx T 1 (bq (am (_,_,_,_,_,_,_,_) [0,0,0,0,0] ⟨oi Z1,aj.nil⟩ J J))))))))))))))))
  refine nw T J (λb8=>an (so [0,0,0]) (ao 2 (kh [] J kF Z1 (eN.c ·) (λv12 Z1=>an (so [0,0,0]) (ao 6 (kh [] J kF Z1 (eN.c ·) (λlG Z1=>an (so [0,0,0]) (ha T 3 [7] (so [0,0,0]) hg pf J (ao 10 (kh [] J kF Z1 (eN.c ·) (λek Z1=>an (so [0,0,0]) (ha T 1 [11] (so [0,0,0]) hg pf J (ao 13 (sf T 3 J (an (so [0,0,0]) (ae (rx T 1 (bq (am (_,_,_,_,_,_,_,_) [0,0,0,0,0] ⟨oi Z1,aj.nil⟩ J J)))))))))))))))))))
 rintro _ ⟨x1,x2,x3,x4,b3,a4,n4,H4⟩ ⟨rfl,s4⟩ H;refine rc T 4 (lf T 3 J (ro T 9 (cb J H (λH=>?_) (λH=>?_))))
 ·refine fz J (rg [12] [0,0,0,1] mix (bO bN) (λhg pf=>ha T 12 [0] (so [0,0,0,1]) hg pf J (av 1 (so [0,0,0,1]) hg pf J (aw T J J J J (aK (j:=1) J J)) (ha T 9 [2,3] (so [0,0,0,1]) hg pf J (av 4 (so [0,0,0,1]) hg pf J (aw T J J J J (aK (j:=1) J J)) (ha T 6 [5,7] (so [0,0,0,1]) hg pf J (gK 6 8 ?_ ?_)))))))
  ·refine cY (k:=(Fl.int .u8)) T [2,0,1,0,1,(bU x.A),(bU x.B)] J J J J J J J J J (λa9 H9 s9=>an (so [0,0,0,1]) (ao 8 (sf T 3 J (an (so [0,0,0,1]) (ha T 3 [9] (so [0,0,0,1]) hg pf J (ao 10 (sf T 3 J (an (so [0,0,0,1]) (ha T 1 [11] (so [0,0,0,1]) hg pf J (ao 12 (sf T 3 J (an sl (ae (rx T 4 (lm T 3 J (sg T 2 J (ro T 3 ?_)))))))))))))))))
   cases H;exact pb T J (.cQ (j:=2) [(ii x1),(ii 0),(ii 0),(ll a9 [2,0,1,0,1,(bU x.A),(bU x.B)] (List.length [2,0,1,0,1,(bU x.A),(bU x.B)]))] J J J J J J J .nil) [5,0] ⟨(_,_),a9,(List.length [2,0,1,0,1,(bU x.A),(bU x.B)]),H9,s9,J,J⟩ J J
  refine sf T 3 J (an (so [0,0,0,1]) (ha T 4 [9] (so [0,0,0,1]) hg pf J (gK 6 10 ?_ ?_)))
  ·refine cY (k:=(Fl.int .u8)) T [2,0,1,0,1,(bU x.A),(bU x.B)] J J J J J J J J J (λcB b_ bP=>an (so [0,0,0,1]) (ao 10 (sf T 3 J (an (so [0,0,0,1]) (ha T 1 [11] (so [0,0,0,1]) hg pf J (ao 12 (sf T 3 J (an sl (ae (rx T 4 (lm T 3 J (sg T 2 J (ro T 3 ?_)))))))))))))
   cases H;exact pb T J (.cQ (j:=2) [(ii x1),(ii 0),(ii 0),(ll cB [2,0,1,0,1,(bU x.A),(bU x.B)] (List.length [2,0,1,0,1,(bU x.A),(bU x.B)]))] J J J J J J J .nil) [5,0] ⟨(_,_),cB,(List.length [2,0,1,0,1,(bU x.A),(bU x.B)]),b_,bP,J,J⟩ J J
  refine sf T 3 J (an (so [0,0,0,1]) (ao 6 (cY (k:=(Fl.int .u8)) T [2,0,1,0,1,(bU x.A),(bU x.B)] J J J J J J J J J (λdj cz c_=>an (so [0,0,0,1]) (ha T 1 [11] (so [0,0,0,1]) hg pf J (ao 12 (sf T 3 J (an sl (ae (rx T 4 (lm T 3 J (sg T 2 J (ro T 3 ?_)))))))))))))
  cases H;exact pb T J (.cQ (j:=2) [(ii x1),(ii 0),(ii 0),(ll dj [2,0,1,0,1,(bU x.A),(bU x.B)] (List.length [2,0,1,0,1,(bU x.A),(bU x.B)]))] J J J J J J J .nil) [5,0] ⟨(_,_),dj,(List.length [2,0,1,0,1,(bU x.A),(bU x.B)]),cz,c_,J,J⟩ J J
 refine rc T 6 (cb J H (λH=>?_) (λH=>?_))
 ·refine rc T 3 (lf T 1 J (ro T 2 (k [] J kF H (eN.c ·) (λdD H=>ro T 1 (sg T 3 J (ro T 4 (lf T 1 J (k [] J kF H (eN.c ·) (λeG H=>ro T 2 (sg T 3 J (ro T 5 (lm T 3 J (sg T 2 J (ro T 1 (ke [4] [0,1,2] J J (rx T 1 (rc T 1 ?_)))))))))))))))))
  cases H;exact pb T J (.cQ (j:=1) [(ii x1),(ii dD),(ii (aa (eG*255))),(ll a4 x4 n4)] J J J J J J J .nil) [2,0] ⟨(_,_),a4,n4,H4,s4,J,J⟩ J J
 refine rc T 6 (cb J H (λH=>?_) (λH=>?_))
 ·refine rc T 2 (sg T 3 J (ro T 5 (lm T 3 J (sg T 2 J (ro T 3 ?_)))))
  cases H;exact pb T J (.cQ (j:=2) [(ii x1),(ii x2),(ii 0),(ll a4 x4 n4)] J J J J J J J .nil) [4,0] ⟨(_,_),a4,n4,H4,s4,J,J⟩ J J
 refine rc T 5 (lm T 3 J (sg T 2 J (ro T 3 ?_)))
 cases H;exact pb T J (.cQ (j:=2) [(ii x1),(ii x2),(ii x3),(ll a4 x4 n4)] J J J J J J J .nil) [4,0] ⟨(_,_),a4,n4,H4,s4,J,J⟩ J J
def nT.l0:Nat->Int->Int->(List Int)->(List tj)->Int->Int->List Int->List cR->Int->Int->Option (List cR)
 |0,_,_,_,_,_,_,_,_,_,_=>none
 |lP+1,w,h,p2,l,x9,aN,bj,bx,aU,bc=>if((decide (bc<(List.length l:Int)))&&(decide (bc<60)))=true then(if(0<=bc/\bc<(List.length l:Int)) then(((eN.f ((rd l bc).A) 0 (aa (aU-1))).bind λv21=>(eN.f ((rd l bc).B) 0 (aa (aU-1))).bind λv22=>some ((0:Int),v21,v22,([]:List Int))).bind λ(dg,cD,cy,dE)=>((eN.f ((rd l bc).Kind) 0 15).bind λv35=>(if(v35==0)=true then(some (v35==0)) else(if(v35==1)=true then(some (v35==1)) else(some (v35==2)))).bind λwU=>if wU=true then(some (x9,aN,bj,aU,(3:Int),cD,cy,dE)) else(if(v35==3)=true then((eN.f ((rd l bc).A) 0 9).bind λoY=>some (x9,aN,bj,aU,(4:Int),oY,cy,dE)) else(if(v35==4)=true then((eN.f ((rd l bc).A) 0 9).bind λv39=>some (x9,aN,bj,aU,(5:Int),v39,(0:Int),dE)) else((if(v35==5)=true then(some (v35==5)) else(some (v35==6))).bind λgz=>if gz=true then((wu.f (bU ((rd l bc).B))).bind λLG=>some (x9,aN,bj,aU,(2:Int),cD,(aa LG),dE)) else((if(v35==7)=true then(some (v35==7)) else(some (v35==8))).bind λfG=>if fG=true then(some (x9,aN,bj,aU,(6:Int),cD,cy,dE)) else(if(v35==9)=true then(some (x9,aN,bj,aU,(8:Int),(0:Int),(0:Int),([]:List Int))) else(if(v35==10)=true then(if((Int.tmod (rd l bc).A 4)==0)=true then((lC.f (aa (w+(aa (Int.tdiv (rd l bc).A 4)))) (aa (h+(rd l bc).B)) p2).bind λv45=>(lD.f v45).bind λv46=>some (v45.W,v45.H,v45.C,(List.length v45.C:Int),(1:Int),(0:Int),(0:Int),v46)) else((eN.f ((rd l bc).B) 0 200).bind λqz=>some (x9,aN,bj,aU,(0:Int),(aa (9+qz)),(0:Int),([]:List Int)))) else(if(v35==11)=true then((xU.f (rd l bc) aU).bind λIx=>some (x9,aN,bj,aU,Ix.Kind,Ix.A,Ix.B,Ix.Map)) else(some (x9,aN,bj,aU,(7:Int),(0:Int),(0:Int),([]:List Int))))))))))).bind λ(iA,ml,nn,jl,BM,BN,wT,oh)=>if(List.length bx+1<=1099511627776) then(nT.l0 lP w h p2 l iA ml nn (bx++[(cR.mk BM BN wT oh)]) jl (aa (bc+1))) else none) else none) else(some bx)
def nT.f (w:Int) (h:Int) (p2:(List Int)) (l:(List tj)):Option (List cR):=(lC.f w h p2).bind λv1=>(lD.f v1).bind λv2=>nT.l0 fuel w h p2 l v1.W v1.H v1.C [(cR.mk 1 0 0 v2)] (List.length v1.C:Int) 0
def nT.R (r:(List cR)):bg:=λu G=> ∃a0 n0 H0,fI HP 55 r a0 n0 H0/\u=(ll a0 r n0)/\G=[H0]
theorem nT.c (H:nT.f w h p2 l=some r) (Gr:aP (Fl.int .u8) p2 Mb F) (ME:List.length p2<=OW) (dr:aP Ha l iE F) (gB:List.length l<=iy):
 QR 20 [(ii w),(ii h),(ll Mb p2 OW),(ll iE l iy)] [] [] F (nT.R r):=by
 unfold nT.f at H;refine aD Tryz.func20 J J (λW=>rc T 10 (kr lC.R [] [] J TZ H (lC.c · (rO Gr 0) ME) (λv1 H=>?_)));rintro _ _ ⟨a1,n1,H1,s1,rfl,rfl⟩;refine fz J (nc T J (λb2=>sg T 2 J (ro T 4 (lm T 2 J (kr lD.R [] [] J NR H (lD.c · (oO s1 1) s1.bT) (λv2 H=>?_))))));rintro _ _ ⟨a3,n3,H3,s3,rfl,rfl⟩;refine fz J (ro T 1 (f_ [3] J (aX (B7 (kd:=HP) (E:=55) (q:=3) (c:=[(ii 1),(ii 0),(ii 0),(ll a3 v2 n3)]) T (cR.mk 1 0 0 v2) J J J J J J J J J J ⟨a3,n3,H3,s3,J,J⟩ (λa5 H5 s5=>ro T 6 (lf T 2 J (ro T 11 (lq [0,1,2,3,9] [0] (λ(⟨lP,x9,aN,bj,bx,aU,bc,a8,n8,H8,a9,n9,H9⟩:Nat×Int×Int×List Int×List cR×Int×Int×Option Addr×Nat×Hp×Option Addr×Nat×Hp)=>(nT.l0 lP w h p2 l x9 aN bj bx aU bc=some r/\aj (Fl.int .u8) 5 bj a8 n8 H8/\fI HP 55 bx a9 n9 H9,[(10,(ll a9 bx n9)),(11,(ii aU)),(12,(ii bc))],[(cl b2 30 [(ii x9),(ii aN),(ll a8 bj n8)]),H8,H9])) J J (fuel,v1.W,v1.H,v1.C,[(cR.mk 1 0 0 v2)],(List.length v1.C:Int),0,a1,n1,H1,a5,(List.length [(cR.mk 1 0 0 v2)]),H5) [0,1,0,1] ⟨H,s1,s5⟩ J J ?_))))))));rintro lP ⟨x9,aN,bj,bx,aU,bc,a8,n8,H8,a9,n9,H9⟩ ⟨Z3,s8,s9⟩;rw[nT.l0] at Z3;refine rc T 8 (ga T [5,6,7] 30 [0,1,2,3,9,10,11,12] 33 J J J J J J J (ro T 2 (cb J Z3 (λZ3=>?_) (λZ3=>?_))))
 ·refine rc T 8 ?_;obtain⟨c5,Z3⟩:=az Z3;obtain⟨Ld,K5,p8⟩:=dr.addr c5.1 c5.2;refine ix T J p8 c5 (br J (fC T (cs:=[(ii (rd l bc).Kind),(ii (rd l bc).A),(ii (rd l bc).B)]) J J J J J J (iv (k:=Ha) (rO dr 0) p8 c5 J)) (nc T J (λjU=>sg T 4 J (ro T 2 (mq Z3 [0,1,2,3,9,10,11,12,13] [0,0,0,0,0] (λz20 (⟨dg,cD,cy,dE,kY,dK,n13,dV⟩:Int×Int×Int×List Int×Nat×Option Addr×Nat×Hp)=>((dg,cD,cy,dE)=z20/\aj (Fl.int .u8) 5 dE dK n13 dV,[(14,(pp kY))],[(cl kY 55 [(ii dg),(ii cD),(ii cy),(ll dK dE n13)]),dV])) J J (λz20 Z6 _=>?_) ?_)))))
  ·refine ks [0,1,2,3,9,10,11,12,13] J (fz J (rz [] mix (bO bN) (λhg pf=>ha T 12 [0] sz hg pf J (av 1 sz hg pf J (aw T J J J J (aK (j:=4) J J)) (ha T 8 [2,3,5] sz hg pf J (av 6 sz hg pf J (aw T J J J J (aK (j:=4) J J)) (ha T 5 [7,8] sz hg pf J (gK 4 11 ?_ ?_))))))))
   ·refine kh [] J kF Z6 (eN.c ·) (λv21 Z6=>an sz (gK 9 11 ?_ ?_))
    ·refine kh [] J kF Z6 (eN.c ·) (λv22 Z6=>an sz (ha T 2 [10] sz hg pf J (ao 11 (nw T J (λJr=>an (so [0,0,0,0,0]) (ao 12 (sf T 5 J (an (so [0,0,0,0,0]) (ae (rx T 1 (bq (am (_,_,_,_,_,_,_,_) [0,0,0,0,0,0,0] ⟨oi Z6,aj.nil⟩ J J))))))))))))
    refine nw T J (λoy=>an (so [0,0,0,0,0]) (ao 9 (kh [] J kF Z6 (eN.c ·) (λv23 Z6=>an (so [0,0,0,0,0]) (ha T 1 [10] (so [0,0,0,0,0]) hg pf J (ao 12 (sf T 5 J (an (so [0,0,0,0,0]) (ae (rx T 1 (bq (am (_,_,_,_,_,_,_,_) [0,0,0,0,0,0,0] ⟨oi Z6,aj.nil⟩ J J))))))))))))
   refine nw T J (λqI=>an (so [0,0,0,0,0]) (ao 4 (kh [] J kF Z6 (eN.c ·) (λv24 Z6=>an (so [0,0,0,0,0]) (ao 9 (kh [] J kF Z6 (eN.c ·) (λv25 Z6=>an (so [0,0,0,0,0]) (ha T 1 [10] (so [0,0,0,0,0]) hg pf J (ao 12 (sf T 5 J (an (so [0,0,0,0,0]) (ae (rx T 1 (bq (am (_,_,_,_,_,_,_,_) [0,0,0,0,0,0,0] ⟨oi Z6,aj.nil⟩ J J)))))))))))))))
  rintro _ ⟨dg,cD,cy,dE,kY,dK,n13,dV⟩ ⟨rfl,dm⟩ Z3;refine mq Z3 [0,1,2,3,9,10,12,14] [0,2] (λX7 (⟨iA,ml,nn,jl,BM,BN,wT,oh,a17,n17,eH,jo,n18,ft⟩:Int×Int×List Int×Int×Int×Int×Int×List Int×Option Addr×Nat×Hp×Option Addr×Nat×Hp)=>((iA,ml,nn,jl,BM,BN,wT,oh)=X7/\aj (Fl.int .u8) 5 nn a17 n17 eH/\aj (Fl.int .u8) 5 oh jo n18 ft,[(11,(ii jl))],[(cl b2 30 [(ii iA),(ii ml),(ll a17 nn n17)]),eH,(cl kY 55 [(ii BM),(ii BN),(ii wT),(ll jo oh n18)]),ft])) J J (λX7 bt _=>?_) ?_
  ·refine rc T 3 (lf T 4 J (k [] J kF bt (eN.c ·) (λv35 bt=>ro T 3 (mq bt [0,1,2,3,9,10,11,12,13,14,53] [0,0,0,0,0,0,0] (λz37 (wU:Bool)=>(wU=z37,[(55,(bb wU))],[])) J J (λz37 cn _=>?_) ?_))))
   ·refine rc T 6 (cb J cn (λcn=>?_) (λcn=>?_))
    ·refine rc T 2 (am _ [0,0,0,0,0,0,0] (oi cn) J J)
    refine rc T 6 (cb J cn (λcn=>?_) (λcn=>?_))
    ·refine rc T 2 (am _ [0,0,0,0,0,0,0] (oi cn) J J)
    refine rc T 5 (am _ [0,0,0,0,0,0,0] (oi cn) J J)
   rintro _ wU rfl bt;refine cb J bt (λbt=>?_) (λbt=>?_)
   ·refine rc T 2 (sg T 5 J (ro T 3 (am (_,_,_,_,_,_,_,_,_,_,_,_,_,_) [0,2,0,0,1,1] ⟨oi bt,s8,dm⟩ J J)))
   refine rc T 6 (cb J bt (λbt=>?_) (λbt=>?_))
   ·refine rc T 2 (lf T 4 J (k [] J kF bt (eN.c ·) (λoY bt=>ro T 1 (sg T 5 J (ro T 1 (sg T 5 J (ro T 3 (am (_,_,_,_,_,_,_,_,_,_,_,_,_,_) [0,2,0,0,1,1] ⟨oi bt,s8,dm⟩ J J))))))))
   refine rc T 6 (cb J bt (λbt=>?_) (λbt=>?_))
   ·refine rc T 2 (lf T 4 J (k [] J kF bt (eN.c ·) (λv39 bt=>ro T 1 (sg T 5 J (ro T 1 (sg T 5 J (ro T 1 (sg T 5 J (ro T 3 (am (_,_,_,_,_,_,_,_,_,_,_,_,_,_) [0,2,0,0,1,1] ⟨oi bt,s8,dm⟩ J J))))))))))
   refine mq bt [0,1,2,3,9,10,11,12,13,14,53] [0,0,0,0,0,0,0] (λz41 (gz:Bool)=>(gz=z41,[(75,(bb gz))],[])) J J (λz41 FI _=>?_) ?_
   ·refine rc T 6 (cb J FI (λFI=>?_) (λFI=>?_))
    ·refine rc T 2 (am _ [0,0,0,0,0,0,0] (oi FI) J J)
    refine rc T 5 (am _ [0,0,0,0,0,0,0] (oi FI) J J)
   rintro _ gz rfl bt;refine cb J bt (λbt=>?_) (λbt=>?_)
   ·refine rc T 2 (lf T 4 J (ro T 1 (k [] J NS bt (wu.c ·) (λLG bt=>ro T 2 (sg T 5 J (ro T 1 (sg T 5 J (ro T 3 (am (_,_,_,_,_,_,_,_,_,_,_,_,_,_) [0,2,0,0,1,1] ⟨oi bt,s8,dm⟩ J J)))))))))
   refine mq bt [0,1,2,3,9,10,11,12,13,14,53] [0,0,0,0,0,0,0] (λz44 (fG:Bool)=>(fG=z44,[(85,(bb fG))],[])) J J (λz44 gJ _=>?_) ?_
   ·refine rc T 6 (cb J gJ (λgJ=>?_) (λgJ=>?_))
    ·refine rc T 2 (am _ [0,0,0,0,0,0,0] (oi gJ) J J)
    refine rc T 5 (am _ [0,0,0,0,0,0,0] (oi gJ) J J)
   rintro _ fG rfl bt;refine cb J bt (λbt=>?_) (λbt=>?_)
   ·refine rc T 2 (sg T 5 J (ro T 3 (am (_,_,_,_,_,_,_,_,_,_,_,_,_,_) [0,2,0,0,1,1] ⟨oi bt,s8,dm⟩ J J)))
   refine rc T 6 (cb J bt (λbt=>?_) (λbt=>?_))
   ·refine rc T 2 (sg T 5 J (ro T 3 (bq (am (_,_,_,_,_,_,_,_,_,_,_,_,_,_) [0,2,0,0,1,2] ⟨oi bt,s8,aj.nil⟩ J J))))
   refine rc T 6 (cb J bt (λbt=>?_) (λbt=>?_))
   ·refine rc T 3 (lf T 4 J (ro T 4 (cb J bt (λbt=>?_) (λbt=>?_))))
    ·refine rc T 4 (lf T 4 J (ro T 4 (lf T 4 J (ro T 2 (kr lC.R [] [] J TZ bt (lC.c · (rO Gr 0) ME) (λv45 bt=>?_))))));rintro _ _ ⟨kW,n19,kT,ie,rfl,rfl⟩;refine fz J (sg T 1 J (ro T 5 (lf T 1 J (ro T 5 (lm T 1 J (kr lD.R [] [] J NR bt (lD.c · (oO ie 7) ie.bT) (λv46 bt=>?_)))))));rintro _ _ ⟨a20,n20,oq,me,rfl,rfl⟩;refine fz J (ro T 1 (sg T 5 J (ro T 3 (am (_,_,_,_,_,_,_,_,_,_,_,_,_,_) [0,2,0,4,2,3] ⟨oi bt,ie,me⟩ J J))))
    refine rc T 2 (lf T 4 J (k [] J kF bt (eN.c ·) (λqz bt=>ro T 2 (sg T 5 J (ro T 3 (bq (am (_,_,_,_,_,_,_,_,_,_,_,_,_,_) [0,2,0,0,1,2] ⟨oi bt,s8,aj.nil⟩ J J)))))))
   refine rc T 6 (cb J bt (λbt=>?_) (λbt=>?_))
   ·refine rc T 1 (lm T 4 J (ro T 1 (kr xU.R [] [] J aer bt (xU.c ·) (λIx bt=>?_))));rintro _ _ ⟨a21,n21,kq,jC,rfl,rfl⟩;refine fz J (sg T 5 J (ro T 3 (am (_,_,_,_,_,_,_,_,_,_,_,_,_,_) [0,2,0,0,1,2] ⟨oi bt,s8,jC⟩ J J)))
   refine rc T 2 (sg T 5 J (ro T 3 (bq (am (_,_,_,_,_,_,_,_,_,_,_,_,_,_) [0,2,0,0,1,2] ⟨oi bt,s8,aj.nil⟩ J J))))
  rintro _ ⟨iA,ml,nn,jl,BM,BN,wT,oh,a17,n17,eH,jo,n18,ft⟩ ⟨rfl,fq,fF⟩ Z3;refine rc T 2 (lm T 4 J (f_ [5] J (aX (B7 (kd:=HP) (E:=55) (q:=5) (c:=[(ii BM),(ii BN),(ii wT),(ll jo oh n18)]) T (cR.mk BM BN wT oh) J J J J J J J J J J ⟨jo,n18,ft,fF,J,J⟩ (λa23 jE gG=>?_)))));obtain⟨c37,Z3⟩:=az Z3;refine aX (B6 (kd:=HP) (xs:=bx) (ys:=[(cR.mk BM BN wT oh)]) T (g:=1) (q:=6) J J J J J J J J J J s9 J J gG c37 J (λa24 n24 rG mf=>ro T 10 (ar (_,_,_,_,_,_,_,_,_,_,_,_) [0,1,1,0] ⟨Z3,fq,mf⟩ J J)))
 refine rc T 12 ?_
 cases Z3;exact p1 T J [3,0] ⟨a9,n9,H9,s9,J,J⟩ J
end
noncomputable section
def CT.f (x:Int) (y:Int):Option (Int×Int):=some ((eQ ((eQ ((eQ ((Int.fdiv x (2^32))*(Int.fdiv y (2^32))))+(Int.fdiv (eQ ((eQ ((Int.fdiv x (2^32))*(eQ (BitVec.toNat (BitVec.ofInt (IntKind.bits .u64) y&&&BitVec.ofInt (IntKind.bits .u64) 4294967295)))))+(Int.fdiv (eQ ((eQ (BitVec.toNat (BitVec.ofInt (IntKind.bits .u64) x&&&BitVec.ofInt (IntKind.bits .u64) 4294967295)))*(eQ (BitVec.toNat (BitVec.ofInt (IntKind.bits .u64) y&&&BitVec.ofInt (IntKind.bits .u64) 4294967295))))) (2^32)))) (2^32))))+(Int.fdiv (eQ ((eQ (BitVec.toNat (BitVec.ofInt (IntKind.bits .u64) (eQ ((eQ ((Int.fdiv x (2^32))*(eQ (BitVec.toNat (BitVec.ofInt (IntKind.bits .u64) y&&&BitVec.ofInt (IntKind.bits .u64) 4294967295)))))+(Int.fdiv (eQ ((eQ (BitVec.toNat (BitVec.ofInt (IntKind.bits .u64) x&&&BitVec.ofInt (IntKind.bits .u64) 4294967295)))*(eQ (BitVec.toNat (BitVec.ofInt (IntKind.bits .u64) y&&&BitVec.ofInt (IntKind.bits .u64) 4294967295))))) (2^32))))&&&BitVec.ofInt (IntKind.bits .u64) 4294967295)))+(eQ ((eQ (BitVec.toNat (BitVec.ofInt (IntKind.bits .u64) x&&&BitVec.ofInt (IntKind.bits .u64) 4294967295)))*(Int.fdiv y (2^32)))))) (2^32)))),(eQ (x*y)))
theorem CT.c (H:CT.f x y=some r):
 QU 269 [(uu x),(uu y)] [] F (.tuple #[(uu r.1),(uu r.2)]):=by
 unfold CT.f at H;refine aD Tryz.func269 J J (λW=>rc T 99 ?_)
 cases H;exact p0 T J [0] J
def tn.f (x:Int) (y:Int):Option (Int×Int):=(CT.f x y).bind λv1=>some (v1.1,v1.2)
theorem tn.c (H:tn.f x y=some r):
 QU 239 [(uu x),(uu y)] [] F (.tuple #[(uu r.1),(uu r.2)]):=by
 unfold tn.f at H;refine aD Tryz.func239 J J (λW=>rc T 7 (eT J (rc T 6 (k [] J ad5 H (CT.c ·) (λv1 H=>ro T 16 ?_)))))
 cases H;exact p0 T J [0] J
def Hv.f (x:Int):Option Int:=(if x≥4294967296 then(some ((Int.fdiv x (2^32)),(32:Int))) else(some (x,(0:Int)))).bind λ(x1,x2)=>(if x1≥65536 then(some ((Int.fdiv x1 (2^16)),(aa (x2+16)))) else(some (x1,x2))).bind λ(x4,x5)=>if x4≥256 then(if(0<=(bU (Int.fdiv x4 (2^8)))/\(bU (Int.fdiv x4 (2^8)))<(List.length Fi:Int)) then(some (aa ((aa (x5+8))+(aa (rd Fi (bU (Int.fdiv x4 (2^8)))))))) else none) else(if(0<=(bU x4)/\(bU x4)<(List.length Fi:Int)) then(some (aa (x5+(aa (rd Fi (bU x4)))))) else none)
theorem Hv.c (H:Hv.f x=some r):
 QU 264 [(uu x)] [] F (ii r):=by
 unfold Hv.f at H;refine aD Tryz.func264 J J (λW=>rc T 5 (mq H [] [0] (λz3 (⟨x1,x2⟩:Int×Int)=>((x1,x2)=z3,[(0,(uu x1)),(2,(ii x2))],[])) J J (λz3 Z1 _=>?_) ?_))
 ·refine rc T 6 (cd J Z1 (λZ1=>?_) (λZ1=>?_))
  ·refine rc T 11 (am (_,_) [0] (oi Z1) J J)
  refine rc T 2 (am (_,_) [0] (oi Z1) J J)
 rintro _ ⟨x1,x2⟩ rfl H;refine mq H [] [0] (λz6 (⟨x4,x5⟩:Int×Int)=>((x4,x5)=z6,[(0,(uu x4)),(2,(ii x5))],[])) J J (λz6 Z3 _=>?_) ?_
 ·refine rc T 6 (cd J Z3 (λZ3=>?_) (λZ3=>?_))
  ·refine rc T 13 (am (_,_) [0] (oi Z3) J J)
  refine rc T 2 (am (_,_) [0] (oi Z3) J J)
 rintro _ ⟨x4,x5⟩ rfl H;refine rc T 7 (cd J H (λH=>?_) (λH=>?_))
 ·refine rc T 18 ?_;obtain⟨c6,H⟩:=az H;refine br J (Su T Fi J J J J J c6) (ro T 6 ?_)
  cases H;exact p0 T J [0] J
 refine rc T 7 ?_;obtain⟨c7,H⟩:=az H;refine br J (Su T Fi J J J J J c7) (ro T 6 ?_)
 cases H;exact p0 T J [0] J
def Hu.f (x:Int):Option Int:=(Hv.f x).bind λv1=>some v1
theorem Hu.c (H:Hu.f x=some r):
 QU 235 [(uu x)] [] F (ii r):=by
 unfold Hu.f at H;refine aD Tryz.func235 J J (λW=>rc T 6 (eT J (rc T 5 (k [] J ad2 H (Hv.c ·) (λv1 H=>ro T 4 ?_)))))
 cases H;exact p0 T J [0] J
end
noncomputable section
def lL.l0:Nat->(Int×Int)->Int->List Int->Int->Option (List Int)
 |0,_,_,_,_=>none
 |zn+1,v1,x2,x9,aN=>if aN<(aa v1.2) then(if(0<=aN/\aN<=(List.length x9:Int)/\(List.length x9:Int)<=(List.length x9:Int)) then(if(0<=(0:Int)/\(0:Int)<=(if x2<aN then x2 else aN)/\(if x2<aN then x2 else aN)<=(List.length x9:Int)) then(lL.l0 zn v1 x2 (cm x9 (Int.toNat aN) (min (List.length (aA x9 0 (if x2<aN then x2 else aN))) (List.length (aA x9 aN (List.length x9:Int)))) (aA x9 0 (if x2<aN then x2 else aN))) (aa (aN+(((min (List.length (aA x9 0 (if x2<aN then x2 else aN))) (List.length (aA x9 aN (List.length x9:Int)))):Nat):Int)))) else none) else none) else(some x9)
def lL.f (b:(List Int)) (count:Int):Option (List Int):=if(count==0)=true then(some ([]:List Int)) else(if count<0 then(none) else((tn.f (eQ (List.length b:Int)) (eQ count)).bind λv1=>if((decide (v1.1>0))||(decide (v1.2>9223372036854775807)))=true then(none) else(if((List.length b:Int)==0)=true then(some ([]:List Int)) else((if(aa v1.2)>8192 then(if(¬(List.length b:Int)=0) then(if((aa ((aa (Int.tdiv 8192 (List.length b:Int)))*(List.length b:Int)))==0)=true then(some (List.length b:Int)) else(some (aa ((aa (Int.tdiv 8192 (List.length b:Int)))*(List.length b:Int))))) else none) else(some (aa v1.2))).bind λx2=>if(0<=(aa v1.2)/\(aa v1.2)<=1099511627776) then(FT (K4 (aa v1.2)) (λx4=>if((aa v1.2)=(List.length x4:Int)) then((lL.l0 fuel v1 x2 (cm x4 0 (min (List.length b) (List.length x4)) b) (((min (List.length b) (List.length x4)):Nat):Int)).bind λx5=>some x5) else none)) else none))))
def lL.R (r:(List Int)):bg:=λu G=> ∃a0 n0 H0,aj (Fl.int .u8) 5 r a0 n0 H0/\u=(ll a0 r n0)/\G=[H0]
theorem lL.c (H:lL.f b count=some r) (fh:aP (Fl.int .u8) b gY F) (fJ:List.length b<=gP):
 QR 280 [(ll gY b gP),(ii count)] [] [] F (lL.R r):=by
 unfold lL.f at H;refine aD Tryz.func280 J J (λW=>rc T 12 (cb J H (λH=>?_) (λH=>?_)))
 ·refine rc T 2 (aX (cY (k:=(Fl.int .u8)) T ([]:List Int) J J J J J J J J J (λa1 H1 s1=>ro T 5 ?_)))
  cases H;exact p1 T J [1,0] ⟨a1,(List.length ([]:List Int)),H1,s1,J,J⟩ J
 refine rc T 9 (cd J H (λH=>?_) (λH=>?_))
 ·cases H
 refine rc T 9 (k [] J NL H (tn.c ·) (λv1 H=>ro T 13 (go T [3,4,5] 29 [0,6] 32 J J J J J J J (ro T 2 (cb J H (λH=>?_) (λH=>?_))))))
 ·cases H
 refine rc T 17 (cb J H (λH=>?_) (λH=>?_))
 ·refine rc T 2 (aX (cY (k:=(Fl.int .u8)) T ([]:List Int) J J J J J J J J J (λa2 H2 s2=>ro T 5 ?_)))
  cases H;exact p1 T J [1,0] ⟨a2,(List.length ([]:List Int)),H2,s2,J,J⟩ J
 refine rc T 8 (mq H [0,7] [0] (λz3 (x2:Int)=>(x2=z3,[(8,(ii x2))],[])) J J (λz3 Z6 _=>?_) ?_)
 ·refine rc T 6 (cd J Z6 (λZ6=>?_) (λZ6=>?_))
  ·refine rc T 4 ?_;obtain⟨c8,Z6⟩:=az Z6;refine br J (vJ J J J c8) (ro T 12 (cb J Z6 (λZ6=>?_) (λZ6=>?_)))
   ·refine rc T 6 (am _ [0] (oi Z6) J J)
   refine rc T 2 (am _ [0] (oi Z6) J J)
  refine rc T 2 (am _ [0] (oi Z6) J J)
 rintro _ x2 rfl H;refine rc T 3 ?_;obtain⟨iT,H⟩:=az H;refine aX (ZN T J J J J afx J iT (λx4 a3 n3 H3 p3_ s3=>?_));replace H:=Y4 H p3_;refine ro T 2 ?_;obtain⟨eJ,H⟩:=az H;refine br J (aci T J J J J J J eJ s3.bT) (ro T 7 ?_);have Qo:0+(List.length x4)<=List.length x4:=(M9 _);refine aX (B5 (k:=(Fl.int .u8)) (xs:=x4) (ys:=b) (lo:=0) (g:=1) T J J J J J J J J (aj.trim s3 (Nat.le_refl _) s3.bT) (rO fh 0) (.inl ⟨J,J⟩) Qo (λH4 s4=>kf [7,8,60] [0,0] [(9,(ll a3 (cm x4 0 (min (List.length b) (List.length x4)) b) (List.length x4)))] J J ⟨(by first |rfl |(simp only[ll,l8 Qo];rfl)),trivial⟩ (ro T 3 ?_)))
 refine mq H [] [0] (λz6 (⟨x5,a5,n5,H5⟩:List Int×Option Addr×Nat×Hp)=>(x5=z6/\aj (Fl.int .u8) 5 x5 a5 n5 H5,[(9,(ll a5 x5 n5))],[H5])) J J (λz6 ff _=>?_) ?_
 ·refine rc T 1 (lq [7,8] [0] (λ(⟨zn,x9,aN,a7,n7,H7⟩:Nat×List Int×Int×Option Addr×Nat×Hp)=>(lL.l0 zn v1 x2 x9 aN=some z6/\aj (Fl.int .u8) 5 x9 a7 n7 H7,[(9,(ll a7 x9 n7)),(10,(ii aN))],[H7])) J J (fuel,(cm x4 0 (min (List.length b) (List.length x4)) b),(((min (List.length b) (List.length x4)):Nat):Int),a3,(List.length x4),H4) [0,0] ⟨ff,s4⟩ J J ?_);rintro zn ⟨x9,aN,a7,n7,H7⟩ ⟨cn,s7⟩;rw[lL.l0] at cn;refine rc T 8 (cd J cn (λcn=>?_) (λcn=>?_))
  ·refine rc T 11 (fz J (rz [7] mix (bO bN) (λhg pf=>ha T 7 [0,1,2] sz hg pf J ?_)));obtain⟨pY,cn⟩:=az cn;refine av 3 sz hg pf J (kE T J J J J J J pY s7.bT) (ha T 4 [4,5] sz hg pf J ?_);obtain⟨jI,cn⟩:=az cn;refine av 6 sz hg pf J (kE T J J J J J J jI s7.bT) (ao 7 ?_);have DP:(Int.toNat aN)+(List.length (aA x9 aN (List.length x9:Int)))<=List.length x9:=(It pY);refine B5 (k:=(Fl.int .u8)) (xs:=x9) (ys:=(aA x9 0 (if x2<aN then x2 else aN))) (lo:=(Int.toNat aN)) (g:=1) T J J J J J J J J s7 (nj (oO s7 1) jI s7.bT) (.inr J) DP (λH8 s8=>?_)
   have Jb:(0<=aN/\aN<=(List.length x9:Int)/\(List.length x9:Int)<=(List.length (cm x9 (Int.toNat aN) (min (List.length (aA x9 0 (if x2<aN then x2 else aN))) (List.length (aA x9 aN (List.length x9:Int)))) (aA x9 0 (if x2<aN then x2 else aN))):Int)):=by simp only[l8 DP];exact pY
   have YE:(0<=(0:Int)/\(0:Int)<=(if x2<aN then x2 else aN)/\(if x2<aN then x2 else aN)<=(List.length (cm x9 (Int.toNat aN) (min (List.length (aA x9 0 (if x2<aN then x2 else aN))) (List.length (aA x9 aN (List.length x9:Int)))) (aA x9 0 (if x2<aN then x2 else aN))):Int)):=by simp only[l8 DP];exact jI
   refine kf [7,8,10,11,67,69,72,74] [0,0] [(9,(ll a7 (cm x9 (Int.toNat aN) (min (List.length (aA x9 0 (if x2<aN then x2 else aN))) (List.length (aA x9 aN (List.length x9:Int)))) (aA x9 0 (if x2<aN then x2 else aN))) n7)),(68,(ll a7 (cm x9 (Int.toNat aN) (min (List.length (aA x9 0 (if x2<aN then x2 else aN))) (List.length (aA x9 aN (List.length x9:Int)))) (aA x9 0 (if x2<aN then x2 else aN))) n7)),(70,(ll (gm a7 n7 (Int.toNat aN) 1) (aA (cm x9 (Int.toNat aN) (min (List.length (aA x9 0 (if x2<aN then x2 else aN))) (List.length (aA x9 aN (List.length x9:Int)))) (aA x9 0 (if x2<aN then x2 else aN))) aN (List.length x9:Int)) (n7-Int.toNat aN))),(71,(ll a7 (cm x9 (Int.toNat aN) (min (List.length (aA x9 0 (if x2<aN then x2 else aN))) (List.length (aA x9 aN (List.length x9:Int)))) (aA x9 0 (if x2<aN then x2 else aN))) n7)),(73,(ll (gm a7 n7 (Int.toNat 0) 1) (aA (cm x9 (Int.toNat aN) (min (List.length (aA x9 0 (if x2<aN then x2 else aN))) (List.length (aA x9 aN (List.length x9:Int)))) (aA x9 0 (if x2<aN then x2 else aN))) 0 (if x2<aN then x2 else aN)) (n7-Int.toNat 0)))] J J ⟨(by first |rfl |(simp only[ll,l8 DP];rfl)),(by first |rfl |(simp only[ll,l8 DP];rfl)),(by simp only[ll];rw[i_ Jb,<-i_ pY];rfl),(by first |rfl |(simp only[ll,l8 DP];rfl)),(by simp only[ll];rw[i_ YE,<-i_ jI];rfl),trivial⟩ (an sl (hb T 8 sl hg pf J (hb T 9 sl hg pf J (ae (rx T 2 ?_)))))
   exact ar (_,_,_,_,_) [0,0] ⟨cn,s8⟩ J J
  refine rc T 5 (am (_,_,_,_) [0,0] ⟨oi cn,s7⟩ J J)
 rintro _ ⟨x5,a5,n5,H5⟩ ⟨rfl,s5⟩ H;refine rc T 7 ?_
 cases H;exact p1 T J [1,0] ⟨a5,n5,H5,s5,J,J⟩ J
def D4.f (a:(List Int)) (b:(List Int)):Option Bool:=some (Bz a b)
theorem D4.c (H:D4.f a b=some r) (pq:aP (Fl.int .u8) a sK F) (Cf:List.length a<=tv) (fh:aP (Fl.int .u8) b gY F) (fJ:List.length b<=gP):
 QU 254 [(ll sK a tv),(ll gY b gP)] [] F (bb r):=by
 unfold D4.f at H;refine aD Tryz.func254 J J (λW=>rc T 8 (br J (JP T J J J J J (rO pq 0)) (ro T 1 (br J (JP T J J J J J (rO fh 0)) (br J (Sv J J J) (ro T 4 ?_))))))
 cases H;exact p0 T J [0] J
end
noncomputable section
def cmp_isNaN_int.f (x:Int):Option Bool:=some (x !=x)
theorem cmp_isNaN_int.c (H:cmp_isNaN_int.f x=some r):
 QU 265 [(ii x)] [] F (bb r):=by
 unfold cmp_isNaN_int.f at H;refine aD Tryz.func265 J J (λW=>rc T 14 ?_)
 cases H;exact p0 T J [0] J
def sT.f (x:Int) (y:Int):Option Int:=(cmp_isNaN_int.f x).bind λv1=>(cmp_isNaN_int.f y).bind λv2=>if v1=true then(if v2=true then(some 0) else(some (-1))) else(if v2=true then(some 1) else(if x<y then(some (-1)) else(if x>y then(some 1) else(some 0))))
theorem sT.c (H:sT.f x y=some r):
 QU 237 [(ii x),(ii y)] [] F (ii r):=by
 unfold sT.f at H;refine aD Tryz.func237 J J (λW=>rc T 8 (k [] J J_ H (cmp_isNaN_int.c ·) (λv1 H=>ro T 6 (k [] J J_ H (cmp_isNaN_int.c ·) (λv2 H=>ro T 9 (cb J H (λH=>?_) (λH=>?_)))))))
 ·refine rc T 6 (cb J H (λH=>?_) (λH=>?_))
  ·refine rc T 8 ?_
   cases H;exact p0 T J [0] J
  refine rc T 9 ?_
  cases H;exact p0 T J [0] J
 refine rc T 8 (cb J H (λH=>?_) (λH=>?_))
 ·refine rc T 7 ?_
  cases H;exact p0 T J [0] J
 refine rc T 10 (cd J H (λH=>?_) (λH=>?_))
 ·refine rc T 7 ?_
  cases H;exact p0 T J [0] J
 refine rc T 10 (cd J H (λH=>?_) (λH=>?_))
 ·refine rc T 7 ?_
  cases H;exact p0 T J [0] J
 refine rc T 8 ?_
 cases H;exact p0 T J [0] J
def mV.l0:Nat->(List Int)->Int->Option Int
 |0,_,_=>none
 |k3+1,uk,x2=>if x2<(List.length uk:Int) then(if(0<=x2/\x2<(List.length uk:Int)) then(if((rd uk x2)!=0)=true then(some (rd uk x2)) else(mV.l0 k3 uk (aa (x2+1)))) else none) else(some 0)
def mV.f (uk:(List Int)):Option Int:=mV.l0 fuel uk 0
theorem mV.c (H:mV.f uk=some r) (S7:aP (Fl.int .i64) uk YR F) (aki:List.length uk<=agU):
 QU 236 [(ll YR uk agU)] [] F (ii r):=by
 unfold mV.f at H;refine aD Tryz.func236 J J (λW=>rc T 19 (lq [3,6,7] [0] (λ(⟨k3,x2⟩:Nat×Int)=>(mV.l0 k3 uk x2=some r,[(8,(ii x2))],[])) J J (fuel,0) [0] H J J ?_));rintro k3 x2 Z1;replace Z1:mV.l0 (k3+1) uk x2=some r:=Z1;rw[mV.l0] at Z1;refine rc T 6 (cd J Z1 (λZ1=>?_) (λZ1=>?_))
 ·refine rc T 6 ?_;obtain⟨c3,Z1⟩:=az Z1;obtain⟨q1,o1,e1⟩:=S7.addr c3.1 c3.2;refine ix T J e1 c3 (le T 0 (rO S7 0) e1 c3 J J (ro T 10 (cb J Z1 (λZ1=>?_) (λZ1=>?_))))
  ·refine rc T 12 ?_
   cases Z1;exact p0 T J [0] J
  refine rc T 8 (ar _ [0] Z1 J J)
 refine rc T 12 ?_
 cases Z1;exact p0 T J [0] J
def cmp_Less_int.f (x:Int) (y:Int):Option Bool:=((cmp_isNaN_int.f x).bind λv3=>if v3=true then((cmp_isNaN_int.f y).bind λv4=>some ((!v4)||(decide (x<y)))) else(some (decide (x<y)))).bind λx1=>some x1
theorem cmp_Less_int.c (H:cmp_Less_int.f x y=some r):
 QU 300 [(ii x),(ii y)] [] F (bb r):=by
 unfold cmp_Less_int.f at H;refine aD Tryz.func300 J J (λW=>rc T 5 (mq H [] [0] (λz2 (x1:Bool)=>(x1=z2,[(4,(bb x1))],[])) J J (λz2 Z1 _=>?_) ?_))
 ·refine rc T 2 (k [] J J_ Z1 (cmp_isNaN_int.c ·) (λv3 Z1=>ro T 1 (ab 7 J Z1 (λZ1=>?_) (λZ1=>?_))))
  ·refine ro T 1 (k [] J J_ Z1 (cmp_isNaN_int.c ·) (λv4 Z1=>ro T 3 (go T [8,9,10,11] 12 [] 16 J J J J J J J (ro T 3 (am _ [0] (oi Z1) J J)))))
  refine ro T 12 (am _ [0] (oi Z1) J J)
 rintro _ x1 rfl H;refine rc T 1 ?_
 cases H;exact p0 T J [0] J
end
noncomputable section
def rm.l0:Nat->(List Int)->Int->Int->Option Int
 |0,_,_,_=>none
 |k3+1,s,v,x2=>if x2<(List.length s:Int) then(if(0<=x2/\x2<(List.length s:Int)) then(if(v==(rd s x2))=true then(some x2) else(rm.l0 k3 s v (aa (x2+1)))) else none) else(some (-1))
def rm.f (s:(List Int)) (v:Int):Option Int:=rm.l0 fuel s v 0
theorem rm.c (H:rm.f s v=some r) (iW:aP (Fl.int .u8) s iF F) (qM:List.length s<=iL):
 QU 231 [(ll iF s iL),(.int .u8 v)] [] F (ii r):=by
 unfold rm.f at H;refine aD Tryz.func231 J J (λW=>rc T 14 (lq [0,1,7] [0] (λ(⟨k3,x2⟩:Nat×Int)=>(rm.l0 k3 s v x2=some r,[(8,(ii x2))],[])) J J (fuel,0) [0] H J J ?_));rintro k3 x2 Z1;replace Z1:rm.l0 (k3+1) s v x2=some r:=Z1;rw[rm.l0] at Z1;refine rc T 6 (cd J Z1 (λZ1=>?_) (λZ1=>?_))
 ·refine rc T 15 ?_;obtain⟨c3,Z1⟩:=az Z1;obtain⟨q1,o1,e1⟩:=iW.addr c3.1 c3.2;refine ix T J e1 c3 (le T 0 (rO iW 0) e1 c3 J J (ro T 3 (cb J Z1 (λZ1=>?_) (λZ1=>?_))))
  ·refine rc T 12 ?_
   cases Z1;exact p0 T J [0] J
  refine rc T 8 (ar _ [0] Z1 J J)
 refine rc T 11 ?_
 cases Z1;exact p0 T J [0] J
def wI.f (s:(List Int)) (v:Int):Option Bool:=(rm.f s v).bind λv1=>some (decide (v1≥0))
theorem wI.c (H:wI.f s v=some r) (iW:aP (Fl.int .u8) s iF F) (qM:List.length s<=iL):
 QU 194 [(ll iF s iL),(.int .u8 v)] [] F (bb r):=by
 unfold wI.f at H;refine aD Tryz.func194 J J (λW=>rc T 9 (k [] J adK H (rm.c · (rO iW 0) qM) (λv1 H=>ro T 5 ?_)))
 cases H;exact p0 T J [0] J
def nX.f (s:(List Int)):Option (List Int):=if(List.length ([]:List Int)+List.length s<=1099511627776) then(some (([]:List Int)++s)) else none
def nX.R (r:(List Int)):bg:=λu G=> ∃a0 n0 H0,aj (Fl.int .u8) 5 r a0 n0 H0/\u=(ll a0 r n0)/\G=[H0]
theorem nX.c (H:nX.f s=some r) (iW:aP (Fl.int .u8) s iF F) (qM:List.length s<=iL):
 QR 103 [(ll iF s iL)] [] [] F (nX.R r):=by
 unfold nX.f at H;refine aD Tryz.func103 J J (λW=>rc T 12 (Ao J (λc1=>?_) (λc1=>?_)))
 ·have hx:s=[]:=K2 iW c1;replace H:some []=some r:=by simpa[hx] using H
  refine rc T 7 ?_
  cases H;refine bq (p1 T J [1,0] ⟨none,0,[],aj.nil,J,J⟩ J)
 refine rc T 4 (aX (cY (k:=(Fl.int .u8)) T ([]:List Int) J J J J J J J J J (λa2 H2 s2=>ro T 1 ?_)));obtain⟨c2,H⟩:=az H;refine aX (dW (k:=(Fl.int .u8)) (xs:=([]:List Int)) T (g:=1) J J J J J J J J J J s2 (rO iW 0) c2 J (λa3 n3 H3 s3=>ro T 4 ?_))
 cases H;exact p1 T J [1,0] ⟨a3,n3,H3,s3,J,J⟩ J
def sm.f (s:(List a_)):Option (List a_):=if(List.length ([]:List a_)+List.length s<=1099511627776) then(some (([]:List a_)++s)) else none
def sm.R (r:(List a_)):bg:=λu G=> ∃a0 n0 H0,aj cL 285 r a0 n0 H0/\u=(ll a0 r n0)/\G=[H0]
theorem sm.c (H:sm.f s=some r) (iW:aP cL s iF F) (qM:List.length s<=iL):
 QR 189 [(ll iF s iL)] [] [] F (sm.R r):=by
 unfold sm.f at H;refine aD Tryz.func189 J J (λW=>rc T 12 (Ao J (λc1=>?_) (λc1=>?_)))
 ·have hx:s=[]:=K2 iW c1;replace H:some []=some r:=by simpa[hx] using H
  refine rc T 7 ?_
  cases H;refine bq (p1 T J [1,0] ⟨none,0,[],aj.nil,J,J⟩ J)
 refine rc T 4 (aX (cY (k:=cL) T ([]:List a_) J J J J J J J J J (λa2 H2 s2=>ro T 1 ?_)));obtain⟨c2,H⟩:=az H;refine aX (dW (k:=cL) (xs:=([]:List a_)) T (g:=1) J J J J J J J J J J s2 (rO iW 0) c2 J (λa3 n3 H3 s3=>ro T 4 ?_))
 cases H;exact p1 T J [1,0] ⟨a3,n3,H3,s3,J,J⟩ J
def jQ.l1:Nat->(List a_)->Int->List a_->Int->Int->Option (List a_)
 |0,_,_,_,_,_=>none
 |xD+1,s,x2,x7,x8,x9=>if x9<(List.length (aA x7 x2 (List.length s:Int)):Int) then(if(0<=x9/\x9<(List.length (aA x7 x2 (List.length s:Int)):Int)) then(if(0<=(aa (x9-1))/\(aa (x9-1))<(List.length (aA x7 x2 (List.length s:Int)):Int)) then(if(!(((rd (aA x7 x2 (List.length s:Int)) x9).Cell==(rd (aA x7 x2 (List.length s:Int)) (aa (x9-1))).Cell)&&(((rd (aA x7 x2 (List.length s:Int)) x9).cO==(rd (aA x7 x2 (List.length s:Int)) (aa (x9-1))).cO)&&(((rd (aA x7 x2 (List.length s:Int)) x9).Key==(rd (aA x7 x2 (List.length s:Int)) (aa (x9-1))).Key)&&true))))=true then(if(0<=x8/\x8<(List.length x7:Int)) then(jQ.l1 xD s x2 (List.set x7 (Int.toNat x8) (rd (aA x7 x2 (List.length s:Int)) x9)) (aa (x8+1)) (aa (x9+1))) else none) else(jQ.l1 xD s x2 x7 x8 (aa (x9+1)))) else none) else none) else(if(0<=x8/\x8<=(List.length x7:Int)/\(List.length x7:Int)<=(List.length x7:Int)) then(if(0<=(0:Int)/\(0:Int)<=x8/\x8<=(List.length (cm x7 (Int.toNat x8) (List.length (aA x7 x8 (List.length x7:Int))) (List.replicate (List.length (aA x7 x8 (List.length x7:Int))) (default:a_))):Int)) then(some (aA (cm x7 (Int.toNat x8) (List.length (aA x7 x8 (List.length x7:Int))) (List.replicate (List.length (aA x7 x8 (List.length x7:Int))) (default:a_))) 0 x8)) else none) else none)
def jQ.l0:Nat->(List a_)->Int->Option (List a_)
 |0,_,_=>none
 |k3+1,s,x2=>if x2<(List.length s:Int) then(if(0<=x2/\x2<(List.length s:Int)) then(if(0<=(aa (x2-1))/\(aa (x2-1))<(List.length s:Int)) then(if(((rd s x2).Cell==(rd s (aa (x2-1))).Cell)&&(((rd s x2).cO==(rd s (aa (x2-1))).cO)&&(((rd s x2).Key==(rd s (aa (x2-1))).Key)&&true)))=true then(if(0<=x2/\x2<=(List.length s:Int)/\(List.length s:Int)<=(List.length s:Int)) then(jQ.l1 fuel s x2 s x2 1) else none) else(jQ.l0 k3 s (aa (x2+1)))) else none) else none) else(some s)
def jQ.f (s:(List a_)):Option (List a_):=if(List.length s:Int)<2 then(some s) else(jQ.l0 fuel s 1)
def jQ.R (r:(List a_)):bg:=λu G=> ∃a0 n0 H0,aj cL 285 r a0 n0 H0/\u=(ll a0 r n0)/\G=[H0]
theorem jQ.c (H:jQ.f s=some r) (cX:aj cL 285 s iF iL dQ):
 QR 210 [(ll iF s iL)] [dQ] [] F (jQ.R r):=by
 unfold jQ.f at H;refine aD Tryz.func210 J J (λW=>rc T 13 (cd J H (λH=>?_) (λH=>?_)))
 ·refine rc T 8 ?_
  cases H;exact p1 T J [0,0] ⟨iF,iL,dQ,cX,J,J⟩ J
 refine rc T 9 (lq [0] [1,0] (λ(⟨k3,x2⟩:Nat×Int)=>(jQ.l0 k3 s x2=some r,[(3,(ii x2))],[])) J J (fuel,1) [1,0] H J J ?_);rintro k3 x2 Z2;replace Z2:jQ.l0 (k3+1) s x2=some r:=Z2;rw[jQ.l0] at Z2;refine rc T 9 (cd J Z2 (λZ2=>?_) (λZ2=>?_))
 ·refine rc T 5 (dx mix ay (au T J (au T J ?_)));obtain⟨c4,Z2⟩:=az Z2;obtain⟨q2,o2,e2⟩:=cX.r.addr c4.1 c4.2;refine aO J J J (cC T J J J J J e2 c4.1 c4.2) (aO J J J (fC T (cs:=[(ii (rd s x2).Cell),(ii (rd s x2).cO),(ii (rd s x2).Key)]) J J J J J J (iv (k:=cL) (oO cX 1) e2 c4 J)) (au T J (au T J (au T J ?_))));obtain⟨c5,Z2⟩:=az Z2;refine aO J J J (cC T J J J J J e2 c5.1 c5.2) (aO J J J (fC T (cs:=[(ii (rd s (aa (x2-1))).Cell),(ii (rd s (aa (x2-1))).cO),(ii (rd s (aa (x2-1))).Key)]) J J J J J J (iv (k:=cL) (oO cX 1) e2 c5 J)) (aO J J J (acd T (((rd s x2).Cell==(rd s (aa (x2-1))).Cell)&&(((rd s x2).cO==(rd s (aa (x2-1))).cO)&&(((rd s x2).Key==(rd s (aa (x2-1))).Key)&&true))) J J J J PX ay J) (dh (rx T 1 (cb J Z2 (λZ2=>?_) (λZ2=>?_))))))
  ·refine rc T 4 ?_;obtain⟨c7,Z2⟩:=az Z2;refine br J (kE T J J J J J J c7 cX.bT) (ro T 10 (lq [] [0] (λ(⟨xD,x7,x8,x9,a5,n5,H5⟩:Nat×List a_×Int×Int×Option Addr×Nat×Hp)=>(jQ.l1 xD s x2 x7 x8 x9=some r/\aj cL 285 x7 a5 n5 H5/\(0<=x2/\x2<=(List.length s:Int)/\(List.length s:Int)<=(List.length x7:Int)),[(0,(ll a5 x7 n5)),(3,(ii x8)),(4,(ll (gm a5 n5 (Int.toNat x2) 3) (aA x7 x2 (List.length s:Int)) (n5-Int.toNat x2))),(5,(ii x9))],[H5])) J J (fuel,s,x2,1,iF,iL,dQ) [0,0] ⟨Z2,cX,c7⟩ J J ?_));rintro xD ⟨x7,x8,x9,a5,n5,H5⟩ ⟨Z8,s5,zX⟩;rw[jQ.l1] at Z8;refine rc T 9 (cd J Z8 (λZ8=>?_) (λZ8=>?_))
   ·refine rc T 5 (dx mix ay (au T J (au T J ?_)));obtain⟨iT,Z8⟩:=az Z8;obtain⟨q7,o7,e7⟩:=(nj s5.r zX s5.bT).addr iT.1 iT.2;refine aO J J J (cC T J J J J J e7 iT.1 iT.2) (aO J J J (fC T (cs:=[(ii (rd (aA x7 x2 (List.length s:Int)) x9).Cell),(ii (rd (aA x7 x2 (List.length s:Int)) x9).cO),(ii (rd (aA x7 x2 (List.length s:Int)) x9).Key)]) J J J J J J (iv (k:=cL) (nj (oO s5 1) zX s5.bT) e7 iT J)) (au T J (au T J (au T J ?_))));obtain⟨eJ,Z8⟩:=az Z8;refine aO J J J (cC T J J J J J e7 eJ.1 eJ.2) (aO J J J (fC T (cs:=[(ii (rd (aA x7 x2 (List.length s:Int)) (aa (x9-1))).Cell),(ii (rd (aA x7 x2 (List.length s:Int)) (aa (x9-1))).cO),(ii (rd (aA x7 x2 (List.length s:Int)) (aa (x9-1))).Key)]) J J J J J J (iv (k:=cL) (nj (oO s5 1) zX s5.bT) e7 eJ J)) (aO J J J (M_ T (((rd (aA x7 x2 (List.length s:Int)) x9).Cell==(rd (aA x7 x2 (List.length s:Int)) (aa (x9-1))).Cell)&&(((rd (aA x7 x2 (List.length s:Int)) x9).cO==(rd (aA x7 x2 (List.length s:Int)) (aa (x9-1))).cO)&&(((rd (aA x7 x2 (List.length s:Int)) x9).Key==(rd (aA x7 x2 (List.length s:Int)) (aa (x9-1))).Key)&&true))) J J J J PX ay J) (dh (rx T 1 (cb J Z8 (λZ8=>?_) (λZ8=>?_))))))
    ·refine rc T 6 (ix T J e7 iT (br J (fC T (cs:=[(ii (rd (aA x7 x2 (List.length s:Int)) x9).Cell),(ii (rd (aA x7 x2 (List.length s:Int)) x9).cO),(ii (rd (aA x7 x2 (List.length s:Int)) x9).Key)]) J J J J J J (iv (k:=cL) (nj (oO s5 1) zX s5.bT) e7 iT J)) ?_));obtain⟨jr,Z8⟩:=az Z8;obtain⟨q8,o8,e8⟩:=s5.r.addr jr.1 jr.2;refine ix T J e8 jr (aX (kX (k:=cL) T 1 0 (rd (aA x7 x2 (List.length s:Int)) x9) J J J J J J s5 e8 jr J J J (λH9 s9=>?_)));have Qp:(0<=x2/\x2<=(List.length s:Int)/\(List.length s:Int)<=(List.length (List.set x7 (Int.toNat x8) (rd (aA x7 x2 (List.length s:Int)) x9)):Int)):=by simp only[List.length_set];exact zX
     have Qq:(0<=x2/\x2<=(List.length s:Int)/\(List.length s:Int)<=(List.length (List.set x7 (Int.toNat x8) (rd (aA x7 x2 (List.length s:Int)) x9)):Int)):=by simp only[List.length_set];exact zX
     refine kf [3,5] [0,0] [(0,(ll a5 (List.set x7 (Int.toNat x8) (rd (aA x7 x2 (List.length s:Int)) x9)) n5)),(4,(ll (gm a5 n5 (Int.toNat x2) 3) (aA (List.set x7 (Int.toNat x8) (rd (aA x7 x2 (List.length s:Int)) x9)) x2 (List.length s:Int)) (n5-Int.toNat x2)))] J J ⟨dJ,(by simp only[ll];rw[i_ Qp,<-i_ zX];rfl),trivial⟩ (ro T 15 ?_)
     exact ar (_,_,_,_,_,_) [0,0] ⟨Z8,s9,Qp⟩ J J
    refine rc T 9 (ar (_,_,_,_,_,_) [0,0] ⟨Z8,s5,zX⟩ J J)
   refine rc T 9 ?_;obtain⟨pY,Z8⟩:=az Z8;refine br J (kE T J J J J J J pY s5.bT) ?_;have I9:(Int.toNat x8)+(List.length (aA x7 x8 (List.length x7:Int)))<=List.length x7:=(It pY);refine aX (ZB (k:=cL) (xs:=x7) (lo:=(Int.toNat x8)) (g:=1) T (default:a_) J J J J J J J J s5 (.inr J) I9 (λb_ bP=>?_));have Qr:(0<=x2/\x2<=(List.length s:Int)/\(List.length s:Int)<=(List.length (cm x7 (Int.toNat x8) (List.length (aA x7 x8 (List.length x7:Int))) (List.replicate (List.length (aA x7 x8 (List.length x7:Int))) (default:a_))):Int)):=by simp only[MI I9];exact zX
   have Jb:(0<=x8/\x8<=(List.length x7:Int)/\(List.length x7:Int)<=(List.length (cm x7 (Int.toNat x8) (List.length (aA x7 x8 (List.length x7:Int))) (List.replicate (List.length (aA x7 x8 (List.length x7:Int))) (default:a_))):Int)):=by simp only[MI I9];exact pY
   refine kf [3] [0,0] [(0,(ll a5 (cm x7 (Int.toNat x8) (List.length (aA x7 x8 (List.length x7:Int))) (List.replicate (List.length (aA x7 x8 (List.length x7:Int))) (default:a_))) n5))] J J ⟨(by first |rfl |(simp only[ll,MI I9];rfl)),trivial⟩ (ro T 6 ?_)
   obtain⟨F4,Z8⟩:=az Z8;refine br J (kE T J J J J J J F4 bP.bT) (ro T 9 ?_)
   cases Z8;exact p1 T J [1,0] ⟨(gm a5 n5 (Int.toNat 0) 3),(n5-Int.toNat 0),b_,(aj.pre bP F4),J,J⟩ J
  refine rc T 9 (ar _ [0,0] Z2 J J)
 refine rc T 12 ?_
 cases Z2;exact p1 T J [1,0] ⟨iF,iL,dQ,cX,J,J⟩ J
def kn.l0:Nat->List Int->Int->Option (List Int)
 |0,_,_=>none
 |k8+1,x6,x7=>if x7<(List.length x6:Int) then(if(0<=x7/\x7<=(List.length x6:Int)/\(List.length x6:Int)<=(List.length x6:Int)) then(if(0<=(0:Int)/\(0:Int)<=x7/\x7<=(List.length x6:Int)) then(kn.l0 k8 (cm x6 (Int.toNat x7) (min (List.length (aA x6 0 x7)) (List.length (aA x6 x7 (List.length x6:Int)))) (aA x6 0 x7)) (aa (x7+(((min (List.length (aA x6 0 x7)) (List.length (aA x6 x7 (List.length x6:Int)))):Nat):Int)))) else none) else none) else(some x6)
def kn.f (x:(List Int)) (count:Int):Option (List Int):=if count<0 then(none) else((tn.f (eQ (List.length x:Int)) (eQ count)).bind λv1=>if((decide (v1.1>0))||(decide (v1.2>9223372036854775807)))=true then(none) else(if(0<=(aa v1.2)/\(aa v1.2)<=1099511627776) then((kn.l0 fuel (cm (List.replicate (Int.toNat (aa v1.2)) (0:Int)) 0 (min (List.length x) (List.length (List.replicate (Int.toNat (aa v1.2)) (0:Int)))) x) (((min (List.length x) (List.length (List.replicate (Int.toNat (aa v1.2)) (0:Int)))):Nat):Int)).bind λx2=>some x2) else none))
def kn.R (r:(List Int)):bg:=λu G=> ∃a0 n0 H0,aj (Fl.int .i64) 3 r a0 n0 H0/\u=(ll a0 r n0)/\G=[H0]
theorem kn.c (H:kn.f x count=some r) (yX:aP (Fl.int .i64) x FO F) (Rm:List.length x<=HG):
 QR 248 [(ll FO x HG),(ii count)] [] [] F (kn.R r):=by
 unfold kn.f at H;refine aD Tryz.func248 J J (λW=>rc T 12 (cd J H (λH=>?_) (λH=>?_)))
 ·cases H
 refine rc T 9 (k [] J NL H (tn.c ·) (λv1 H=>ro T 13 (go T [3,4,5] 23 [0,6] 26 J J J J J J J (ro T 2 (cb J H (λH=>?_) (λH=>?_))))))
 ·cases H
 refine rc T 6 ?_;obtain⟨c4,H⟩:=az H;refine aX (yE (k:=(Fl.int .i64)) T (0:Int) J J J J J J J J c4 J (λa1 n1 H1 s1=>ro T 7 ?_));have L5:0+(List.length (List.replicate (Int.toNat (aa v1.2)) (0:Int)))<=List.length (List.replicate (Int.toNat (aa v1.2)) (0:Int)):=(M9 _);refine aX (B5 (k:=(Fl.int .i64)) (xs:=(List.replicate (Int.toNat (aa v1.2)) (0:Int))) (ys:=x) (lo:=0) (g:=1) T J J J J J J J J s1 (rO yX 0) (.inl ⟨J,J⟩) L5 (λH2 s2=>kf [33] [0,0] [(7,(ll a1 (cm (List.replicate (Int.toNat (aa v1.2)) (0:Int)) 0 (min (List.length x) (List.length (List.replicate (Int.toNat (aa v1.2)) (0:Int)))) x) n1))] J J ⟨(by first |rfl |(simp only[ll,l8 L5];rfl)),trivial⟩ (ro T 3 ?_)))
 refine mq H [] [0] (λz3 (⟨x2,a3,n3,H3⟩:List Int×Option Addr×Nat×Hp)=>(x2=z3/\aj (Fl.int .i64) 3 x2 a3 n3 H3,[(7,(ll a3 x2 n3))],[H3])) J J (λz3 Z6 _=>?_) ?_
 ·refine rc T 1 (lq [] [0] (λ(⟨k8,x6,x7,a5,n5,H5⟩:Nat×List Int×Int×Option Addr×Nat×Hp)=>(kn.l0 k8 x6 x7=some z3/\aj (Fl.int .i64) 3 x6 a5 n5 H5,[(7,(ll a5 x6 n5)),(8,(ii x7))],[H5])) J J (fuel,(cm (List.replicate (Int.toNat (aa v1.2)) (0:Int)) 0 (min (List.length x) (List.length (List.replicate (Int.toNat (aa v1.2)) (0:Int)))) x),(((min (List.length x) (List.length (List.replicate (Int.toNat (aa v1.2)) (0:Int)))):Nat):Int),a1,n1,H2) [0,0] ⟨Z6,s2⟩ J J ?_);rintro k8 ⟨x6,x7,a5,n5,H5⟩ ⟨Z7,s5⟩;rw[kn.l0] at Z7;refine rc T 9 (cd J Z7 (λZ7=>?_) (λZ7=>?_))
  ·refine rc T 3 (fz J (rz [7] mix (bO bN) (λhg pf=>ha T 7 [0,1,2] sz hg pf J ?_)));obtain⟨c9,Z7⟩:=az Z7;refine av 3 sz hg pf J (kE T J J J J J J c9 s5.bT) (ha T 4 [4,5] sz hg pf J ?_);obtain⟨iT,Z7⟩:=az Z7;refine av 6 sz hg pf J (kE T J J J J J J iT s5.bT) (ao 7 ?_);have sD:(Int.toNat x7)+(List.length (aA x6 x7 (List.length x6:Int)))<=List.length x6:=(It c9);refine B5 (k:=(Fl.int .i64)) (xs:=x6) (ys:=(aA x6 0 x7)) (lo:=(Int.toNat x7)) (g:=1) T J J J J J J J J s5 (nj (oO s5 1) iT s5.bT) (.inr J) sD (λH6 s6=>?_);have LY:(0<=x7/\x7<=(List.length x6:Int)/\(List.length x6:Int)<=(List.length (cm x6 (Int.toNat x7) (min (List.length (aA x6 0 x7)) (List.length (aA x6 x7 (List.length x6:Int)))) (aA x6 0 x7)):Int)):=by simp only[l8 sD];exact c9
   have LZ:(0<=(0:Int)/\(0:Int)<=x7/\x7<=(List.length (cm x6 (Int.toNat x7) (min (List.length (aA x6 0 x7)) (List.length (aA x6 x7 (List.length x6:Int)))) (aA x6 0 x7)):Int)):=by simp only[l8 sD];exact iT
   refine kf [8,37,38,40,43,45] [0,0] [(7,(ll a5 (cm x6 (Int.toNat x7) (min (List.length (aA x6 0 x7)) (List.length (aA x6 x7 (List.length x6:Int)))) (aA x6 0 x7)) n5)),(39,(ll a5 (cm x6 (Int.toNat x7) (min (List.length (aA x6 0 x7)) (List.length (aA x6 x7 (List.length x6:Int)))) (aA x6 0 x7)) n5)),(41,(ll (gm a5 n5 (Int.toNat x7) 1) (aA (cm x6 (Int.toNat x7) (min (List.length (aA x6 0 x7)) (List.length (aA x6 x7 (List.length x6:Int)))) (aA x6 0 x7)) x7 (List.length x6:Int)) (n5-Int.toNat x7))),(42,(ll a5 (cm x6 (Int.toNat x7) (min (List.length (aA x6 0 x7)) (List.length (aA x6 x7 (List.length x6:Int)))) (aA x6 0 x7)) n5)),(44,(ll (gm a5 n5 (Int.toNat 0) 1) (aA (cm x6 (Int.toNat x7) (min (List.length (aA x6 0 x7)) (List.length (aA x6 x7 (List.length x6:Int)))) (aA x6 0 x7)) 0 x7) (n5-Int.toNat 0)))] J J ⟨(by first |rfl |(simp only[ll,l8 sD];rfl)),(by first |rfl |(simp only[ll,l8 sD];rfl)),(by simp only[ll];rw[i_ LY,<-i_ c9];rfl),(by first |rfl |(simp only[ll,l8 sD];rfl)),(by simp only[ll];rw[i_ LZ,<-i_ iT];rfl),trivial⟩ (an sl (hb T 8 sl hg pf J (hb T 9 sl hg pf J (ae (rx T 2 ?_)))))
   exact ar (_,_,_,_,_) [0,0] ⟨Z7,s6⟩ J J
  refine rc T 5 (am (_,_,_,_) [0,0] ⟨oi Z7,s5⟩ J J)
 rintro _ ⟨x2,a3,n3,H3⟩ ⟨rfl,s3⟩ H;refine rc T 7 ?_
 cases H;exact p1 T J [1,0] ⟨a3,n3,H3,s3,J,J⟩ J
def pP.l0:Nat->List Int->Int->Option (List Int)
 |0,_,_=>none
 |k8+1,x6,x7=>if x7<(List.length x6:Int) then(if(0<=x7/\x7<=(List.length x6:Int)/\(List.length x6:Int)<=(List.length x6:Int)) then(if(0<=(0:Int)/\(0:Int)<=x7/\x7<=(List.length x6:Int)) then(pP.l0 k8 (cm x6 (Int.toNat x7) (min (List.length (aA x6 0 x7)) (List.length (aA x6 x7 (List.length x6:Int)))) (aA x6 0 x7)) (aa (x7+(((min (List.length (aA x6 0 x7)) (List.length (aA x6 x7 (List.length x6:Int)))):Nat):Int)))) else none) else none) else(some x6)
def pP.f (x:(List Int)) (count:Int):Option (List Int):=if count<0 then(none) else((tn.f (eQ (List.length x:Int)) (eQ count)).bind λv1=>if((decide (v1.1>0))||(decide (v1.2>9223372036854775807)))=true then(none) else(if(0<=(aa v1.2)/\(aa v1.2)<=1099511627776) then((pP.l0 fuel (cm (List.replicate (Int.toNat (aa v1.2)) (0:Int)) 0 (min (List.length x) (List.length (List.replicate (Int.toNat (aa v1.2)) (0:Int)))) x) (((min (List.length x) (List.length (List.replicate (Int.toNat (aa v1.2)) (0:Int)))):Nat):Int)).bind λx2=>some x2) else none))
def pP.R (r:(List Int)):bg:=λu G=> ∃a0 n0 H0,aj (Fl.int .i32) 21 r a0 n0 H0/\u=(ll a0 r n0)/\G=[H0]
theorem pP.c (H:pP.f x count=some r) (yX:aP (Fl.int .i32) x FO F) (Rm:List.length x<=HG):
 QR 212 [(ll FO x HG),(ii count)] [] [] F (pP.R r):=by
 unfold pP.f at H;refine aD Tryz.func212 J J (λW=>rc T 12 (cd J H (λH=>?_) (λH=>?_)))
 ·cases H
 refine rc T 9 (k [] J NL H (tn.c ·) (λv1 H=>ro T 13 (go T [3,4,5] 23 [0,6] 26 J J J J J J J (ro T 2 (cb J H (λH=>?_) (λH=>?_))))))
 ·cases H
 refine rc T 6 ?_;obtain⟨c4,H⟩:=az H;refine aX (yE (k:=(Fl.int .i32)) T (0:Int) J J J J J J J J c4 J (λa1 n1 H1 s1=>ro T 7 ?_));have L5:0+(List.length (List.replicate (Int.toNat (aa v1.2)) (0:Int)))<=List.length (List.replicate (Int.toNat (aa v1.2)) (0:Int)):=(M9 _);refine aX (B5 (k:=(Fl.int .i32)) (xs:=(List.replicate (Int.toNat (aa v1.2)) (0:Int))) (ys:=x) (lo:=0) (g:=1) T J J J J J J J J s1 (rO yX 0) (.inl ⟨J,J⟩) L5 (λH2 s2=>kf [33] [0,0] [(7,(ll a1 (cm (List.replicate (Int.toNat (aa v1.2)) (0:Int)) 0 (min (List.length x) (List.length (List.replicate (Int.toNat (aa v1.2)) (0:Int)))) x) n1))] J J ⟨(by first |rfl |(simp only[ll,l8 L5];rfl)),trivial⟩ (ro T 3 ?_)))
 refine mq H [] [0] (λz3 (⟨x2,a3,n3,H3⟩:List Int×Option Addr×Nat×Hp)=>(x2=z3/\aj (Fl.int .i32) 21 x2 a3 n3 H3,[(7,(ll a3 x2 n3))],[H3])) J J (λz3 Z6 _=>?_) ?_
 ·refine rc T 1 (lq [] [0] (λ(⟨k8,x6,x7,a5,n5,H5⟩:Nat×List Int×Int×Option Addr×Nat×Hp)=>(pP.l0 k8 x6 x7=some z3/\aj (Fl.int .i32) 21 x6 a5 n5 H5,[(7,(ll a5 x6 n5)),(8,(ii x7))],[H5])) J J (fuel,(cm (List.replicate (Int.toNat (aa v1.2)) (0:Int)) 0 (min (List.length x) (List.length (List.replicate (Int.toNat (aa v1.2)) (0:Int)))) x),(((min (List.length x) (List.length (List.replicate (Int.toNat (aa v1.2)) (0:Int)))):Nat):Int),a1,n1,H2) [0,0] ⟨Z6,s2⟩ J J ?_);rintro k8 ⟨x6,x7,a5,n5,H5⟩ ⟨Z7,s5⟩;rw[pP.l0] at Z7;refine rc T 9 (cd J Z7 (λZ7=>?_) (λZ7=>?_))
  ·refine rc T 3 (fz J (rz [7] mix (bO bN) (λhg pf=>ha T 7 [0,1,2] sz hg pf J ?_)));obtain⟨c9,Z7⟩:=az Z7;refine av 3 sz hg pf J (kE T J J J J J J c9 s5.bT) (ha T 4 [4,5] sz hg pf J ?_);obtain⟨iT,Z7⟩:=az Z7;refine av 6 sz hg pf J (kE T J J J J J J iT s5.bT) (ao 7 ?_);have sD:(Int.toNat x7)+(List.length (aA x6 x7 (List.length x6:Int)))<=List.length x6:=(It c9);refine B5 (k:=(Fl.int .i32)) (xs:=x6) (ys:=(aA x6 0 x7)) (lo:=(Int.toNat x7)) (g:=1) T J J J J J J J J s5 (nj (oO s5 1) iT s5.bT) (.inr J) sD (λH6 s6=>?_);have LY:(0<=x7/\x7<=(List.length x6:Int)/\(List.length x6:Int)<=(List.length (cm x6 (Int.toNat x7) (min (List.length (aA x6 0 x7)) (List.length (aA x6 x7 (List.length x6:Int)))) (aA x6 0 x7)):Int)):=by simp only[l8 sD];exact c9
   have LZ:(0<=(0:Int)/\(0:Int)<=x7/\x7<=(List.length (cm x6 (Int.toNat x7) (min (List.length (aA x6 0 x7)) (List.length (aA x6 x7 (List.length x6:Int)))) (aA x6 0 x7)):Int)):=by simp only[l8 sD];exact iT
   refine kf [8,37,38,40,43,45] [0,0] [(7,(ll a5 (cm x6 (Int.toNat x7) (min (List.length (aA x6 0 x7)) (List.length (aA x6 x7 (List.length x6:Int)))) (aA x6 0 x7)) n5)),(39,(ll a5 (cm x6 (Int.toNat x7) (min (List.length (aA x6 0 x7)) (List.length (aA x6 x7 (List.length x6:Int)))) (aA x6 0 x7)) n5)),(41,(ll (gm a5 n5 (Int.toNat x7) 1) (aA (cm x6 (Int.toNat x7) (min (List.length (aA x6 0 x7)) (List.length (aA x6 x7 (List.length x6:Int)))) (aA x6 0 x7)) x7 (List.length x6:Int)) (n5-Int.toNat x7))),(42,(ll a5 (cm x6 (Int.toNat x7) (min (List.length (aA x6 0 x7)) (List.length (aA x6 x7 (List.length x6:Int)))) (aA x6 0 x7)) n5)),(44,(ll (gm a5 n5 (Int.toNat 0) 1) (aA (cm x6 (Int.toNat x7) (min (List.length (aA x6 0 x7)) (List.length (aA x6 x7 (List.length x6:Int)))) (aA x6 0 x7)) 0 x7) (n5-Int.toNat 0)))] J J ⟨(by first |rfl |(simp only[ll,l8 sD];rfl)),(by first |rfl |(simp only[ll,l8 sD];rfl)),(by simp only[ll];rw[i_ LY,<-i_ c9];rfl),(by first |rfl |(simp only[ll,l8 sD];rfl)),(by simp only[ll];rw[i_ LZ,<-i_ iT];rfl),trivial⟩ (an sl (hb T 8 sl hg pf J (hb T 9 sl hg pf J (ae (rx T 2 ?_)))))
   exact ar (_,_,_,_,_) [0,0] ⟨Z7,s6⟩ J J
  refine rc T 5 (am (_,_,_,_) [0,0] ⟨oi Z7,s5⟩ J J)
 rintro _ ⟨x2,a3,n3,H3⟩ ⟨rfl,s3⟩ H;refine rc T 7 ?_
 cases H;exact p1 T J [1,0] ⟨a3,n3,H3,s3,J,J⟩ J
def qw.f (s:(List Int)):Option (List Int):=if(List.length ([]:List Int)+List.length s<=1099511627776) then(some (([]:List Int)++s)) else none
def qw.R (r:(List Int)):bg:=λu G=> ∃a0 n0 H0,aj (Fl.int .i64) 3 r a0 n0 H0/\u=(ll a0 r n0)/\G=[H0]
theorem qw.c (H:qw.f s=some r) (iW:aP (Fl.int .i64) s iF F) (qM:List.length s<=iL):
 QR 227 [(ll iF s iL)] [] [] F (qw.R r):=by
 unfold qw.f at H;refine aD Tryz.func227 J J (λW=>rc T 12 (Ao J (λc1=>?_) (λc1=>?_)))
 ·have hx:s=[]:=K2 iW c1;replace H:some []=some r:=by simpa[hx] using H
  refine rc T 7 ?_
  cases H;refine bq (p1 T J [1,0] ⟨none,0,[],aj.nil,J,J⟩ J)
 refine rc T 4 (aX (cY (k:=(Fl.int .i64)) T ([]:List Int) J J J J J J J J J (λa2 H2 s2=>ro T 1 ?_)));obtain⟨c2,H⟩:=az H;refine aX (dW (k:=(Fl.int .i64)) (xs:=([]:List Int)) T (g:=1) J J J J J J J J J J s2 (rO iW 0) c2 J (λa3 n3 H3 s3=>ro T 4 ?_))
 cases H;exact p1 T J [1,0] ⟨a3,n3,H3,s3,J,J⟩ J
def Bu.f (x:Int):Option Bool:=some (x !=x)
theorem Bu.c (H:Bu.f x=some r):
 QU 301 [(ii x)] [] F (bb r):=by
 unfold Bu.f at H;refine aD Tryz.func301 J J (λW=>rc T 14 ?_)
 cases H;exact p0 T J [0] J
def oR.l0:Nat->(List Int)->Int->Int->Int->Option Int
 |0,_,_,_,_=>none
 |k7+1,x,target,x5,x6=>if x5<x6 then(if(0<=(aa (Int.fdiv (eQ (aa (x5+x6))) (2^1)))/\(aa (Int.fdiv (eQ (aa (x5+x6))) (2^1)))<(List.length x:Int)) then((cmp_Less_int.f (rd x (aa (Int.fdiv (eQ (aa (x5+x6))) (2^1)))) target).bind λv8=>if v8=true then(oR.l0 k7 x target (aa ((aa (Int.fdiv (eQ (aa (x5+x6))) (2^1)))+1)) x6) else(oR.l0 k7 x target x5 (aa (Int.fdiv (eQ (aa (x5+x6))) (2^1))))) else none) else(some x5)
def oR.f (x:(List Int)) (target:Int):Option (Int×Bool):=(oR.l0 fuel x target 0 (List.length x:Int)).bind λx1=>(if x1<(List.length x:Int) then(if(0<=x1/\x1<(List.length x:Int)) then(if((rd x x1)==target)=true then(some true) else((Bu.f (rd x x1)).bind λv11=>if v11=true then((Bu.f target).bind λv12=>some v12) else(some false))) else none) else(some false)).bind λx9=>some (x1,x9)
theorem oR.c (H:oR.f x target=some r) (yX:aP (Fl.int .i64) x FO F) (Rm:List.length x<=HG):
 QU 289 [(ll FO x HG),(ii target)] [] F (.tuple #[(ii r.1),(bb r.2)]):=by
 unfold oR.f at H;refine aD Tryz.func289 J J (λW=>rc T 20 (mq H [0,1,6] [0] (λz2 (x1:Int)=>(x1=z2,[(7,(ii x1))],[])) J J (λz2 Z1 _=>?_) ?_))
 ·refine rc T 1 (lq [0,1,6] [0] (λ(⟨k7,x5,x6⟩:Nat×Int×Int)=>(oR.l0 k7 x target x5 x6=some z2,[(7,(ii x5)),(8,(ii x6))],[])) J J (fuel,0,(List.length x:Int)) [0] Z1 J J ?_);rintro k7 ⟨x5,x6⟩ Z2;replace Z2:oR.l0 (k7+1) x target x5 x6=some z2:=Z2;rw[oR.l0] at Z2;refine rc T 8 (cd J Z2 (λZ2=>?_) (λZ2=>?_))
  ·refine rc T 18 ?_;obtain⟨c4,Z2⟩:=az Z2;obtain⟨q1,o1,e1⟩:=yX.addr c4.1 c4.2;refine ix T J e1 c4 (le T 0 (rO yX 0) e1 c4 J J (ro T 1 (k [] J aei Z2 (cmp_Less_int.c ·) (λv8 Z2=>ro T 2 (cb J Z2 (λZ2=>?_) (λZ2=>?_))))))
   ·refine rc T 7 (ar (_,_) [0] Z2 J J)
   refine rc T 6 (ar (_,_) [0] Z2 J J)
  refine rc T 5 (am _ [0] (oi Z2) J J)
 rintro _ x1 rfl H;refine mq H [] [0] (λoo (x9:Bool)=>(x9=oo,[(4,(ii x1)),(5,(bb x9))],[])) J J (λoo Z7 _=>?_) ?_
 ·refine rc T 6 (ad 35 J Z7 (λZ7=>?_) (λZ7=>?_))
  ·refine ro T 2 ?_;obtain⟨c9,Z7⟩:=az Z7;obtain⟨q2,o2,e2⟩:=yX.addr c9.1 c9.2;refine ix T J e2 c9 (le T 0 (rO yX 0) e2 c9 J J (ro T 3 (ab 42 J Z7 (λZ7=>?_) (λZ7=>?_))))
   ·refine ro T 15 (am _ [0] (oi Z7) J J)
   refine ro T 2 (ix T J e2 c9 (le T 0 (rO yX 0) e2 c9 J J (k [] J TV Z7 (Bu.c ·) (λv11 Z7=>ro T 1 (ab 48 J Z7 (λZ7=>?_) (λZ7=>?_))))))
   ·refine ro T 1 (k [] J TV Z7 (Bu.c ·) (λv12 Z7=>ro T 7 (am _ [0] (oi Z7) J J)))
   refine ro T 9 (am _ [0] (oi Z7) J J)
  refine ro T 22 (am _ [0] (oi Z7) J J)
 rintro _ x9 rfl H;refine rc T 1 ?_
 cases H;exact p0 T J [0] J
def ri.l0:Nat->(List a_)->(List a_)->Int->Option Bool
 |0,_,_,_=>none
 |k3+1,ag,ai,x2=>if x2<(List.length ag:Int) then(if(0<=x2/\x2<(List.length ag:Int)) then(if(0<=x2/\x2<(List.length ai:Int)) then(if(!(((rd ag x2).Cell==(rd ai x2).Cell)&&(((rd ag x2).cO==(rd ai x2).cO)&&(((rd ag x2).Key==(rd ai x2).Key)&&true))))=true then(some false) else(ri.l0 k3 ag ai (aa (x2+1)))) else none) else none) else(some true)
def ri.f (ag:(List a_)) (ai:(List a_)):Option Bool:=if((List.length ag:Int)!=(List.length ai:Int))=true then(some false) else(ri.l0 fuel ag ai 0)
theorem ri.c (H:ri.f ag ai=some r) (AM:aP cL ag Ma F) (aaR:List.length ag<=OV) (S5:aP cL ai YP F) (akh:List.length ai<=agS):
 QU 226 [(ll Ma ag OV),(ll YP ai agS)] [] F (bb r):=by
 unfold ri.f at H;refine aD Tryz.func226 J J (λW=>rc T 15 (cb J H (λH=>?_) (λH=>?_)))
 ·refine rc T 7 ?_
  cases H;exact p0 T J [0] J
 refine rc T 11 (lq [0,1,12] [0] (λ(⟨k3,x2⟩:Nat×Int)=>(ri.l0 k3 ag ai x2=some r,[(13,(ii x2))],[])) J J (fuel,0) [0] H J J ?_);rintro k3 x2 Z2;replace Z2:ri.l0 (k3+1) ag ai x2=some r:=Z2;rw[ri.l0] at Z2;refine rc T 6 (cd J Z2 (λZ2=>?_) (λZ2=>?_))
 ·refine rc T 11 (dx mix ay (au T J (au T J ?_)));obtain⟨c4,Z2⟩:=az Z2;obtain⟨q1,o1,e1⟩:=AM.addr c4.1 c4.2;refine aO J J J (cC T J J J J J e1 c4.1 c4.2) (aO J J J (fC T (cs:=[(ii (rd ag x2).Cell),(ii (rd ag x2).cO),(ii (rd ag x2).Key)]) J J J J J J (iv (k:=cL) (rO AM 0) e1 c4 J)) (au T J (au T J ?_)));obtain⟨c5,Z2⟩:=az Z2;obtain⟨q2,o2,e2⟩:=S5.addr c5.1 c5.2;refine aO J J J (cC T J J J J J e2 c5.1 c5.2) (aO J J J (fC T (cs:=[(ii (rd ai x2).Cell),(ii (rd ai x2).cO),(ii (rd ai x2).Key)]) J J J J J J (iv (k:=cL) (rO S5 0) e2 c5 J)) (aO J J J (M_ T (((rd ag x2).Cell==(rd ai x2).Cell)&&(((rd ag x2).cO==(rd ai x2).cO)&&(((rd ag x2).Key==(rd ai x2).Key)&&true))) J J J J PX ay J) (dh (rx T 1 (cb J Z2 (λZ2=>?_) (λZ2=>?_))))))
  ·refine rc T 11 ?_
   cases Z2;exact p0 T J [0] J
  refine rc T 8 (ar _ [0] Z2 J J)
 refine rc T 11 ?_
 cases Z2;exact p0 T J [0] J
def zS.f (s:(List Int)):Option (List Int):=if(List.length ([]:List Int)+List.length s<=1099511627776) then(some (([]:List Int)++s)) else none
def zS.R (r:(List Int)):bg:=λu G=> ∃a0 n0 H0,aj (Fl.int .u32) 65 r a0 n0 H0/\u=(ll a0 r n0)/\G=[H0]
theorem zS.c (H:zS.f s=some r) (iW:aP (Fl.int .u32) s iF F) (qM:List.length s<=iL):
 QR 138 [(ll iF s iL)] [] [] F (zS.R r):=by
 unfold zS.f at H;refine aD Tryz.func138 J J (λW=>rc T 12 (Ao J (λc1=>?_) (λc1=>?_)))
 ·have hx:s=[]:=K2 iW c1;replace H:some []=some r:=by simpa[hx] using H
  refine rc T 7 ?_
  cases H;refine bq (p1 T J [1,0] ⟨none,0,[],aj.nil,J,J⟩ J)
 refine rc T 4 (aX (cY (k:=(Fl.int .u32)) T ([]:List Int) J J J J J J J J J (λa2 H2 s2=>ro T 1 ?_)));obtain⟨c2,H⟩:=az H;refine aX (dW (k:=(Fl.int .u32)) (xs:=([]:List Int)) T (g:=1) J J J J J J J J J J s2 (rO iW 0) c2 J (λa3 n3 H3 s3=>ro T 4 ?_))
 cases H;exact p1 T J [1,0] ⟨a3,n3,H3,s3,J,J⟩ J
end
noncomputable section
def BE.f (n:Int):Option Bool:=some ((decide (n≥1))&&(decide (n<=16)))
theorem BE.c (H:BE.f n=some r):
 QU 245 [(ii n)] [] F (bb r):=by
 unfold BE.f at H;refine aD Tryz.func245 J J (λW=>rc T 10 (ga T [3,4,5] 5 [] 8 J J J J J J J (ro T 4 ?_)))
 cases H;exact p0 T J [0] J
def uh.f (t:aL):Option Bool:=((BE.f t.W).bind λv3=>if v3=true then((BE.f t.H).bind λv4=>if v4=true then(if((List.length t.C:Int)==(aa (t.W*t.H)))=true then((wI.f t.C 0).bind λv5=>some (!v5)) else(some false)) else(some false)) else(some false)).bind λx1=>some x1
theorem uh.c (H:uh.f t=some r) (dR:aP (Fl.int .u8) t.C iG F) (fw:List.length t.C<=iM):
 QU 220 [(.agg #[(ii t.W),(ii t.H),(ll iG t.C iM)])] [] F (bb r):=by
 unfold uh.f at H;refine aD Tryz.func220 J J (λW=>rc T 2 (nc T J (λb1=>ro T 3 (mq H [] [0] (λz2 (x1:Bool)=>(x1=z2,[(2,(bb x1))],[])) J J (λz2 Z1 _=>?_) ?_))))
 ·refine rc T 2 (lf T 1 J (k [] J TM Z1 (BE.c ·) (λv3 Z1=>ro T 1 (ab 6 J Z1 (λZ1=>?_) (λZ1=>?_)))))
  ·refine ro T 1 (lf T 1 J (k [] J TM Z1 (BE.c ·) (λv4 Z1=>ro T 2 (ab 11 J Z1 (λZ1=>?_) (λZ1=>?_)))))
   ·refine ro T 1 (lf T 1 J (ro T 2 (lf T 1 J (ro T 1 (lf T 1 J (ro T 4 (ab 22 J Z1 (λZ1=>?_) (λZ1=>?_))))))))
    ·refine ro T 1 (lf T 1 J (k [] J NH Z1 (wI.c · (rO dR 0) fw) (λv5 Z1=>ro T 5 (am _ [0] (oi Z1) J J))))
    refine ro T 8 (am _ [0] (oi Z1) J J)
   refine ro T 19 (am _ [0] (oi Z1) J J)
  refine ro T 24 (am _ [0] (oi Z1) J J)
 rintro _ x1 rfl H;refine rc T 1 ?_
 cases H;exact p0 T J [0] J
def Fk.f (t:aL) (ai:Int):Option Bool:=(if ai≥0 then(if ai<(List.length t.C:Int) then((uh.f t).bind λv3=>some v3) else(some false)) else(some false)).bind λx1=>some x1
theorem Fk.c (H:Fk.f t ai=some r) (dR:aP (Fl.int .u8) t.C iG F) (fw:List.length t.C<=iM):
 QU 299 [(.agg #[(ii t.W),(ii t.H),(ll iG t.C iM)]),(ii ai)] [] F (bb r):=by
 unfold Fk.f at H;refine aD Tryz.func299 J J (λW=>rc T 2 (nc T J (λb1=>ro T 3 (mq H [] [0] (λz2 (x1:Bool)=>(x1=z2,[(4,(bb x1))],[])) J J (λz2 Z1 _=>?_) ?_))))
 ·refine rc T 4 (ad 7 J Z1 (λZ1=>?_) (λZ1=>?_))
  ·refine ro T 2 (lf T 1 J (ro T 4 (ad 14 J Z1 (λZ1=>?_) (λZ1=>?_))))
   ·refine lm T 1 J (k [] J J9 Z1 (uh.c · (rO dR 0) fw) (λv3 Z1=>ro T 4 (am _ [0] (oi Z1) J J)))
   refine ro T 6 (am _ [0] (oi Z1) J J)
  refine ro T 13 (am _ [0] (oi Z1) J J)
 rintro _ x1 rfl H;refine rc T 1 ?_
 cases H;exact p0 T J [0] J
def BD.f (t:aL) (ai:Int):Option Int:=(Fk.f t ai).bind λv1=>if(!v1)=true then(some 0) else(if(0<=ai/\ai<(List.length t.C:Int)) then(some (aa (rd t.C ai))) else none)
theorem BD.c (H:BD.f t ai=some r) (dR:aP (Fl.int .u8) t.C iG F) (fw:List.length t.C<=iM):
 QU 288 [(.agg #[(ii t.W),(ii t.H),(ll iG t.C iM)]),(ii ai)] [] F (ii r):=by
 unfold BD.f at H;refine aD Tryz.func288 J J (λW=>rc T 2 (nc T J (λb1=>ro T 6 (lm T 1 J (ro T 1 (k [] J aeh H (Fk.c · (rO dR 0) fw) (λv1 H=>ro T 3 (cb J H (λH=>?_) (λH=>?_)))))))))
 ·refine rc T 7 ?_
  cases H;exact p0 T J [0] J
 refine rc T 5 (lf T 1 J (ro T 1 ?_));obtain⟨c3,H⟩:=az H;obtain⟨q2,o2,e2⟩:=dR.addr c3.1 c3.2;refine ix T J e2 c3 (le T 0 (rO dR 0) e2 c3 J J (ro T 5 ?_))
 cases H;exact p0 T J [0] J
end
end Go.Proofs.YthodkonhneebbaaGreatDoor
