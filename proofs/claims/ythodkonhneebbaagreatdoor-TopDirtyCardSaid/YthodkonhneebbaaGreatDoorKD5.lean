/- What the functions of some packages compute, each as a function of plain Lean, with its contract. No condition. -/
import Derived.Test.YthodkonhneebbaaGreatDoorKDT
namespace Go.Proofs.YthodkonhneebbaaGreatDoor
open Go.Hx
set_option maxRecDepth 100000
set_option linter.unusedSimpArgs false
set_option linter.unusedVariables false
set_option maxHeartbeats 4000000
set_option autoImplicit true
set_option relaxedAutoImplicit true
noncomputable section
def fv.f (n:Int) (lo:Int) (hi:Int):Option Int:=if(¬(aa ((aa (hi-lo))+1))=0) then(if(Int.tmod n (aa ((aa (hi-lo))+1)))<0 then(some (aa (lo+(aa ((aa ((aa ((Int.tmod n (aa ((aa (hi-lo))+1)))+hi))-lo))+1))))) else(some (aa (lo+(Int.tmod n (aa ((aa (hi-lo))+1))))))) else none
theorem fv.c (H:fv.f n lo hi=some r):
 QU 12 [(ii n),(ii lo),(ii hi)] [] F (ii r):=by
 unfold fv.f at H;refine aD Tryz.func12 J J (λW=>rc T 12 ?_);obtain⟨c1,H⟩:=az H;refine br J (vp J J J c1) (ro T 10 (cd J H (λH=>?_) (λH=>?_)))
 ·refine rc T 19 ?_
  cases H;exact p0 T J [0] J
 refine rc T 11 ?_
 cases H;exact p0 T J [0] J
def vW.f (x:Int):Option Int:=if((Int.tmod x 8)==7)=true then(some 255) else(if x<160 then(some (bS (1+(Int.tmod x 4)))) else(some x))
theorem vW.c (H:vW.f x=some r):
 QU 49 [(.int .u8 x)] [] F (.int .u8 r):=by
 unfold vW.f at H;refine aD Tryz.func49 J J (λW=>rc T 13 (cb J H (λH=>?_) (λH=>?_)))
 ·refine rc T 7 ?_
  cases H;exact p0 T J [0] J
 refine rc T 9 (cd J H (λH=>?_) (λH=>?_))
 ·refine rc T 10 ?_
  cases H;exact p0 T J [0] J
 refine rc T 9 ?_
 cases H;exact p0 T J [0] J
def kZ.l0:Nat->(List Int)->Int->Int->List Int->Int->Option aL
 |0,_,_,_,_,_=>none
 |k7+1,p2,v1,v2,x5,x6=>if x6<(aa (v1*v2)) then(if(List.length p2:Int)>0 then(if(¬(List.length p2:Int)=0) then(if(¬(List.length p2:Int)=0) then(if(0<=(Int.tmod (aa (x6+(aa ((aa (Int.tdiv x6 (List.length p2:Int)))*5)))) (List.length p2:Int))/\(Int.tmod (aa (x6+(aa ((aa (Int.tdiv x6 (List.length p2:Int)))*5)))) (List.length p2:Int))<(List.length p2:Int)) then((vW.f (rd p2 (Int.tmod (aa (x6+(aa ((aa (Int.tdiv x6 (List.length p2:Int)))*5)))) (List.length p2:Int)))).bind λv8=>if(List.length x5+1<=1099511627776) then(kZ.l0 k7 p2 v1 v2 (x5++[v8]) (aa (x6+1))) else none) else none) else none) else none) else((vW.f 1).bind λv9=>if(List.length x5+1<=1099511627776) then(kZ.l0 k7 p2 v1 v2 (x5++[v9]) (aa (x6+1))) else none)) else(some (aL.mk v1 v2 x5))
def kZ.f (w:Int) (h:Int) (p2:(List Int)):Option aL:=(fv.f w 1 40).bind λv1=>(fv.f h 1 40).bind λv2=>kZ.l0 fuel p2 v1 v2 [] 0
def kZ.R (r:aL) (u:Value) (G:List Hp):Prop:= ∃(a0:Option Addr) (n0:Nat) (H0:Hp),aj (Fl.int .u8) 5 r.C a0 n0 H0/\u=(.agg #[(ii r.W),(ii r.H),(ll a0 r.C n0)])/\G=[H0]
theorem kZ.c (H:kZ.f w h p2=some r) (B4:aT (Fl.int .u8) p2 Fg F) (FE:List.length p2<=G7):
 QR 48 [(ii w),(ii h),(ll Fg p2 G7)] [] [] F (kZ.R r):=by
 unfold kZ.f at H;refine aD Tryz.func48 J J (λW=>rc T 2 (nc T J (λb1=>ro T 5 (k [] J lZ H (fv.c ·) (λv1 H=>ro T 1 (k [] J lZ H (fv.c ·) (λv2 H=>ro T 1 (nc T J (λb2=>sg T 2 J (ro T 9 (bw (lq [2,6,7] [0,0] (λ(⟨k7,x5,x6,a4,n4,H4⟩:Nat×List Int×Int×Option Addr×Nat×Hp)=>(kZ.l0 k7 p2 v1 v2 x5 x6=some r/\aj (Fl.int .u8) 5 x5 a4 n4 H4,[(8,(ii x6))],[(cl b2 30 [(ii v1),(ii v2),(ll a4 x5 n4)]),H4])) J J (fuel,[],0,none,0,[]) [0,0,0,0] ⟨H,aj.nil⟩ J J ?_))))))))))));rintro k7 ⟨x5,x6,a4,n4,H4⟩ ⟨Z3,s4⟩;rw[kZ.l0] at Z3;refine rc T 5 (lf T 2 J (ro T 1 (lf T 2 J (ro T 4 (cd J Z3 (λZ3=>?_) (λZ3=>?_))))))
 ·refine rc T 23 (cd J Z3 (λZ3=>?_) (λZ3=>?_))
  ·refine rc T 5 ?_;obtain⟨c6,Z3⟩:=az Z3;refine br J (vn J J J c6) (ro T 3 ?_);obtain⟨c7,Z3⟩:=az Z3;refine br J (vp J J J c7) ?_;obtain⟨c8,Z3⟩:=az Z3;obtain⟨q5,o5,e5⟩:=B4.addr c8.1 c8.2;refine ix T J e5 c8 (le T 0 (rO B4 0) e5 c8 J J (ro T 3 (fz J (rg [5,7] [0,0,0,0] mix (bP bO) (λhg pf=>ha T 7 [0] sz hg pf J (av 1 sz hg pf J (aw T J J J J (aH (j:=2) J J)) (ha T 5 [2] sz hg pf J (ao 3 (kh [] J Nx Z3 (vW.c ·) (λv8 Z3=>an sz (ao 4 (cU (k:=(Fl.int .u8)) T [v8] J J J J J J J J J (λa6 H6 s6=>an (so [0,0,0,0]) (ao 5 ?_))))))))))))));obtain⟨iG,Z3⟩:=az Z3;refine d_ (k:=(Fl.int .u8)) (xs:=x5) T (g:=3) J J J J J J J J J J s4 (oO s6 4) iG J (λa7 n7 H7 s7=>an sl (hb T 6 sl hg pf J (ao 7 (sf T 2 J (an sl (ae (rx T 8 (ar (_,_,_,_,_) [0,0,0,0] ⟨Z3,s7⟩ J J))))))))
  refine rc T 2 (fz J (rg [5,7] [0,0,0,0] mix (bP bO) (λhg pf=>ha T 7 [0] sz hg pf J (av 1 sz hg pf J (aw T J J J J (aH (j:=2) J J)) (ha T 5 [2] sz hg pf J (ao 3 (kh [] J Nx Z3 (vW.c ·) (λv9 Z3=>an sz (ao 4 (cU (k:=(Fl.int .u8)) T [v9] J J J J J J J J J (λa8 H8 s8=>an (so [0,0,0,0]) (ao 5 ?_))))))))))));obtain⟨gU,Z3⟩:=az Z3;refine d_ (k:=(Fl.int .u8)) (xs:=x5) T (g:=3) J J J J J J J J J J s4 (oO s8 4) gU J (λa9 n9 H9 s9=>an sl (hb T 6 sl hg pf J (ao 7 (sf T 2 J (an sl (ae (rx T 8 (ar (_,_,_,_,_) [0,0,0,0] ⟨Z3,s9⟩ J J))))))))
 refine rc T 7 (lm T 2 J (sg T 1 J (ro T 3 ?_)))
 cases Z3;exact pb T J (.cK (j:=1) [(ii v1),(ii v2),(ll a4 x5 n4)] J J J J J J J .nil) [3,0] ⟨(_,_),a4,n4,H4,s4,J,J⟩ J J
def sW.f (n:Int) (lo:Int) (hi:Int):Option Bool:=some ((decide (n≥lo))&&(decide (n<=hi)))
theorem sW.c (H:sW.f n lo hi=some r):
 QU 47 [(ii n),(ii lo),(ii hi)] [] F (bb r):=by
 unfold sW.f at H;refine aD Tryz.func47 J J (λW=>rc T 11 (ga T [4,5,6,7] 10 [] 14 J J J J J J J (ro T 4 ?_)))
 cases H;exact p0 T J [0] J
def CW.f (w:Int) (h:Int):Option Bool:=((sW.f w 1 1024).bind λv3=>if v3=true then((sW.f h 1 1024).bind λv4=>some v4) else(some false)).bind λx1=>some x1
theorem CW.c (H:CW.f w h=some r):
 QU 67 [(ii w),(ii h)] [] F (bb r):=by
 unfold CW.f at H;refine aD Tryz.func67 J J (λW=>rc T 5 (mq H [] [0] (λz2 (x1:Bool)=>(x1=z2,[(4,(bb x1))],[])) J J (λz2 Z1 _=>?_) ?_))
 ·refine rc T 2 (k [] J JJ Z1 (sW.c ·) (λv3 Z1=>ro T 1 (ab 7 J Z1 (λZ1=>?_) (λZ1=>?_))))
  ·refine ro T 1 (k [] J JJ Z1 (sW.c ·) (λv4 Z1=>ro T 4 (am _ [0] (oi Z1) J J)))
  refine ro T 6 (am _ [0] (oi Z1) J J)
 rintro _ x1 rfl H;refine rc T 1 ?_
 cases H;exact p0 T J [0] J
def vY.f (w:Int) (h:Int):Option (Int×Int):=(CW.f w h).bind λv1=>if(!v1)=true then(some (0,0)) else(some ((aa (Int.tdiv (aa ((aa (w+16))-1)) 16)),(aa (Int.tdiv (aa ((aa (h+16))-1)) 16))))
theorem vY.c (H:vY.f w h=some r):
 QU 57 [(ii w),(ii h)] [] F (.tuple #[(ii r.1),(ii r.2)]):=by
 unfold vY.f at H;refine aD Tryz.func57 J J (λW=>rc T 11 (k [] J ad3 H (CW.c ·) (λv1 H=>ro T 3 (cb J H (λH=>?_) (λH=>?_)))))
 ·refine rc T 8 ?_
  cases H;exact p0 T J [0] J
 refine rc T 17 ?_
 cases H;exact p0 T J [0] J
def vX.f (w:Int) (h:Int):Option Int:=(vY.f w h).bind λv1=>some (aa (v1.1*v1.2))
theorem vX.c (H:vX.f w h=some r):
 QU 25 [(ii w),(ii h)] [] F (ii r):=by
 unfold vX.f at H;refine aD Tryz.func25 J J (λW=>rc T 9 (k [] J Ny H (vY.c ·) (λv1 H=>ro T 16 ?_)))
 cases H;exact p0 T J [0] J
def zq.f (w:Int) (h:Int) (s:Int):Option (Int×Int):=(vX.f w h).bind λv1=>(sW.f s 0 (aa (v1-1))).bind λv2=>if(!v2)=true then(some (0,0)) else((vY.f w h).bind λv3=>if(¬v3.1=0) then(if(¬v3.1=0) then(some ((if(aa (w-(aa (16*(Int.tmod s v3.1)))))<16 then(aa (w-(aa (16*(Int.tmod s v3.1))))) else 16),(if(aa (h-(aa (16*(aa (Int.tdiv s v3.1))))))<16 then(aa (h-(aa (16*(aa (Int.tdiv s v3.1)))))) else 16))) else none) else none)
theorem zq.c (H:zq.f w h s=some r):
 QU 70 [(ii w),(ii h),(ii s)] [] F (.tuple #[(ii r.1),(ii r.2)]):=by
 unfold zq.f at H;refine aD Tryz.func70 J J (λW=>rc T 12 (k [] J Nq H (vX.c ·) (λv1 H=>ro T 1 (k [] J JJ H (sW.c ·) (λv2 H=>ro T 3 (cb J H (λH=>?_) (λH=>?_)))))))
 ·refine rc T 8 ?_
  cases H;exact p0 T J [0] J
 refine rc T 6 (k [] J Ny H (vY.c ·) (λv3 H=>ro T 8 (du mix ay (au T J (au T J (au T J ?_))))));obtain⟨c5,H⟩:=az H;refine aO J J J (vp J J J c5) ?_
 iterate 6 refine au T J ?_
 obtain⟨c6,H⟩:=az H;refine aO J J J (vn J J J c6) ?_
 iterate 5 refine au T J ?_
 refine cZ (rx T 2 ?_)
 cases H;exact p0 T J [0] J
def CV.f (w:Int) (h:Int) (s:Int) (l:Int):Option Int:=(zq.f w h s).bind λv1=>(sW.f l 0 (aa ((aa (v1.1*v1.2))-1))).bind λv2=>if(!v2)=true then(some (-1)) else((vY.f w h).bind λv3=>if(¬v3.1=0) then(if(¬v1.1=0) then(if(¬v3.1=0) then(if(¬v1.1=0) then(some (aa ((aa ((aa ((aa ((aa (16*(aa (Int.tdiv s v3.1))))+(aa (Int.tdiv l v1.1))))*w))+(aa (16*(Int.tmod s v3.1)))))+(Int.tmod l v1.1)))) else none) else none) else none) else none)
theorem CV.c (H:CV.f w h s l=some r):
 QU 71 [(ii w),(ii h),(ii s),(ii l)] [] F (ii r):=by
 unfold CV.f at H;refine aD Tryz.func71 J J (λW=>rc T 10 (k [] J TI H (zq.c ·) (λv1 H=>ro T 15 (k [] J JJ H (sW.c ·) (λv2 H=>ro T 3 (cb J H (λH=>?_) (λH=>?_)))))))
 ·refine rc T 7 ?_
  cases H;exact p0 T J [0] J
 refine rc T 6 (k [] J Ny H (vY.c ·) (λv3 H=>ro T 8 (du mix ay (au T J (au T J ?_)))));obtain⟨c5,H⟩:=az H;refine aO J J J (vn J J J c5) (au T J (au T J (au T J ?_)));obtain⟨c6,H⟩:=az H;refine aO J J J (vn J J J c6) ?_
 iterate 5 refine au T J ?_
 obtain⟨c7,H⟩:=az H;refine aO J J J (vp J J J c7) ?_
 iterate 4 refine au T J ?_
 obtain⟨c8,H⟩:=az H;refine aO J J J (vp J J J c8) (au T J (au T J (cZ (rx T 2 ?_))))
 cases H;exact p0 T J [0] J
def nK.l0:Nat->aL->Int->(Int×Int)->List Int->Int->Option aL
 |0,_,_,_,_,_=>none
 |k6+1,m,s,v1,x4,x5=>if x5<(aa (v1.1*v1.2)) then((CV.f m.W m.H s x5).bind λv7=>if(0<=v7/\v7<(List.length m.C:Int)) then(if(List.length x4+1<=1099511627776) then(nK.l0 k6 m s v1 (x4++[(rd m.C v7)]) (aa (x5+1))) else none) else none) else(some (aL.mk v1.1 v1.2 x4))
def nK.f (m:aL) (s:Int):Option aL:=(zq.f m.W m.H s).bind λv1=>nK.l0 fuel m s v1 [] 0
def nK.R (r:aL) (u:Value) (G:List Hp):Prop:= ∃(a0:Option Addr) (n0:Nat) (H0:Hp),aj (Fl.int .u8) 5 r.C a0 n0 H0/\u=(.agg #[(ii r.W),(ii r.H),(ll a0 r.C n0)])/\G=[H0]
theorem nK.c (H:nK.f m s=some r) (sI:aT (Fl.int .u8) m.C oW F) (va:List.length m.C<=oC):
 QR 76 [(.agg #[(ii m.W),(ii m.H),(ll oW m.C oC)]),(ii s)] [] [] F (nK.R r):=by
 unfold nK.f at H;refine aD Tryz.func76 J J (λW=>rc T 2 (nc T J (λb1=>nc T J (λb2=>ro T 5 (lf T 1 J (ro T 1 (lf T 1 J (ro T 1 (k [] J TI H (zq.c ·) (λv1 H=>ro T 12 (nc T J (λb3=>sg T 3 J (ro T 9 (bw (lq [1,2,4,5,6,7] [0,0,0] (λ(⟨k6,x4,x5,a5,n5,H5⟩:Nat×List Int×Int×Option Addr×Nat×Hp)=>(nK.l0 k6 m s v1 x4 x5=some r/\aj (Fl.int .u8) 5 x4 a5 n5 H5,[(8,(ii x5))],[(cl b3 139 [(ii v1.1),(ii v1.2),(ll a5 x4 n5)]),H5])) J J (fuel,[],0,none,0,[]) [0,0,0,0,0] ⟨H,aj.nil⟩ J J ?_)))))))))))))));rintro k6 ⟨x4,x5,a5,n5,H5⟩ ⟨Z2,s5⟩;rw[nK.l0] at Z2;refine rc T 10 (cd J Z2 (λZ2=>?_) (λZ2=>?_))
 ·refine rc T 4 (fz J (rg [14,16] [0,0,0,0,0] mix (bP bO) (λhg pf=>ha T 16 [0] sz hg pf J (av 1 sz hg pf J (aw T J J J J (aH (j:=3) J J)) (ha T 14 [2] sz hg pf J (av 3 sz hg pf J (aw T J J J J (aH (j:=1) J J)) (ha T 12 [4] sz hg pf J (av 5 sz hg pf J (aw T J J J J (aH (j:=1) J J)) (ha T 10 [6] sz hg pf J (av 7 sz hg pf J (aw T J J J J (aH (j:=1) J J)) (ha T 7 [8,9] sz hg pf J (ao 10 (kh [] J ad4 Z2 (CV.c ·) (λv7 Z2=>an sz ?_))))))))))))));obtain⟨c5,Z2⟩:=az Z2;obtain⟨q6,o6,e6⟩:=sI.addr c5.1 c5.2;refine av 11 sz hg pf J (cO T J J J J J e6 c5.1 c5.2) (av 12 sz hg pf J (aw T J J J J (iU (k:=(Fl.int .u8)) (rO sI 0) e6 c5 0 J)) (ao 13 (cU (k:=(Fl.int .u8)) T [(rd m.C v7)] J J J J J J J J J (λa7 H7 s7=>an (so [0,0,0,0,0]) (ao 14 ?_)))));obtain⟨c6,Z2⟩:=az Z2;refine d_ (k:=(Fl.int .u8)) (xs:=x4) T (g:=4) J J J J J J J J J J s5 (oO s7 5) c6 J (λa8 n8 H8 s8=>an sl (hb T 15 sl hg pf J (ao 16 (sf T 3 J (an sl (ae (rx T 8 (ar (_,_,_,_,_) [0,0,0,0,0] ⟨Z2,s8⟩ J J))))))))
 refine rc T 7 (lm T 3 J (sg T 2 J (ro T 3 ?_)))
 cases Z2;exact pb T J (.cK (j:=2) [(ii v1.1),(ii v1.2),(ll a5 x4 n5)] J J J J J J J .nil) [4,0] ⟨(_,_),a5,n5,H5,s5,J,J⟩ J J
def iw.l1:Nat->(List Int)->Int->Int->Option Int
 |0,_,_,_=>none
 |uk+1,ag,x4,bo=>(if(aa (x4+bo))<(List.length ag:Int) then(if(0<=(aa (x4+bo))/\(aa (x4+bo))<(List.length ag:Int)) then(if(0<=x4/\x4<(List.length ag:Int)) then(some ((rd ag (aa (x4+bo)))==(rd ag x4))) else none) else none) else(some false)).bind λbd=>if bd=true then(iw.l1 uk ag x4 (aa (bo+1))) else(some bo)
def iw.l0:Nat->(List Int)->List Int->Int->Option (List Int)
 |0,_,_,_=>none
 |k5+1,ag,x3,x4=>if x4<(List.length ag:Int) then(((iw.l1 fuel ag x4 1).bind λx9=>if(0<=x4/\x4<(List.length ag:Int)) then(if(List.length x3+2<=1099511627776) then(some ((x3++[(bS (aa (x9-1))),(rd ag x4)]),(aa (x4+x9)))) else none) else none).bind λ(x6,x7)=>iw.l0 k5 ag x6 x7) else(some x3)
def iw.f (ag:(List Int)):Option (List Int):=iw.l0 fuel ag [2] 0
def iw.R (r:(List Int)) (u:Value) (G:List Hp):Prop:= ∃(a0:Option Addr) (n0:Nat) (H0:Hp),aj (Fl.int .u8) 5 r a0 n0 H0/\u=(ll a0 r n0)/\G=[H0]
theorem iw.c (H:iw.f ag=some r) (An:aT (Fl.int .u8) ag LK F) (aan:List.length ag<=OA):
 QR 104 [(ll LK ag OA)] [] [] F (iw.R r):=by
 unfold iw.f at H;refine aD Tryz.func104 J J (λW=>rc T 7 (aX (cU (k:=(Fl.int .u8)) T [2] J J J J J J J J J (λa1 H1 s1=>ro T 10 (lq [0] [0] (λ(⟨k5,x3,x4,a3,n3,H3⟩:Nat×List Int×Int×Option Addr×Nat×Hp)=>(iw.l0 k5 ag x3 x4=some r/\aj (Fl.int .u8) 5 x3 a3 n3 H3,[(3,(ll a3 x3 n3)),(4,(ii x4))],[H3])) J J (fuel,[2],0,a1,(List.length [2]),H1) [0,0] ⟨H,s1⟩ J J ?_)))));rintro k5 ⟨x3,x4,a3,n3,H3⟩ ⟨Z1,s3⟩;rw[iw.l0] at Z1;refine rc T 9 (cd J Z1 (λZ1=>?_) (λZ1=>?_))
 ·refine rc T 2 (mn Z1 [0] [0] (λz8 (⟨x6,x7,a4,n4,H4⟩:List Int×Int×Option Addr×Nat×Hp)=>((x6,x7)=z8/\aj (Fl.int .u8) 5 x6 a4 n4 H4,[(3,(ll a4 x6 n4)),(4,(ii x7))],[H4])) J J (λz8 Z3 _=>?_) ?_)
  ·refine rc T 6 (mq Z3 [0,3,4] [0,0] (λnZ (x9:Int)=>(x9=nZ,[(5,(ii x9))],[])) J J (λnZ Z4 _=>?_) ?_)
   ·refine rc T 1 (lq [0,3,4] [0,0] (λ(⟨uk,bo⟩:Nat×Int)=>(iw.l1 uk ag x4 bo=some nZ,[(5,(ii bo))],[])) J J (fuel,1) [0,0] Z4 J J ?_);rintro uk bo Z5;replace Z5:iw.l1 (uk+1) ag x4 bo=some nZ:=Z5;rw[iw.l1] at Z5;refine rc T 1 (mq Z5 [0,3,4,5] [0,0] (λIm (bd:Bool)=>(bd=Im,[(29,(bb bd))],[])) J J (λIm Z6 _=>?_) ?_)
    ·refine du mix ay ?_
     iterate 7 refine au T J ?_
     refine qd 17 J Z6 (λZ6=>?_) (λZ6=>?_)
     ·iterate 4 refine au T J ?_
      obtain⟨c8,Z6⟩:=az Z6;obtain⟨q5,o5,e5⟩:=An.addr c8.1 c8.2;refine aO J J J (cO T J J J J J e5 c8.1 c8.2) (aO J J J (aw T J J J J (iU (k:=(Fl.int .u8)) (rO An 0) e5 c8 0 J)) (au T J (au T J ?_)));obtain⟨c9,Z6⟩:=az Z6;refine aO J J J (cO T J J J J J e5 c9.1 c9.2) (aO J J J (aw T J J J J (iU (k:=(Fl.int .u8)) (rO An 0) e5 c9 0 J)) (au T J (au T J (cZ (rx T 1 (am _ [0,0] (oi Z6) J J))))))
     iterate 12 refine au T J ?_
     refine cZ (rx T 1 (am _ [0,0] (oi Z6) J J))
    rintro _ bd rfl Z5;refine cb J Z5 (λZ5=>?_) (λZ5=>?_)
    ·refine rc T 10 (ar _ [0,0] Z5 J J)
    refine rc T 5 (am _ [0,0] (oi Z5) J J)
   rintro _ x9 rfl Z3;refine rc T 8 ?_;obtain⟨dG,Z3⟩:=az Z3;obtain⟨q6,o6,e6⟩:=An.addr dG.1 dG.2;refine ix T J e6 dG (le T 0 (rO An 0) e6 dG J J (aX (cU (k:=(Fl.int .u8)) T [(bS (aa (x9-1))),(rd ag x4)] J J J J J J J J J (λa7 H7 s7=>?_))));obtain⟨gU,Z3⟩:=az Z3;refine aX (d_ (k:=(Fl.int .u8)) (xs:=x3) T (g:=1) J J J J J J J J J J s3 (oO s7 2) gU J (λa8 n8 H8 s8=>ro T 11 (am (_,_,_,_,_) [0,0] ⟨oi Z3,s8⟩ J J)))
  rintro _ ⟨x6,x7,a4,n4,H4⟩ ⟨rfl,s4⟩ Z1;refine rx T 1 (ar (_,_,_,_,_) [0,0] ⟨Z1,s4⟩ J J)
 refine rc T 12 ?_
 cases Z1;exact p1 T J [1,0] ⟨a3,n3,H3,s3,J,J⟩ J
def xI.f (t:aL):Option (Int×(List Int)):=(iw.f t.C).bind λv1=>if((List.length v1:Int)==3)=true then(if(0<=(0:Int)/\(0:Int)<(List.length t.C:Int)) then(some (0,[0,(rd t.C 0)])) else none) else(if(List.length v1:Int)<(aa (1+(List.length t.C:Int))) then(some (2,v1)) else(if(List.length [1]+List.length t.C<=1099511627776) then(some (1,([1]++t.C))) else none))
def xI.R (r:(Int×(List Int))) (u:Value) (G:List Hp):Prop:= ∃(a0:Option Addr) (n0:Nat) (H0:Hp),aj (Fl.int .u8) 5 r.2 a0 n0 H0/\u=(.tuple #[(ii r.1),(ll a0 r.2 n0)])/\G=[H0]
theorem xI.c (H:xI.f t=some r) (dR:aT (Fl.int .u8) t.C il F) (fi:List.length t.C<=iv):
 QR 75 [(.agg #[(ii t.W),(ii t.H),(ll il t.C iv)])] [] [] F (xI.R r):=by
 unfold xI.f at H;refine aD Tryz.func75 J J (λW=>rc T 2 (nc T J (λb1=>ro T 7 (lf T 1 J (kr iw.R [] [] J ace H (iw.c · (rO dR 0) fi) (λv1 H=>?_))))));rintro _ _ ⟨a2,n2,H2,s2,rfl,rfl⟩;refine fz J (ro T 11 (cb J H (λH=>?_) (λH=>?_)))
 ·refine rc T 1 (ke [1] [0,0] J J (fz J (rg [] [0,0] mix (bP bO) (λhg pf=>ha T 6 [0] sz hg pf J (av 1 sz hg pf J (aw T J J J J (aH (j:=1) J J)) ?_)))));obtain⟨c3,H⟩:=az H;obtain⟨q3,o3,e3⟩:=dR.addr c3.1 c3.2;refine av 2 sz hg pf J (cO T J J J J J e3 c3.1 c3.2) (av 3 sz hg pf J (aw T J J J J (iU (k:=(Fl.int .u8)) (rO dR 0) e3 c3 0 J)) (ha T 2 [5] sz hg pf J (ao 4 (cU (k:=(Fl.int .u8)) T [0,(rd t.C 0)] J J J J J J J J J (λa4 H4 s4=>an (so [0,0]) (ha T 0 [6] (so [0,0]) hg pf J (ae (rx T 3 ?_))))))))
  cases H;exact p1 T J [2,0] ⟨a4,(List.length [0,(rd t.C 0)]),H4,s4,J,J⟩ J
 refine rc T 8 (lf T 1 J (ro T 5 (cd J H (λH=>?_) (λH=>?_))))
 ·refine rc T 9 ?_
  cases H;exact p1 T J [2,0] ⟨a2,n2,H2,s2,J,J⟩ J
 refine rc T 4 (aX (cU (k:=(Fl.int .u8)) T [1] J J J J J J J J J (λa5 H5 s5=>ro T 1 (lf T 1 J ?_))));obtain⟨c5,H⟩:=az H;refine aX (d_ (k:=(Fl.int .u8)) (xs:=[1]) T (g:=3) J J J J J J J J J J s5 (rO dR 0) c5 J (λa6 n6 H6 s6=>ro T 3 (ke [2,3] [0,2] J J (rx T 2 ?_))))
 cases H;exact p1 T J [1,0] ⟨a6,n6,H6,s6,J,J⟩ J
def lb.l0:Nat->aL->List Int->Int->Option (List Int)
 |0,_,_,_=>none
 |k5+1,m,x3,x4=>(vX.f m.W m.H).bind λv6=>if x4<v6 then((nK.f m x4).bind λv7=>(xI.f v7).bind λv8=>if(List.length x3+List.length v8.2<=1099511627776) then(lb.l0 k5 m (x3++v8.2) (aa (x4+1))) else none) else(some x3)
def lb.f (m:aL):Option (List Int):=lb.l0 fuel m [(bS m.W),(bS (Int.fdiv m.W (2^8))),(bS m.H),(bS (Int.fdiv m.H (2^8)))] 0
def lb.R (r:(List Int)) (u:Value) (G:List Hp):Prop:= ∃(a0:Option Addr) (n0:Nat) (H0:Hp),aj (Fl.int .u8) 5 r a0 n0 H0/\u=(ll a0 r n0)/\G=[H0]
theorem lb.c (H:lb.f m=some r) (sI:aT (Fl.int .u8) m.C oW F) (va:List.length m.C<=oC):
 QR 45 [(.agg #[(ii m.W),(ii m.H),(ll oW m.C oC)])] [] [] F (lb.R r):=by
 unfold lb.f at H;refine aD Tryz.func45 J J (λW=>rc T 2 (nc T J (λb1=>ro T 6 (lf T 1 J (ro T 2 (lf T 1 J (ro T 3 (lf T 1 J (ro T 2 (lf T 1 J (ro T 2 (aX (cU (k:=(Fl.int .u8)) T [(bS m.W),(bS (Int.fdiv m.W (2^8))),(bS m.H),(bS (Int.fdiv m.H (2^8)))] J J J J J J J J J (λa2 H2 s2=>ro T 10 (lq [1] [0,0] (λ(⟨k5,x3,x4,a4,n4,H4⟩:Nat×List Int×Int×Option Addr×Nat×Hp)=>(lb.l0 k5 m x3 x4=some r/\aj (Fl.int .u8) 5 x3 a4 n4 H4,[(3,(ll a4 x3 n4)),(4,(ii x4))],[H4])) J J (fuel,[(bS m.W),(bS (Int.fdiv m.W (2^8))),(bS m.H),(bS (Int.fdiv m.H (2^8)))],0,a2,(List.length [(bS m.W),(bS (Int.fdiv m.W (2^8))),(bS m.H),(bS (Int.fdiv m.H (2^8)))]),H2) [0,0,0] ⟨H,s2⟩ J J ?_)))))))))))))));rintro k5 ⟨x3,x4,a4,n4,H4⟩ ⟨Z1,s4⟩;rw[lb.l0] at Z1;refine rc T 5 (lf T 1 J (ro T 1 (lf T 1 J (k [] J Nq Z1 (vX.c ·) (λv6 Z1=>ro T 3 (cd J Z1 (λZ1=>?_) (λZ1=>?_)))))))
 ·refine rc T 6 (lm T 1 J (ro T 1 (kr nK.R [] [] J ad6 Z1 (nK.c · (rO sI 0) va) (λv7 Z1=>?_))));rintro _ _ ⟨a5,n5,H5,s5,rfl,rfl⟩;refine fz J (kr xI.R [] [] J ad5 Z1 (xI.c · (oO s5 3) s5.bY) (λv8 Z1=>?_));rintro _ _ ⟨a6,n6,H6,s6,rfl,rfl⟩;refine fz J (ro T 10 ?_);obtain⟨c6,Z1⟩:=az Z1;refine aX (d_ (k:=(Fl.int .u8)) (xs:=x3) T (g:=2) J J J J J J J J J J s4 (oO s6 4) c6 J (λa7 n7 H7 s7=>ro T 10 (ar (_,_,_,_,_) [0,0,0] ⟨Z1,s7⟩ J J)))
 refine rc T 12 ?_
 cases Z1;exact p1 T J [2,0] ⟨a4,n4,H4,s4,J,J⟩ J
end
noncomputable section
def xJ.f (x:sK) (n:Int):Option cV:=((fv.f x.B 1 6).bind λv6=>(fv.f x.A 0 5).bind λv7=>(fv.f x.A 0 9).bind λv8=>some (v6,(aa (n+v7)),v8,([]:List Int))).bind λ(x1,x2,x3,x4)=>if(x1==1)=true then(some (cV.mk x1 0 0 [2,0,1,0,1,(bS x.A),(bS x.B)])) else(if(x1==2)=true then((fv.f x.A 0 (aa (n-1))).bind λcS=>(fv.f x.A 0 1).bind λbR=>some (cV.mk x1 cS (aa (bR*255)) x4)) else(if(x1==5)=true then(some (cV.mk x1 x2 0 x4)) else(some (cV.mk x1 x2 x3 x4))))
def xJ.R (r:cV) (u:Value) (G:List Hp):Prop:= ∃(a0:Option Addr) (n0:Nat) (H0:Hp),aj (Fl.int .u8) 5 r.Map a0 n0 H0/\u=(.agg #[(ii r.Kind),(ii r.A),(ii r.B),(ll a0 r.Map n0)])/\G=[H0]
theorem xJ.c (H:xJ.f x n=some r):
 QR 50 [(.agg #[(ii x.Kind),(ii x.A),(ii x.B)]),(ii n)] [] [] F (xJ.R r):=by
 unfold xJ.f at H;refine aD Tryz.func50 J J (λW=>rc T 2 (nc T J (λb1=>nc T J (λb2=>ro T 2 (mq H [1,2,4] [0,0,0] (λz5 (⟨x1,x2,x3,x4,b3,a4,n4,H4⟩:Int×Int×Int×List Int×Nat×Option Addr×Nat×Hp)=>((x1,x2,x3,x4)=z5/\aj (Fl.int .u8) 5 x4 a4 n4 H4,[(5,(pp b3))],[(cl b3 55 [(ii x1),(ii x2),(ii x3),(ll a4 x4 n4)]),H4])) J J (λz5 Z1 _=>?_) ?_)))))
 ·refine ks [1,2,4] J (fz J (rz [] mix (bP bO) (λhg pf=>ha T 13 [0] sz hg pf J (av 1 sz hg pf J (aw T J J J J (aH (j:=1) J J)) (ha T 10 [3,4] sz hg pf J (av 5 sz hg pf J (aw T J J J J (aH (j:=1) J J)) (ha T 8 [8] sz hg pf J (av 9 sz hg pf J (aw T J J J J (aH (j:=1) J J)) (gB 2 12 ?_ ?_)))))))))
  ·refine kh [] J lZ Z1 (fv.c ·) (λv6 Z1=>an sz (gB 6 12 ?_ ?_))
   ·refine kh [] J lZ Z1 (fv.c ·) (λv7 Z1=>an sz (ha T 4 [7] sz hg pf J (gB 10 12 ?_ ?_)))
    ·refine kh [] J lZ Z1 (fv.c ·) (λv8 Z1=>an sz (ha T 2 [11] sz hg pf J (ao 12 (nw T J (λb5=>an (so [0,0,0]) (ao 13 (sf T 3 J (an (so [0,0,0]) (ae (rx T 1 (bw (am (_,_,_,_,_,_,_,_) [0,0,0,0,0] ⟨oi Z1,aj.nil⟩ J J))))))))))))
    refine nw T J (λb6=>an (so [0,0,0]) (ao 10 (kh [] J lZ Z1 (fv.c ·) (λv9 Z1=>an (so [0,0,0]) (ha T 1 [11] (so [0,0,0]) hg pf J (ao 13 (sf T 3 J (an (so [0,0,0]) (ae (rx T 1 (bw (am (_,_,_,_,_,_,_,_) [0,0,0,0,0] ⟨oi Z1,aj.nil⟩ J J))))))))))))
   refine nw T J (λb7=>an (so [0,0,0]) (ao 6 (kh [] J lZ Z1 (fv.c ·) (λv10 Z1=>an (so [0,0,0]) (ha T 3 [7] (so [0,0,0]) hg pf J (ao 10 (kh [] J lZ Z1 (fv.c ·) (λv11 Z1=>an (so [0,0,0]) (ha T 1 [11] (so [0,0,0]) hg pf J (ao 13 (sf T 3 J (an (so [0,0,0]) (ae (rx T 1 (bw (am (_,_,_,_,_,_,_,_) [0,0,0,0,0] ⟨oi Z1,aj.nil⟩ J J))))))))))))))))
  refine nw T J (λb8=>an (so [0,0,0]) (ao 2 (kh [] J lZ Z1 (fv.c ·) (λv12 Z1=>an (so [0,0,0]) (ao 6 (kh [] J lZ Z1 (fv.c ·) (λlp Z1=>an (so [0,0,0]) (ha T 3 [7] (so [0,0,0]) hg pf J (ao 10 (kh [] J lZ Z1 (fv.c ·) (λcg Z1=>an (so [0,0,0]) (ha T 1 [11] (so [0,0,0]) hg pf J (ao 13 (sf T 3 J (an (so [0,0,0]) (ae (rx T 1 (bw (am (_,_,_,_,_,_,_,_) [0,0,0,0,0] ⟨oi Z1,aj.nil⟩ J J)))))))))))))))))))
 rintro _ ⟨x1,x2,x3,x4,b3,a4,n4,H4⟩ ⟨rfl,s4⟩ H;refine rc T 4 (lf T 3 J (ro T 9 (cb J H (λH=>?_) (λH=>?_))))
 ·refine fz J (rg [12] [0,0,0,1] mix (bP bO) (λhg pf=>ha T 12 [0] (so [0,0,0,1]) hg pf J (av 1 (so [0,0,0,1]) hg pf J (aw T J J J J (aH (j:=1) J J)) (ha T 9 [2,3] (so [0,0,0,1]) hg pf J (av 4 (so [0,0,0,1]) hg pf J (aw T J J J J (aH (j:=1) J J)) (ha T 6 [5,7] (so [0,0,0,1]) hg pf J (gB 6 8 ?_ ?_)))))))
  ·refine cU (k:=(Fl.int .u8)) T [2,0,1,0,1,(bS x.A),(bS x.B)] J J J J J J J J J (λa9 H9 s9=>an (so [0,0,0,1]) (ao 8 (sf T 3 J (an (so [0,0,0,1]) (ha T 3 [9] (so [0,0,0,1]) hg pf J (ao 10 (sf T 3 J (an (so [0,0,0,1]) (ha T 1 [11] (so [0,0,0,1]) hg pf J (ao 12 (sf T 3 J (an sl (ae (rx T 4 (lm T 3 J (sg T 2 J (ro T 3 ?_)))))))))))))))))
   cases H;exact pb T J (.cK (j:=2) [(ii x1),(ii 0),(ii 0),(ll a9 [2,0,1,0,1,(bS x.A),(bS x.B)] (List.length [2,0,1,0,1,(bS x.A),(bS x.B)]))] J J J J J J J .nil) [5,0] ⟨(_,_),a9,(List.length [2,0,1,0,1,(bS x.A),(bS x.B)]),H9,s9,J,J⟩ J J
  refine sf T 3 J (an (so [0,0,0,1]) (ha T 4 [9] (so [0,0,0,1]) hg pf J (gB 6 10 ?_ ?_)))
  ·refine cU (k:=(Fl.int .u8)) T [2,0,1,0,1,(bS x.A),(bS x.B)] J J J J J J J J J (λcw bX bT=>an (so [0,0,0,1]) (ao 10 (sf T 3 J (an (so [0,0,0,1]) (ha T 1 [11] (so [0,0,0,1]) hg pf J (ao 12 (sf T 3 J (an sl (ae (rx T 4 (lm T 3 J (sg T 2 J (ro T 3 ?_)))))))))))))
   cases H;exact pb T J (.cK (j:=2) [(ii x1),(ii 0),(ii 0),(ll cw [2,0,1,0,1,(bS x.A),(bS x.B)] (List.length [2,0,1,0,1,(bS x.A),(bS x.B)]))] J J J J J J J .nil) [5,0] ⟨(_,_),cw,(List.length [2,0,1,0,1,(bS x.A),(bS x.B)]),bX,bT,J,J⟩ J J
  refine sf T 3 J (an (so [0,0,0,1]) (ao 6 (cU (k:=(Fl.int .u8)) T [2,0,1,0,1,(bS x.A),(bS x.B)] J J J J J J J J J (λdt cA dh=>an (so [0,0,0,1]) (ha T 1 [11] (so [0,0,0,1]) hg pf J (ao 12 (sf T 3 J (an sl (ae (rx T 4 (lm T 3 J (sg T 2 J (ro T 3 ?_)))))))))))))
  cases H;exact pb T J (.cK (j:=2) [(ii x1),(ii 0),(ii 0),(ll dt [2,0,1,0,1,(bS x.A),(bS x.B)] (List.length [2,0,1,0,1,(bS x.A),(bS x.B)]))] J J J J J J J .nil) [5,0] ⟨(_,_),dt,(List.length [2,0,1,0,1,(bS x.A),(bS x.B)]),cA,dh,J,J⟩ J J
 refine rc T 6 (cb J H (λH=>?_) (λH=>?_))
 ·refine rc T 3 (lf T 1 J (ro T 2 (k [] J lZ H (fv.c ·) (λcS H=>ro T 1 (sg T 3 J (ro T 4 (lf T 1 J (k [] J lZ H (fv.c ·) (λbR H=>ro T 2 (sg T 3 J (ro T 5 (lm T 3 J (sg T 2 J (ro T 1 (ke [4] [0,1,2] J J (rx T 1 (rc T 1 ?_)))))))))))))))))
  cases H;exact pb T J (.cK (j:=1) [(ii x1),(ii cS),(ii (aa (bR*255))),(ll a4 x4 n4)] J J J J J J J .nil) [2,0] ⟨(_,_),a4,n4,H4,s4,J,J⟩ J J
 refine rc T 6 (cb J H (λH=>?_) (λH=>?_))
 ·refine rc T 2 (sg T 3 J (ro T 5 (lm T 3 J (sg T 2 J (ro T 3 ?_)))))
  cases H;exact pb T J (.cK (j:=2) [(ii x1),(ii x2),(ii 0),(ll a4 x4 n4)] J J J J J J J .nil) [4,0] ⟨(_,_),a4,n4,H4,s4,J,J⟩ J J
 refine rc T 5 (lm T 3 J (sg T 2 J (ro T 3 ?_)))
 cases H;exact pb T J (.cK (j:=2) [(ii x1),(ii x2),(ii x3),(ll a4 x4 n4)] J J J J J J J .nil) [4,0] ⟨(_,_),a4,n4,H4,s4,J,J⟩ J J
def nL.l0:Nat->Int->Int->(List Int)->(List sK)->Int->Int->List Int->List cV->Int->Int->Option (List cV)
 |0,_,_,_,_,_,_,_,_,_,_=>none
 |lH+1,w,h,p2,l,x9,aN,bf,bo,aU,bd=>if((decide (bd<(List.length l:Int)))&&(decide (bd<60)))=true then(if(0<=bd/\bd<(List.length l:Int)) then(((fv.f ((rd l bd).A) 0 (aa (aU-1))).bind λv21=>(fv.f ((rd l bd).B) 0 (aa (aU-1))).bind λv22=>some ((0:Int),v21,v22,([]:List Int))).bind λ(dP,cX,dV,dx)=>((fv.f ((rd l bd).Kind) 0 15).bind λv35=>(if(v35==0)=true then(some (v35==0)) else(if(v35==1)=true then(some (v35==1)) else(some (v35==2)))).bind λwE=>if wE=true then(some (x9,aN,bf,aU,(3:Int),cX,dV,dx)) else(if(v35==3)=true then((fv.f ((rd l bd).A) 0 9).bind λoK=>some (x9,aN,bf,aU,(4:Int),oK,dV,dx)) else(if(v35==4)=true then((fv.f ((rd l bd).A) 0 9).bind λv39=>some (x9,aN,bf,aU,(5:Int),v39,(0:Int),dx)) else((if(v35==5)=true then(some (v35==5)) else(some (v35==6))).bind λgk=>if gk=true then((vW.f (bS ((rd l bd).B))).bind λLj=>some (x9,aN,bf,aU,(2:Int),cX,(aa Lj),dx)) else((if(v35==7)=true then(some (v35==7)) else(some (v35==8))).bind λeH=>if eH=true then(some (x9,aN,bf,aU,(6:Int),cX,dV,dx)) else(if(v35==9)=true then(some (x9,aN,bf,aU,(8:Int),(0:Int),(0:Int),([]:List Int))) else(if(v35==10)=true then(if((Int.tmod (rd l bd).A 4)==0)=true then((kZ.f (aa (w+(aa (Int.tdiv (rd l bd).A 4)))) (aa (h+(rd l bd).B)) p2).bind λv45=>(lb.f v45).bind λv46=>some (v45.W,v45.H,v45.C,(List.length v45.C:Int),(1:Int),(0:Int),(0:Int),v46)) else((fv.f ((rd l bd).B) 0 200).bind λqk=>some (x9,aN,bf,aU,(0:Int),(aa (9+qk)),(0:Int),([]:List Int)))) else(if(v35==11)=true then((xJ.f (rd l bd) aU).bind λHU=>some (x9,aN,bf,aU,HU.Kind,HU.A,HU.B,HU.Map)) else(some (x9,aN,bf,aU,(7:Int),(0:Int),(0:Int),([]:List Int))))))))))).bind λ(jT,jC,mY,gj,Br,nX,wD,kH)=>if(List.length bo+1<=1099511627776) then(nL.l0 lH w h p2 l jT jC mY (bo++[(cV.mk Br nX wD kH)]) gj (aa (bd+1))) else none) else none) else(some bo)
def nL.f (w:Int) (h:Int) (p2:(List Int)) (l:(List sK)):Option (List cV):=(kZ.f w h p2).bind λv1=>(lb.f v1).bind λv2=>nL.l0 fuel w h p2 l v1.W v1.H v1.C [(cV.mk 1 0 0 v2)] (List.length v1.C:Int) 0
def nL.R (r:(List cV)) (u:Value) (G:List Hp):Prop:= ∃(a0:Option Addr) (n0:Nat) (H0:Hp),gz He 55 r a0 n0 H0/\u=(ll a0 r n0)/\G=[H0]
theorem nL.c (H:nL.f w h p2 l=some r) (B4:aT (Fl.int .u8) p2 Fg F) (FE:List.length p2<=G7) (df:aT GK l ik F) (gu:List.length l<=gZ):
 QR 20 [(ii w),(ii h),(ll Fg p2 G7),(ll ik l gZ)] [] [] F (nL.R r):=by
 unfold nL.f at H;refine aD Tryz.func20 J J (λW=>rc T 10 (kr kZ.R [] [] J TC H (kZ.c · (rO B4 0) FE) (λv1 H=>?_)));rintro _ _ ⟨a1,n1,H1,s1,rfl,rfl⟩;refine fz J (nc T J (λb2=>sg T 2 J (ro T 4 (lm T 2 J (kr lb.R [] [] J Nw H (lb.c · (oO s1 1) s1.bY) (λv2 H=>?_))))));rintro _ _ ⟨a3,n3,H3,s3,rfl,rfl⟩;refine fz J (ro T 1 (gn [3] J (aX (Ft (kd:=He) (E:=55) (q:=3) (c:=[(ii 1),(ii 0),(ii 0),(ll a3 v2 n3)]) T (cV.mk 1 0 0 v2) J J J J J J J J J J ⟨a3,n3,H3,s3,J,J⟩ (λa5 H5 s5=>ro T 6 (lf T 2 J (ro T 11 (lq [0,1,2,3,9] [0] (λ(⟨lH,x9,aN,bf,bo,aU,bd,a8,n8,H8,a9,n9,H9⟩:Nat×Int×Int×List Int×List cV×Int×Int×Option Addr×Nat×Hp×Option Addr×Nat×Hp)=>(nL.l0 lH w h p2 l x9 aN bf bo aU bd=some r/\aj (Fl.int .u8) 5 bf a8 n8 H8/\gz He 55 bo a9 n9 H9,[(10,(ll a9 bo n9)),(11,(ii aU)),(12,(ii bd))],[(cl b2 30 [(ii x9),(ii aN),(ll a8 bf n8)]),H8,H9])) J J (fuel,v1.W,v1.H,v1.C,[(cV.mk 1 0 0 v2)],(List.length v1.C:Int),0,a1,n1,H1,a5,(List.length [(cV.mk 1 0 0 v2)]),H5) [0,1,0,1] ⟨H,s1,s5⟩ J J ?_))))))));rintro lH ⟨x9,aN,bf,bo,aU,bd,a8,n8,H8,a9,n9,H9⟩ ⟨Z3,s8,s9⟩;rw[nL.l0] at Z3;refine rc T 8 (ga T [5,6,7] 30 [0,1,2,3,9,10,11,12] 33 J J J J J J J (ro T 2 (cb J Z3 (λZ3=>?_) (λZ3=>?_))))
 ·refine rc T 8 ?_;obtain⟨c5,Z3⟩:=az Z3;obtain⟨KR,KH,pS⟩:=df.addr c5.1 c5.2;refine ix T J pS c5 (br J (fQ T (cs:=[(ii (rd l bd).Kind),(ii (rd l bd).A),(ii (rd l bd).B)]) J J J J J J (gX (k:=GK) (rO df 0) pS c5 J)) (nc T J (λjF=>sg T 4 J (ro T 2 (mq Z3 [0,1,2,3,9,10,11,12,13] [0,0,0,0,0] (λz20 (⟨dP,cX,dV,dx,kN,dF,n13,eI⟩:Int×Int×Int×List Int×Nat×Option Addr×Nat×Hp)=>((dP,cX,dV,dx)=z20/\aj (Fl.int .u8) 5 dx dF n13 eI,[(14,(pp kN))],[(cl kN 55 [(ii dP),(ii cX),(ii dV),(ll dF dx n13)]),eI])) J J (λz20 Z6 _=>?_) ?_)))))
  ·refine ks [0,1,2,3,9,10,11,12,13] J (fz J (rz [] mix (bP bO) (λhg pf=>ha T 12 [0] sz hg pf J (av 1 sz hg pf J (aw T J J J J (aH (j:=4) J J)) (ha T 8 [2,3,5] sz hg pf J (av 6 sz hg pf J (aw T J J J J (aH (j:=4) J J)) (ha T 5 [7,8] sz hg pf J (gB 4 11 ?_ ?_))))))))
   ·refine kh [] J lZ Z6 (fv.c ·) (λv21 Z6=>an sz (gB 9 11 ?_ ?_))
    ·refine kh [] J lZ Z6 (fv.c ·) (λv22 Z6=>an sz (ha T 2 [10] sz hg pf J (ao 11 (nw T J (λI0=>an (so [0,0,0,0,0]) (ao 12 (sf T 5 J (an (so [0,0,0,0,0]) (ae (rx T 1 (bw (am (_,_,_,_,_,_,_,_) [0,0,0,0,0,0,0] ⟨oi Z6,aj.nil⟩ J J))))))))))))
    refine nw T J (λoh=>an (so [0,0,0,0,0]) (ao 9 (kh [] J lZ Z6 (fv.c ·) (λv23 Z6=>an (so [0,0,0,0,0]) (ha T 1 [10] (so [0,0,0,0,0]) hg pf J (ao 12 (sf T 5 J (an (so [0,0,0,0,0]) (ae (rx T 1 (bw (am (_,_,_,_,_,_,_,_) [0,0,0,0,0,0,0] ⟨oi Z6,aj.nil⟩ J J))))))))))))
   refine nw T J (λqu=>an (so [0,0,0,0,0]) (ao 4 (kh [] J lZ Z6 (fv.c ·) (λv24 Z6=>an (so [0,0,0,0,0]) (ao 9 (kh [] J lZ Z6 (fv.c ·) (λv25 Z6=>an (so [0,0,0,0,0]) (ha T 1 [10] (so [0,0,0,0,0]) hg pf J (ao 12 (sf T 5 J (an (so [0,0,0,0,0]) (ae (rx T 1 (bw (am (_,_,_,_,_,_,_,_) [0,0,0,0,0,0,0] ⟨oi Z6,aj.nil⟩ J J)))))))))))))))
  rintro _ ⟨dP,cX,dV,dx,kN,dF,n13,eI⟩ ⟨rfl,dn⟩ Z3;refine mq Z3 [0,1,2,3,9,10,12,14] [0,2] (λIq (⟨jT,jC,mY,gj,Br,nX,wD,kH,a17,n17,ez,iQ,n18,e_⟩:Int×Int×List Int×Int×Int×Int×Int×List Int×Option Addr×Nat×Hp×Option Addr×Nat×Hp)=>((jT,jC,mY,gj,Br,nX,wD,kH)=Iq/\aj (Fl.int .u8) 5 mY a17 n17 ez/\aj (Fl.int .u8) 5 kH iQ n18 e_,[(11,(ii gj))],[(cl b2 30 [(ii jT),(ii jC),(ll a17 mY n17)]),ez,(cl kN 55 [(ii Br),(ii nX),(ii wD),(ll iQ kH n18)]),e_])) J J (λIq bt _=>?_) ?_
  ·refine rc T 3 (lf T 4 J (k [] J lZ bt (fv.c ·) (λv35 bt=>ro T 3 (mq bt [0,1,2,3,9,10,11,12,13,14,53] [0,0,0,0,0,0,0] (λz37 (wE:Bool)=>(wE=z37,[(55,(bb wE))],[])) J J (λz37 bD _=>?_) ?_))))
   ·refine rc T 6 (cb J bD (λbD=>?_) (λbD=>?_))
    ·refine rc T 2 (am _ [0,0,0,0,0,0,0] (oi bD) J J)
    refine rc T 6 (cb J bD (λbD=>?_) (λbD=>?_))
    ·refine rc T 2 (am _ [0,0,0,0,0,0,0] (oi bD) J J)
    refine rc T 5 (am _ [0,0,0,0,0,0,0] (oi bD) J J)
   rintro _ wE rfl bt;refine cb J bt (λbt=>?_) (λbt=>?_)
   ·refine rc T 2 (sg T 5 J (ro T 3 (am (_,_,_,_,_,_,_,_,_,_,_,_,_,_) [0,2,0,0,1,1] ⟨oi bt,s8,dn⟩ J J)))
   refine rc T 6 (cb J bt (λbt=>?_) (λbt=>?_))
   ·refine rc T 2 (lf T 4 J (k [] J lZ bt (fv.c ·) (λoK bt=>ro T 1 (sg T 5 J (ro T 1 (sg T 5 J (ro T 3 (am (_,_,_,_,_,_,_,_,_,_,_,_,_,_) [0,2,0,0,1,1] ⟨oi bt,s8,dn⟩ J J))))))))
   refine rc T 6 (cb J bt (λbt=>?_) (λbt=>?_))
   ·refine rc T 2 (lf T 4 J (k [] J lZ bt (fv.c ·) (λv39 bt=>ro T 1 (sg T 5 J (ro T 1 (sg T 5 J (ro T 1 (sg T 5 J (ro T 3 (am (_,_,_,_,_,_,_,_,_,_,_,_,_,_) [0,2,0,0,1,1] ⟨oi bt,s8,dn⟩ J J))))))))))
   refine mq bt [0,1,2,3,9,10,11,12,13,14,53] [0,0,0,0,0,0,0] (λz41 (gk:Bool)=>(gk=z41,[(75,(bb gk))],[])) J J (λz41 E7 _=>?_) ?_
   ·refine rc T 6 (cb J E7 (λE7=>?_) (λE7=>?_))
    ·refine rc T 2 (am _ [0,0,0,0,0,0,0] (oi E7) J J)
    refine rc T 5 (am _ [0,0,0,0,0,0,0] (oi E7) J J)
   rintro _ gk rfl bt;refine cb J bt (λbt=>?_) (λbt=>?_)
   ·refine rc T 2 (lf T 4 J (ro T 1 (k [] J Nx bt (vW.c ·) (λLj bt=>ro T 2 (sg T 5 J (ro T 1 (sg T 5 J (ro T 3 (am (_,_,_,_,_,_,_,_,_,_,_,_,_,_) [0,2,0,0,1,1] ⟨oi bt,s8,dn⟩ J J)))))))))
   refine mq bt [0,1,2,3,9,10,11,12,13,14,53] [0,0,0,0,0,0,0] (λz44 (eH:Bool)=>(eH=z44,[(85,(bb eH))],[])) J J (λz44 E8 _=>?_) ?_
   ·refine rc T 6 (cb J E8 (λE8=>?_) (λE8=>?_))
    ·refine rc T 2 (am _ [0,0,0,0,0,0,0] (oi E8) J J)
    refine rc T 5 (am _ [0,0,0,0,0,0,0] (oi E8) J J)
   rintro _ eH rfl bt;refine cb J bt (λbt=>?_) (λbt=>?_)
   ·refine rc T 2 (sg T 5 J (ro T 3 (am (_,_,_,_,_,_,_,_,_,_,_,_,_,_) [0,2,0,0,1,1] ⟨oi bt,s8,dn⟩ J J)))
   refine rc T 6 (cb J bt (λbt=>?_) (λbt=>?_))
   ·refine rc T 2 (sg T 5 J (ro T 3 (bw (am (_,_,_,_,_,_,_,_,_,_,_,_,_,_) [0,2,0,0,1,2] ⟨oi bt,s8,aj.nil⟩ J J))))
   refine rc T 6 (cb J bt (λbt=>?_) (λbt=>?_))
   ·refine rc T 3 (lf T 4 J (ro T 4 (cb J bt (λbt=>?_) (λbt=>?_))))
    ·refine rc T 4 (lf T 4 J (ro T 4 (lf T 4 J (ro T 2 (kr kZ.R [] [] J TC bt (kZ.c · (rO B4 0) FE) (λv45 bt=>?_))))));rintro _ _ ⟨mj,n19,kJ,gR,rfl,rfl⟩;refine fz J (sg T 1 J (ro T 5 (lf T 1 J (ro T 5 (lm T 1 J (kr lb.R [] [] J Nw bt (lb.c · (oO gR 7) gR.bY) (λv46 bt=>?_)))))));rintro _ _ ⟨a20,n20,oa,l9,rfl,rfl⟩;refine fz J (ro T 1 (sg T 5 J (ro T 3 (am (_,_,_,_,_,_,_,_,_,_,_,_,_,_) [0,2,0,4,2,3] ⟨oi bt,gR,l9⟩ J J))))
    refine rc T 2 (lf T 4 J (k [] J lZ bt (fv.c ·) (λqk bt=>ro T 2 (sg T 5 J (ro T 3 (bw (am (_,_,_,_,_,_,_,_,_,_,_,_,_,_) [0,2,0,0,1,2] ⟨oi bt,s8,aj.nil⟩ J J)))))))
   refine rc T 6 (cb J bt (λbt=>?_) (λbt=>?_))
   ·refine rc T 1 (lm T 4 J (ro T 1 (kr xJ.R [] [] J adX bt (xJ.c ·) (λHU bt=>?_))));rintro _ _ ⟨a21,n21,lr,jO,rfl,rfl⟩;refine fz J (sg T 5 J (ro T 3 (am (_,_,_,_,_,_,_,_,_,_,_,_,_,_) [0,2,0,0,1,2] ⟨oi bt,s8,jO⟩ J J)))
   refine rc T 2 (sg T 5 J (ro T 3 (bw (am (_,_,_,_,_,_,_,_,_,_,_,_,_,_) [0,2,0,0,1,2] ⟨oi bt,s8,aj.nil⟩ J J))))
  rintro _ ⟨jT,jC,mY,gj,Br,nX,wD,kH,a17,n17,ez,iQ,n18,e_⟩ ⟨rfl,fw,fk⟩ Z3;refine rc T 2 (lm T 4 J (gn [5] J (aX (Ft (kd:=He) (E:=55) (q:=5) (c:=[(ii Br),(ii nX),(ii wD),(ll iQ kH n18)]) T (cV.mk Br nX wD kH) J J J J J J J J J J ⟨iQ,n18,e_,fk,J,J⟩ (λa23 jD gS=>?_)))));obtain⟨c37,Z3⟩:=az Z3;refine aX (Fs (kd:=He) (xs:=bo) (ys:=[(cV.mk Br nX wD kH)]) T (g:=1) (q:=6) J J J J J J J J J J s9 J J gS c37 J (λa24 n24 oc lj=>ro T 10 (ar (_,_,_,_,_,_,_,_,_,_,_,_) [0,1,1,0] ⟨Z3,fw,lj⟩ J J)))
 refine rc T 12 ?_
 cases Z3;exact p1 T J [3,0] ⟨a9,n9,H9,s9,J,J⟩ J
end
noncomputable section
def Cw.f (x:Int) (y:Int):Option (Int×Int):=some ((dU ((dU ((dU ((Int.fdiv x (2^32))*(Int.fdiv y (2^32))))+(Int.fdiv (dU ((dU ((Int.fdiv x (2^32))*(dU (BitVec.toNat (BitVec.ofInt (IntKind.bits .u64) y&&&BitVec.ofInt (IntKind.bits .u64) 4294967295)))))+(Int.fdiv (dU ((dU (BitVec.toNat (BitVec.ofInt (IntKind.bits .u64) x&&&BitVec.ofInt (IntKind.bits .u64) 4294967295)))*(dU (BitVec.toNat (BitVec.ofInt (IntKind.bits .u64) y&&&BitVec.ofInt (IntKind.bits .u64) 4294967295))))) (2^32)))) (2^32))))+(Int.fdiv (dU ((dU (BitVec.toNat (BitVec.ofInt (IntKind.bits .u64) (dU ((dU ((Int.fdiv x (2^32))*(dU (BitVec.toNat (BitVec.ofInt (IntKind.bits .u64) y&&&BitVec.ofInt (IntKind.bits .u64) 4294967295)))))+(Int.fdiv (dU ((dU (BitVec.toNat (BitVec.ofInt (IntKind.bits .u64) x&&&BitVec.ofInt (IntKind.bits .u64) 4294967295)))*(dU (BitVec.toNat (BitVec.ofInt (IntKind.bits .u64) y&&&BitVec.ofInt (IntKind.bits .u64) 4294967295))))) (2^32))))&&&BitVec.ofInt (IntKind.bits .u64) 4294967295)))+(dU ((dU (BitVec.toNat (BitVec.ofInt (IntKind.bits .u64) x&&&BitVec.ofInt (IntKind.bits .u64) 4294967295)))*(Int.fdiv y (2^32)))))) (2^32)))),(dU (x*y)))
theorem Cw.c (H:Cw.f x y=some r):
 QU 269 [(uu x),(uu y)] [] F (.tuple #[(uu r.1),(uu r.2)]):=by
 unfold Cw.f at H;refine aD Tryz.func269 J J (λW=>rc T 99 ?_)
 cases H;exact p0 T J [0] J
def sN.f (x:Int) (y:Int):Option (Int×Int):=(Cw.f x y).bind λv1=>some (v1.1,v1.2)
theorem sN.c (H:sN.f x y=some r):
 QU 239 [(uu x),(uu y)] [] F (.tuple #[(uu r.1),(uu r.2)]):=by
 unfold sN.f at H;refine aD Tryz.func239 J J (λW=>rc T 7 (eN J (rc T 6 (k [] J adA H (Cw.c ·) (λv1 H=>ro T 16 ?_)))))
 cases H;exact p0 T J [0] J
def GX.f (x:Int):Option Int:=(if x≥4294967296 then(some ((Int.fdiv x (2^32)),(32:Int))) else(some (x,(0:Int)))).bind λ(x1,x2)=>(if x1≥65536 then(some ((Int.fdiv x1 (2^16)),(aa (x2+16)))) else(some (x1,x2))).bind λ(x4,x5)=>if x4≥256 then(if(0<=(bS (Int.fdiv x4 (2^8)))/\(bS (Int.fdiv x4 (2^8)))<(List.length EK:Int)) then(some (aa ((aa (x5+8))+(aa (rd EK (bS (Int.fdiv x4 (2^8)))))))) else none) else(if(0<=(bS x4)/\(bS x4)<(List.length EK:Int)) then(some (aa (x5+(aa (rd EK (bS x4)))))) else none)
theorem GX.c (H:GX.f x=some r):
 QU 264 [(uu x)] [] F (ii r):=by
 unfold GX.f at H;refine aD Tryz.func264 J J (λW=>rc T 5 (mq H [] [0] (λz3 (⟨x1,x2⟩:Int×Int)=>((x1,x2)=z3,[(0,(uu x1)),(2,(ii x2))],[])) J J (λz3 Z1 _=>?_) ?_))
 ·refine rc T 6 (cd J Z1 (λZ1=>?_) (λZ1=>?_))
  ·refine rc T 11 (am (_,_) [0] (oi Z1) J J)
  refine rc T 2 (am (_,_) [0] (oi Z1) J J)
 rintro _ ⟨x1,x2⟩ rfl H;refine mq H [] [0] (λz6 (⟨x4,x5⟩:Int×Int)=>((x4,x5)=z6,[(0,(uu x4)),(2,(ii x5))],[])) J J (λz6 Z3 _=>?_) ?_
 ·refine rc T 6 (cd J Z3 (λZ3=>?_) (λZ3=>?_))
  ·refine rc T 13 (am (_,_) [0] (oi Z3) J J)
  refine rc T 2 (am (_,_) [0] (oi Z3) J J)
 rintro _ ⟨x4,x5⟩ rfl H;refine rc T 7 (cd J H (λH=>?_) (λH=>?_))
 ·refine rc T 18 ?_;obtain⟨c6,H⟩:=az H;refine br J (Sc T EK J J J J J c6) (ro T 6 ?_)
  cases H;exact p0 T J [0] J
 refine rc T 7 ?_;obtain⟨c7,H⟩:=az H;refine br J (Sc T EK J J J J J c7) (ro T 6 ?_)
 cases H;exact p0 T J [0] J
def GW.f (x:Int):Option Int:=(GX.f x).bind λv1=>some v1
theorem GW.c (H:GW.f x=some r):
 QU 235 [(uu x)] [] F (ii r):=by
 unfold GW.f at H;refine aD Tryz.func235 J J (λW=>rc T 6 (eN J (rc T 5 (k [] J adx H (GX.c ·) (λv1 H=>ro T 4 ?_)))))
 cases H;exact p0 T J [0] J
end
noncomputable section
def lC.l0:Nat->(Int×Int)->Int->List Int->Int->Option (List Int)
 |0,_,_,_,_=>none
 |ze+1,v1,x2,x9,aN=>if aN<(aa v1.2) then(if(0<=aN/\aN<=(List.length x9:Int)/\(List.length x9:Int)<=(List.length x9:Int)) then(if(0<=(0:Int)/\(0:Int)<=(if x2<aN then x2 else aN)/\(if x2<aN then x2 else aN)<=(List.length x9:Int)) then(lC.l0 ze v1 x2 (ck x9 (Int.toNat aN) (min (List.length (aA x9 0 (if x2<aN then x2 else aN))) (List.length (aA x9 aN (List.length x9:Int)))) (aA x9 0 (if x2<aN then x2 else aN))) (aa (aN+(((min (List.length (aA x9 0 (if x2<aN then x2 else aN))) (List.length (aA x9 aN (List.length x9:Int)))):Nat):Int)))) else none) else none) else(some x9)
def lC.f (b:(List Int)) (count:Int):Option (List Int):=if(count==0)=true then(some ([]:List Int)) else(if count<0 then(none) else((sN.f (dU (List.length b:Int)) (dU count)).bind λv1=>if((decide (v1.1>0))||(decide (v1.2>9223372036854775807)))=true then(none) else(if((List.length b:Int)==0)=true then(some ([]:List Int)) else((if(aa v1.2)>8192 then(if(¬(List.length b:Int)=0) then(if((aa ((aa (Int.tdiv 8192 (List.length b:Int)))*(List.length b:Int)))==0)=true then(some (List.length b:Int)) else(some (aa ((aa (Int.tdiv 8192 (List.length b:Int)))*(List.length b:Int))))) else none) else(some (aa v1.2))).bind λx2=>if(0<=(aa v1.2)/\(aa v1.2)<=1099511627776) then(Fm (KG (aa v1.2)) (λx4=>if((aa v1.2)=(List.length x4:Int)) then((lC.l0 fuel v1 x2 (ck x4 0 (min (List.length b) (List.length x4)) b) (((min (List.length b) (List.length x4)):Nat):Int)).bind λx5=>some x5) else none)) else none))))
def lC.R (r:(List Int)) (u:Value) (G:List Hp):Prop:= ∃(a0:Option Addr) (n0:Nat) (H0:Hp),aj (Fl.int .u8) 5 r a0 n0 H0/\u=(ll a0 r n0)/\G=[H0]
theorem lC.c (H:lC.f b count=some r) (gW:aT (Fl.int .u8) b jW F) (gp:List.length b<=jJ):
 QR 280 [(ll jW b jJ),(ii count)] [] [] F (lC.R r):=by
 unfold lC.f at H;refine aD Tryz.func280 J J (λW=>rc T 12 (cb J H (λH=>?_) (λH=>?_)))
 ·refine rc T 2 (aX (cU (k:=(Fl.int .u8)) T ([]:List Int) J J J J J J J J J (λa1 H1 s1=>ro T 5 ?_)))
  cases H;exact p1 T J [1,0] ⟨a1,(List.length ([]:List Int)),H1,s1,J,J⟩ J
 refine rc T 9 (cd J H (λH=>?_) (λH=>?_))
 ·cases H
 refine rc T 9 (k [] J Nn H (sN.c ·) (λv1 H=>ro T 13 (go T [3,4,5] 29 [0,6] 32 J J J J J J J (ro T 2 (cb J H (λH=>?_) (λH=>?_))))))
 ·cases H
 refine rc T 17 (cb J H (λH=>?_) (λH=>?_))
 ·refine rc T 2 (aX (cU (k:=(Fl.int .u8)) T ([]:List Int) J J J J J J J J J (λa2 H2 s2=>ro T 5 ?_)))
  cases H;exact p1 T J [1,0] ⟨a2,(List.length ([]:List Int)),H2,s2,J,J⟩ J
 refine rc T 8 (mq H [0,7] [0] (λz3 (x2:Int)=>(x2=z3,[(8,(ii x2))],[])) J J (λz3 Z6 _=>?_) ?_)
 ·refine rc T 6 (cd J Z6 (λZ6=>?_) (λZ6=>?_))
  ·refine rc T 4 ?_;obtain⟨c8,Z6⟩:=az Z6;refine br J (vn J J J c8) (ro T 12 (cb J Z6 (λZ6=>?_) (λZ6=>?_)))
   ·refine rc T 6 (am _ [0] (oi Z6) J J)
   refine rc T 2 (am _ [0] (oi Z6) J J)
  refine rc T 2 (am _ [0] (oi Z6) J J)
 rintro _ x2 rfl H;refine rc T 3 ?_;obtain⟨iG,H⟩:=az H;refine aX (Zk T J J J J aeX J iG (λx4 a3 n3 H3 p3_ s3=>?_));replace H:=YB H p3_;refine ro T 2 ?_;obtain⟨dG,H⟩:=az H;refine br J (abW T J J J J J J dG s3.bY) (ro T 7 ?_);have P7:0+(List.length x4)<=List.length x4:=(ML _);refine aX (BL (k:=(Fl.int .u8)) (xs:=x4) (ys:=b) (lo:=0) (g:=1) T J J J J J J J J (aj.trim s3 (Nat.le_refl _) s3.bY) (rO gW 0) (.inl ⟨J,J⟩) P7 (λH4 s4=>kf [7,8,60] [0,0] [(9,(ll a3 (ck x4 0 (min (List.length b) (List.length x4)) b) (List.length x4)))] J J ⟨(by first |rfl |(simp only[ll,lU P7];rfl)),trivial⟩ (ro T 3 ?_)))
 refine mq H [] [0] (λz6 (⟨x5,a5,n5,H5⟩:List Int×Option Addr×Nat×Hp)=>(x5=z6/\aj (Fl.int .u8) 5 x5 a5 n5 H5,[(9,(ll a5 x5 n5))],[H5])) J J (λz6 ng _=>?_) ?_
 ·refine rc T 1 (lq [7,8] [0] (λ(⟨ze,x9,aN,a7,n7,H7⟩:Nat×List Int×Int×Option Addr×Nat×Hp)=>(lC.l0 ze v1 x2 x9 aN=some z6/\aj (Fl.int .u8) 5 x9 a7 n7 H7,[(9,(ll a7 x9 n7)),(10,(ii aN))],[H7])) J J (fuel,(ck x4 0 (min (List.length b) (List.length x4)) b),(((min (List.length b) (List.length x4)):Nat):Int),a3,(List.length x4),H4) [0,0] ⟨ng,s4⟩ J J ?_);rintro ze ⟨x9,aN,a7,n7,H7⟩ ⟨bD,s7⟩;rw[lC.l0] at bD;refine rc T 8 (cd J bD (λbD=>?_) (λbD=>?_))
  ·refine rc T 11 (fz J (rz [7] mix (bP bO) (λhg pf=>ha T 7 [0,1,2] sz hg pf J ?_)));obtain⟨pQ,bD⟩:=az bD;refine av 3 sz hg pf J (ko T J J J J J J pQ s7.bY) (ha T 4 [4,5] sz hg pf J ?_);obtain⟨jq,bD⟩:=az bD;refine av 6 sz hg pf J (ko T J J J J J J jq s7.bY) (ao 7 ?_);have Dt:(Int.toNat aN)+(List.length (aA x9 aN (List.length x9:Int)))<=List.length x9:=(HQ pQ);refine BL (k:=(Fl.int .u8)) (xs:=x9) (ys:=(aA x9 0 (if x2<aN then x2 else aN))) (lo:=(Int.toNat aN)) (g:=1) T J J J J J J J J s7 (mW (oO s7 1) jq s7.bY) (.inr J) Dt (λH8 s8=>?_)
   have IE:(0<=aN/\aN<=(List.length x9:Int)/\(List.length x9:Int)<=(List.length (ck x9 (Int.toNat aN) (min (List.length (aA x9 0 (if x2<aN then x2 else aN))) (List.length (aA x9 aN (List.length x9:Int)))) (aA x9 0 (if x2<aN then x2 else aN))):Int)):=by simp only[lU Dt];exact pQ
   have Yg:(0<=(0:Int)/\(0:Int)<=(if x2<aN then x2 else aN)/\(if x2<aN then x2 else aN)<=(List.length (ck x9 (Int.toNat aN) (min (List.length (aA x9 0 (if x2<aN then x2 else aN))) (List.length (aA x9 aN (List.length x9:Int)))) (aA x9 0 (if x2<aN then x2 else aN))):Int)):=by simp only[lU Dt];exact jq
   refine kf [7,8,10,11,67,69,72,74] [0,0] [(9,(ll a7 (ck x9 (Int.toNat aN) (min (List.length (aA x9 0 (if x2<aN then x2 else aN))) (List.length (aA x9 aN (List.length x9:Int)))) (aA x9 0 (if x2<aN then x2 else aN))) n7)),(68,(ll a7 (ck x9 (Int.toNat aN) (min (List.length (aA x9 0 (if x2<aN then x2 else aN))) (List.length (aA x9 aN (List.length x9:Int)))) (aA x9 0 (if x2<aN then x2 else aN))) n7)),(70,(ll (fW a7 n7 (Int.toNat aN) 1) (aA (ck x9 (Int.toNat aN) (min (List.length (aA x9 0 (if x2<aN then x2 else aN))) (List.length (aA x9 aN (List.length x9:Int)))) (aA x9 0 (if x2<aN then x2 else aN))) aN (List.length x9:Int)) (n7-Int.toNat aN))),(71,(ll a7 (ck x9 (Int.toNat aN) (min (List.length (aA x9 0 (if x2<aN then x2 else aN))) (List.length (aA x9 aN (List.length x9:Int)))) (aA x9 0 (if x2<aN then x2 else aN))) n7)),(73,(ll (fW a7 n7 (Int.toNat 0) 1) (aA (ck x9 (Int.toNat aN) (min (List.length (aA x9 0 (if x2<aN then x2 else aN))) (List.length (aA x9 aN (List.length x9:Int)))) (aA x9 0 (if x2<aN then x2 else aN))) 0 (if x2<aN then x2 else aN)) (n7-Int.toNat 0)))] J J ⟨(by first |rfl |(simp only[ll,lU Dt];rfl)),(by first |rfl |(simp only[ll,lU Dt];rfl)),(by simp only[ll];rw[iN IE,<-iN pQ];rfl),(by first |rfl |(simp only[ll,lU Dt];rfl)),(by simp only[ll];rw[iN Yg,<-iN jq];rfl),trivial⟩ (an sl (hb T 8 sl hg pf J (hb T 9 sl hg pf J (ae (rx T 2 ?_)))))
   exact ar (_,_,_,_,_) [0,0] ⟨bD,s8⟩ J J
  refine rc T 5 (am (_,_,_,_) [0,0] ⟨oi bD,s7⟩ J J)
 rintro _ ⟨x5,a5,n5,H5⟩ ⟨rfl,s5⟩ H;refine rc T 7 ?_
 cases H;exact p1 T J [1,0] ⟨a5,n5,H5,s5,J,J⟩ J
def DF.f (a:(List Int)) (b:(List Int)):Option Bool:=some (HP a b)
theorem DF.c (H:DF.f a b=some r) (DS:aT (Fl.int .u8) a Ff F) (Mg:List.length a<=G6) (gW:aT (Fl.int .u8) b jW F) (gp:List.length b<=jJ):
 QU 254 [(ll Ff a G6),(ll jW b jJ)] [] F (bb r):=by
 unfold DF.f at H;refine aD Tryz.func254 J J (λW=>rc T 8 (br J (Sd T J J J J J (rO DS 0)) (ro T 1 (br J (Sd T J J J J J (rO gW 0)) (br J (abV J J J) (ro T 4 ?_))))))
 cases H;exact p0 T J [0] J
end
noncomputable section
def cmp_isNaN_int.f (x:Int):Option Bool:=some (x !=x)
theorem cmp_isNaN_int.c (H:cmp_isNaN_int.f x=some r):
 QU 265 [(ii x)] [] F (bb r):=by
 unfold cmp_isNaN_int.f at H;refine aD Tryz.func265 J J (λW=>rc T 14 ?_)
 cases H;exact p0 T J [0] J
def sx.f (x:Int) (y:Int):Option Int:=(cmp_isNaN_int.f x).bind λv1=>(cmp_isNaN_int.f y).bind λv2=>if v1=true then(if v2=true then(some 0) else(some (-1))) else(if v2=true then(some 1) else(if x<y then(some (-1)) else(if x>y then(some 1) else(some 0))))
theorem sx.c (H:sx.f x y=some r):
 QU 237 [(ii x),(ii y)] [] F (ii r):=by
 unfold sx.f at H;refine aD Tryz.func237 J J (λW=>rc T 8 (k [] J JI H (cmp_isNaN_int.c ·) (λv1 H=>ro T 6 (k [] J JI H (cmp_isNaN_int.c ·) (λv2 H=>ro T 9 (cb J H (λH=>?_) (λH=>?_)))))))
 ·refine rc T 6 (cb J H (λH=>?_) (λH=>?_))
  ·refine rc T 8 ?_
   cases H;exact p0 T J [0] J
  refine rc T 9 ?_
  cases H;exact p0 T J [0] J
 refine rc T 8 (cb J H (λH=>?_) (λH=>?_))
 ·refine rc T 7 ?_
  cases H;exact p0 T J [0] J
 refine rc T 10 (cd J H (λH=>?_) (λH=>?_))
 ·refine rc T 7 ?_
  cases H;exact p0 T J [0] J
 refine rc T 10 (cd J H (λH=>?_) (λH=>?_))
 ·refine rc T 7 ?_
  cases H;exact p0 T J [0] J
 refine rc T 8 ?_
 cases H;exact p0 T J [0] J
def mH.l0:Nat->(List Int)->Int->Option Int
 |0,_,_=>none
 |k3+1,tD,x2=>if x2<(List.length tD:Int) then(if(0<=x2/\x2<(List.length tD:Int)) then(if((rd tD x2)!=0)=true then(some (rd tD x2)) else(mH.l0 k3 tD (aa (x2+1)))) else none) else(some 0)
def mH.f (tD:(List Int)):Option Int:=mH.l0 fuel tD 0
theorem mH.c (H:mH.f tD=some r) (SL:aT (Fl.int .i64) tD Yo F) (ajz:List.length tD<=af_):
 QU 236 [(ll Yo tD af_)] [] F (ii r):=by
 unfold mH.f at H;refine aD Tryz.func236 J J (λW=>rc T 19 (lq [3,6,7] [0] (λ(⟨k3,x2⟩:Nat×Int)=>(mH.l0 k3 tD x2=some r,[(8,(ii x2))],[])) J J (fuel,0) [0] H J J ?_));rintro k3 x2 Z1;replace Z1:mH.l0 (k3+1) tD x2=some r:=Z1;rw[mH.l0] at Z1;refine rc T 6 (cd J Z1 (λZ1=>?_) (λZ1=>?_))
 ·refine rc T 6 ?_;obtain⟨c3,Z1⟩:=az Z1;obtain⟨q1,o1,e1⟩:=SL.addr c3.1 c3.2;refine ix T J e1 c3 (le T 0 (rO SL 0) e1 c3 J J (ro T 10 (cb J Z1 (λZ1=>?_) (λZ1=>?_))))
  ·refine rc T 12 ?_
   cases Z1;exact p0 T J [0] J
  refine rc T 8 (ar _ [0] Z1 J J)
 refine rc T 12 ?_
 cases Z1;exact p0 T J [0] J
def cmp_Less_int.f (x:Int) (y:Int):Option Bool:=((cmp_isNaN_int.f x).bind λv3=>if v3=true then((cmp_isNaN_int.f y).bind λv4=>some ((!v4)||(decide (x<y)))) else(some (decide (x<y)))).bind λx1=>some x1
theorem cmp_Less_int.c (H:cmp_Less_int.f x y=some r):
 QU 300 [(ii x),(ii y)] [] F (bb r):=by
 unfold cmp_Less_int.f at H;refine aD Tryz.func300 J J (λW=>rc T 5 (mq H [] [0] (λz2 (x1:Bool)=>(x1=z2,[(4,(bb x1))],[])) J J (λz2 Z1 _=>?_) ?_))
 ·refine rc T 2 (k [] J JI Z1 (cmp_isNaN_int.c ·) (λv3 Z1=>ro T 1 (ab 7 J Z1 (λZ1=>?_) (λZ1=>?_))))
  ·refine ro T 1 (k [] J JI Z1 (cmp_isNaN_int.c ·) (λv4 Z1=>ro T 3 (go T [8,9,10,11] 12 [] 16 J J J J J J J (ro T 3 (am _ [0] (oi Z1) J J)))))
  refine ro T 12 (am _ [0] (oi Z1) J J)
 rintro _ x1 rfl H;refine rc T 1 ?_
 cases H;exact p0 T J [0] J
end
noncomputable section
def qV.l0:Nat->(List Int)->Int->Int->Option Int
 |0,_,_,_=>none
 |k3+1,s,v,x2=>if x2<(List.length s:Int) then(if(0<=x2/\x2<(List.length s:Int)) then(if(v==(rd s x2))=true then(some x2) else(qV.l0 k3 s v (aa (x2+1)))) else none) else(some (-1))
def qV.f (s:(List Int)) (v:Int):Option Int:=qV.l0 fuel s v 0
theorem qV.c (H:qV.f s v=some r) (jt:aT (Fl.int .u8) s iR F) (rp:List.length s<=iV):
 QU 231 [(ll iR s iV),(.int .u8 v)] [] F (ii r):=by
 unfold qV.f at H;refine aD Tryz.func231 J J (λW=>rc T 14 (lq [0,1,7] [0] (λ(⟨k3,x2⟩:Nat×Int)=>(qV.l0 k3 s v x2=some r,[(8,(ii x2))],[])) J J (fuel,0) [0] H J J ?_));rintro k3 x2 Z1;replace Z1:qV.l0 (k3+1) s v x2=some r:=Z1;rw[qV.l0] at Z1;refine rc T 6 (cd J Z1 (λZ1=>?_) (λZ1=>?_))
 ·refine rc T 15 ?_;obtain⟨c3,Z1⟩:=az Z1;obtain⟨q1,o1,e1⟩:=jt.addr c3.1 c3.2;refine ix T J e1 c3 (le T 0 (rO jt 0) e1 c3 J J (ro T 3 (cb J Z1 (λZ1=>?_) (λZ1=>?_))))
  ·refine rc T 12 ?_
   cases Z1;exact p0 T J [0] J
  refine rc T 8 (ar _ [0] Z1 J J)
 refine rc T 11 ?_
 cases Z1;exact p0 T J [0] J
def wq.f (s:(List Int)) (v:Int):Option Bool:=(qV.f s v).bind λv1=>some (decide (v1≥0))
theorem wq.c (H:wq.f s v=some r) (jt:aT (Fl.int .u8) s iR F) (rp:List.length s<=iV):
 QU 194 [(ll iR s iV),(.int .u8 v)] [] F (bb r):=by
 unfold wq.f at H;refine aD Tryz.func194 J J (λW=>rc T 9 (k [] J adf H (qV.c · (rO jt 0) rp) (λv1 H=>ro T 5 ?_)))
 cases H;exact p0 T J [0] J
def nQ.f (s:(List Int)):Option (List Int):=if(List.length ([]:List Int)+List.length s<=1099511627776) then(some (([]:List Int)++s)) else none
def nQ.R (r:(List Int)) (u:Value) (G:List Hp):Prop:= ∃(a0:Option Addr) (n0:Nat) (H0:Hp),aj (Fl.int .u8) 5 r a0 n0 H0/\u=(ll a0 r n0)/\G=[H0]
theorem nQ.c (H:nQ.f s=some r) (jt:aT (Fl.int .u8) s iR F) (rp:List.length s<=iV):
 QR 103 [(ll iR s iV)] [] [] F (nQ.R r):=by
 unfold nQ.f at H;refine aD Tryz.func103 J J (λW=>rc T 12 (BK J (λc1=>?_) (λc1=>?_)))
 ·have hx:s=[]:=OE jt c1;replace H:some []=some r:=by simpa[hx] using H
  refine rc T 7 ?_
  cases H;refine bw (p1 T J [1,0] ⟨none,0,[],aj.nil,J,J⟩ J)
 refine rc T 4 (aX (cU (k:=(Fl.int .u8)) T ([]:List Int) J J J J J J J J J (λa2 H2 s2=>ro T 1 ?_)));obtain⟨c2,H⟩:=az H;refine aX (d_ (k:=(Fl.int .u8)) (xs:=([]:List Int)) T (g:=1) J J J J J J J J J J s2 (rO jt 0) c2 J (λa3 n3 H3 s3=>ro T 4 ?_))
 cases H;exact p1 T J [1,0] ⟨a3,n3,H3,s3,J,J⟩ J
def rS.f (s:(List a_)):Option (List a_):=if(List.length ([]:List a_)+List.length s<=1099511627776) then(some (([]:List a_)++s)) else none
def rS.R (r:(List a_)) (u:Value) (G:List Hp):Prop:= ∃(a0:Option Addr) (n0:Nat) (H0:Hp),aj cE 285 r a0 n0 H0/\u=(ll a0 r n0)/\G=[H0]
theorem rS.c (H:rS.f s=some r) (jt:aT cE s iR F) (rp:List.length s<=iV):
 QR 189 [(ll iR s iV)] [] [] F (rS.R r):=by
 unfold rS.f at H;refine aD Tryz.func189 J J (λW=>rc T 12 (BK J (λc1=>?_) (λc1=>?_)))
 ·have hx:s=[]:=OE jt c1;replace H:some []=some r:=by simpa[hx] using H
  refine rc T 7 ?_
  cases H;refine bw (p1 T J [1,0] ⟨none,0,[],aj.nil,J,J⟩ J)
 refine rc T 4 (aX (cU (k:=cE) T ([]:List a_) J J J J J J J J J (λa2 H2 s2=>ro T 1 ?_)));obtain⟨c2,H⟩:=az H;refine aX (d_ (k:=cE) (xs:=([]:List a_)) T (g:=1) J J J J J J J J J J s2 (rO jt 0) c2 J (λa3 n3 H3 s3=>ro T 4 ?_))
 cases H;exact p1 T J [1,0] ⟨a3,n3,H3,s3,J,J⟩ J
def jA.l1:Nat->(List a_)->Int->List a_->Int->Int->Option (List a_)
 |0,_,_,_,_,_=>none
 |qH+1,s,x2,x7,x8,x9=>if x9<(List.length (aA x7 x2 (List.length s:Int)):Int) then(if(0<=x9/\x9<(List.length (aA x7 x2 (List.length s:Int)):Int)) then(if(0<=(aa (x9-1))/\(aa (x9-1))<(List.length (aA x7 x2 (List.length s:Int)):Int)) then(if(!(((rd (aA x7 x2 (List.length s:Int)) x9).Cell==(rd (aA x7 x2 (List.length s:Int)) (aa (x9-1))).Cell)&&(((rd (aA x7 x2 (List.length s:Int)) x9).cI==(rd (aA x7 x2 (List.length s:Int)) (aa (x9-1))).cI)&&(((rd (aA x7 x2 (List.length s:Int)) x9).Key==(rd (aA x7 x2 (List.length s:Int)) (aa (x9-1))).Key)&&true))))=true then(if(0<=x8/\x8<(List.length x7:Int)) then(jA.l1 qH s x2 (List.set x7 (Int.toNat x8) (rd (aA x7 x2 (List.length s:Int)) x9)) (aa (x8+1)) (aa (x9+1))) else none) else(jA.l1 qH s x2 x7 x8 (aa (x9+1)))) else none) else none) else(if(0<=x8/\x8<=(List.length x7:Int)/\(List.length x7:Int)<=(List.length x7:Int)) then(if(0<=(0:Int)/\(0:Int)<=x8/\x8<=(List.length (ck x7 (Int.toNat x8) (List.length (aA x7 x8 (List.length x7:Int))) (List.replicate (List.length (aA x7 x8 (List.length x7:Int))) (default:a_))):Int)) then(some (aA (ck x7 (Int.toNat x8) (List.length (aA x7 x8 (List.length x7:Int))) (List.replicate (List.length (aA x7 x8 (List.length x7:Int))) (default:a_))) 0 x8)) else none) else none)
def jA.l0:Nat->(List a_)->Int->Option (List a_)
 |0,_,_=>none
 |k3+1,s,x2=>if x2<(List.length s:Int) then(if(0<=x2/\x2<(List.length s:Int)) then(if(0<=(aa (x2-1))/\(aa (x2-1))<(List.length s:Int)) then(if(((rd s x2).Cell==(rd s (aa (x2-1))).Cell)&&(((rd s x2).cI==(rd s (aa (x2-1))).cI)&&(((rd s x2).Key==(rd s (aa (x2-1))).Key)&&true)))=true then(if(0<=x2/\x2<=(List.length s:Int)/\(List.length s:Int)<=(List.length s:Int)) then(jA.l1 fuel s x2 s x2 1) else none) else(jA.l0 k3 s (aa (x2+1)))) else none) else none) else(some s)
def jA.f (s:(List a_)):Option (List a_):=if(List.length s:Int)<2 then(some s) else(jA.l0 fuel s 1)
def jA.R (r:(List a_)) (u:Value) (G:List Hp):Prop:= ∃(a0:Option Addr) (n0:Nat) (H0:Hp),aj cE 285 r a0 n0 H0/\u=(ll a0 r n0)/\G=[H0]
theorem jA.c (H:jA.f s=some r) (cQ:aj cE 285 s iR iV dQ):
 QR 210 [(ll iR s iV)] [dQ] [] F (jA.R r):=by
 unfold jA.f at H;refine aD Tryz.func210 J J (λW=>rc T 13 (cd J H (λH=>?_) (λH=>?_)))
 ·refine rc T 8 ?_
  cases H;exact p1 T J [0,0] ⟨iR,iV,dQ,cQ,J,J⟩ J
 refine rc T 9 (lq [0] [1,0] (λ(⟨k3,x2⟩:Nat×Int)=>(jA.l0 k3 s x2=some r,[(3,(ii x2))],[])) J J (fuel,1) [1,0] H J J ?_);rintro k3 x2 Z2;replace Z2:jA.l0 (k3+1) s x2=some r:=Z2;rw[jA.l0] at Z2;refine rc T 9 (cd J Z2 (λZ2=>?_) (λZ2=>?_))
 ·refine rc T 5 (du mix ay (au T J (au T J ?_)));obtain⟨c4,Z2⟩:=az Z2;obtain⟨q2,o2,e2⟩:=cQ.r.addr c4.1 c4.2;refine aO J J J (cO T J J J J J e2 c4.1 c4.2) (aO J J J (fQ T (cs:=[(ii (rd s x2).Cell),(ii (rd s x2).cI),(ii (rd s x2).Key)]) J J J J J J (gX (k:=cE) (oO cQ 1) e2 c4 J)) (au T J (au T J (au T J ?_))));obtain⟨c5,Z2⟩:=az Z2;refine aO J J J (cO T J J J J J e2 c5.1 c5.2) (aO J J J (fQ T (cs:=[(ii (rd s (aa (x2-1))).Cell),(ii (rd s (aa (x2-1))).cI),(ii (rd s (aa (x2-1))).Key)]) J J J J J J (gX (k:=cE) (oO cQ 1) e2 c5 J)) (aO J J J (abQ T (((rd s x2).Cell==(rd s (aa (x2-1))).Cell)&&(((rd s x2).cI==(rd s (aa (x2-1))).cI)&&(((rd s x2).Key==(rd s (aa (x2-1))).Key)&&true))) J J J J Pu ay J) (cZ (rx T 1 (cb J Z2 (λZ2=>?_) (λZ2=>?_))))))
  ·refine rc T 4 ?_;obtain⟨c7,Z2⟩:=az Z2;refine br J (ko T J J J J J J c7 cQ.bY) (ro T 10 (lq [] [0] (λ(⟨qH,x7,x8,x9,a5,n5,H5⟩:Nat×List a_×Int×Int×Option Addr×Nat×Hp)=>(jA.l1 qH s x2 x7 x8 x9=some r/\aj cE 285 x7 a5 n5 H5/\(0<=x2/\x2<=(List.length s:Int)/\(List.length s:Int)<=(List.length x7:Int)),[(0,(ll a5 x7 n5)),(3,(ii x8)),(4,(ll (fW a5 n5 (Int.toNat x2) 3) (aA x7 x2 (List.length s:Int)) (n5-Int.toNat x2))),(5,(ii x9))],[H5])) J J (fuel,s,x2,1,iR,iV,dQ) [0,0] ⟨Z2,cQ,c7⟩ J J ?_));rintro qH ⟨x7,x8,x9,a5,n5,H5⟩ ⟨Z8,s5,zH⟩;rw[jA.l1] at Z8;refine rc T 9 (cd J Z8 (λZ8=>?_) (λZ8=>?_))
   ·refine rc T 5 (du mix ay (au T J (au T J ?_)));obtain⟨iG,Z8⟩:=az Z8;obtain⟨q7,o7,e7⟩:=(mW s5.r zH s5.bY).addr iG.1 iG.2;refine aO J J J (cO T J J J J J e7 iG.1 iG.2) (aO J J J (fQ T (cs:=[(ii (rd (aA x7 x2 (List.length s:Int)) x9).Cell),(ii (rd (aA x7 x2 (List.length s:Int)) x9).cI),(ii (rd (aA x7 x2 (List.length s:Int)) x9).Key)]) J J J J J J (gX (k:=cE) (mW (oO s5 1) zH s5.bY) e7 iG J)) (au T J (au T J (au T J ?_))));obtain⟨dG,Z8⟩:=az Z8;refine aO J J J (cO T J J J J J e7 dG.1 dG.2) (aO J J J (fQ T (cs:=[(ii (rd (aA x7 x2 (List.length s:Int)) (aa (x9-1))).Cell),(ii (rd (aA x7 x2 (List.length s:Int)) (aa (x9-1))).cI),(ii (rd (aA x7 x2 (List.length s:Int)) (aa (x9-1))).Key)]) J J J J J J (gX (k:=cE) (mW (oO s5 1) zH s5.bY) e7 dG J)) (aO J J J (FQ T (((rd (aA x7 x2 (List.length s:Int)) x9).Cell==(rd (aA x7 x2 (List.length s:Int)) (aa (x9-1))).Cell)&&(((rd (aA x7 x2 (List.length s:Int)) x9).cI==(rd (aA x7 x2 (List.length s:Int)) (aa (x9-1))).cI)&&(((rd (aA x7 x2 (List.length s:Int)) x9).Key==(rd (aA x7 x2 (List.length s:Int)) (aa (x9-1))).Key)&&true))) J J J J Pu ay J) (cZ (rx T 1 (cb J Z8 (λZ8=>?_) (λZ8=>?_))))))
    ·refine rc T 6 (ix T J e7 iG (br J (fQ T (cs:=[(ii (rd (aA x7 x2 (List.length s:Int)) x9).Cell),(ii (rd (aA x7 x2 (List.length s:Int)) x9).cI),(ii (rd (aA x7 x2 (List.length s:Int)) x9).Key)]) J J J J J J (gX (k:=cE) (mW (oO s5 1) zH s5.bY) e7 iG J)) ?_));obtain⟨i_,Z8⟩:=az Z8;obtain⟨q8,o8,e8⟩:=s5.r.addr i_.1 i_.2;refine ix T J e8 i_ (aX (jX (k:=cE) T 1 0 (rd (aA x7 x2 (List.length s:Int)) x9) J J J J J J s5 e8 i_ J J J (λH9 s9=>?_)));have P9:(0<=x2/\x2<=(List.length s:Int)/\(List.length s:Int)<=(List.length (List.set x7 (Int.toNat x8) (rd (aA x7 x2 (List.length s:Int)) x9)):Int)):=by simp only[List.length_set];exact zH
     have P_:(0<=x2/\x2<=(List.length s:Int)/\(List.length s:Int)<=(List.length (List.set x7 (Int.toNat x8) (rd (aA x7 x2 (List.length s:Int)) x9)):Int)):=by simp only[List.length_set];exact zH
     refine kf [3,5] [0,0] [(0,(ll a5 (List.set x7 (Int.toNat x8) (rd (aA x7 x2 (List.length s:Int)) x9)) n5)),(4,(ll (fW a5 n5 (Int.toNat x2) 3) (aA (List.set x7 (Int.toNat x8) (rd (aA x7 x2 (List.length s:Int)) x9)) x2 (List.length s:Int)) (n5-Int.toNat x2)))] J J ⟨(by first |rfl |(simp only[ll,List.length_set];rfl)),(by simp only[ll];rw[iN P9,<-iN zH];rfl),trivial⟩ (ro T 15 ?_)
     exact ar (_,_,_,_,_,_) [0,0] ⟨Z8,s9,P9⟩ J J
    refine rc T 9 (ar (_,_,_,_,_,_) [0,0] ⟨Z8,s5,zH⟩ J J)
   refine rc T 9 ?_;obtain⟨pQ,Z8⟩:=az Z8;refine br J (ko T J J J J J J pQ s5.bY) ?_;have IC:(Int.toNat x8)+(List.length (aA x7 x8 (List.length x7:Int)))<=List.length x7:=(HQ pQ);refine aX (Y_ (k:=cE) (xs:=x7) (lo:=(Int.toNat x8)) (g:=1) T (default:a_) J J J J J J J J s5 (.inr J) IC (λbX bT=>?_));have Qa:(0<=x2/\x2<=(List.length s:Int)/\(List.length s:Int)<=(List.length (ck x7 (Int.toNat x8) (List.length (aA x7 x8 (List.length x7:Int))) (List.replicate (List.length (aA x7 x8 (List.length x7:Int))) (default:a_))):Int)):=by simp only[Ml IC];exact zH
   have IE:(0<=x8/\x8<=(List.length x7:Int)/\(List.length x7:Int)<=(List.length (ck x7 (Int.toNat x8) (List.length (aA x7 x8 (List.length x7:Int))) (List.replicate (List.length (aA x7 x8 (List.length x7:Int))) (default:a_))):Int)):=by simp only[Ml IC];exact pQ
   refine kf [3] [0,0] [(0,(ll a5 (ck x7 (Int.toNat x8) (List.length (aA x7 x8 (List.length x7:Int))) (List.replicate (List.length (aA x7 x8 (List.length x7:Int))) (default:a_))) n5))] J J ⟨(by first |rfl |(simp only[ll,Ml IC];rfl)),trivial⟩ (ro T 6 ?_)
   obtain⟨FB,Z8⟩:=az Z8;refine br J (ko T J J J J J J FB bT.bY) (ro T 9 ?_)
   cases Z8;exact p1 T J [1,0] ⟨(fW a5 n5 (Int.toNat 0) 3),(n5-Int.toNat 0),bX,(aj.pre bT FB),J,J⟩ J
  refine rc T 9 (ar _ [0,0] Z2 J J)
 refine rc T 12 ?_
 cases Z2;exact p1 T J [1,0] ⟨iR,iV,dQ,cQ,J,J⟩ J
def j_.l0:Nat->List Int->Int->Option (List Int)
 |0,_,_=>none
 |k8+1,x6,x7=>if x7<(List.length x6:Int) then(if(0<=x7/\x7<=(List.length x6:Int)/\(List.length x6:Int)<=(List.length x6:Int)) then(if(0<=(0:Int)/\(0:Int)<=x7/\x7<=(List.length x6:Int)) then(j_.l0 k8 (ck x6 (Int.toNat x7) (min (List.length (aA x6 0 x7)) (List.length (aA x6 x7 (List.length x6:Int)))) (aA x6 0 x7)) (aa (x7+(((min (List.length (aA x6 0 x7)) (List.length (aA x6 x7 (List.length x6:Int)))):Nat):Int)))) else none) else none) else(some x6)
def j_.f (x:(List Int)) (count:Int):Option (List Int):=if count<0 then(none) else((sN.f (dU (List.length x:Int)) (dU count)).bind λv1=>if((decide (v1.1>0))||(decide (v1.2>9223372036854775807)))=true then(none) else(if(0<=(aa v1.2)/\(aa v1.2)<=1099511627776) then((j_.l0 fuel (ck (List.replicate (Int.toNat (aa v1.2)) (0:Int)) 0 (min (List.length x) (List.length (List.replicate (Int.toNat (aa v1.2)) (0:Int)))) x) (((min (List.length x) (List.length (List.replicate (Int.toNat (aa v1.2)) (0:Int)))):Nat):Int)).bind λx2=>some x2) else none))
def j_.R (r:(List Int)) (u:Value) (G:List Hp):Prop:= ∃(a0:Option Addr) (n0:Nat) (H0:Hp),aj (Fl.int .i64) 3 r a0 n0 H0/\u=(ll a0 r n0)/\G=[H0]
theorem j_.c (H:j_.f x count=some r) (yQ:aT (Fl.int .i64) x Fh F) (Q7:List.length x<=G8):
 QR 248 [(ll Fh x G8),(ii count)] [] [] F (j_.R r):=by
 unfold j_.f at H;refine aD Tryz.func248 J J (λW=>rc T 12 (cd J H (λH=>?_) (λH=>?_)))
 ·cases H
 refine rc T 9 (k [] J Nn H (sN.c ·) (λv1 H=>ro T 13 (go T [3,4,5] 23 [0,6] 26 J J J J J J J (ro T 2 (cb J H (λH=>?_) (λH=>?_))))))
 ·cases H
 refine rc T 6 ?_;obtain⟨c4,H⟩:=az H;refine aX (u6 (k:=(Fl.int .i64)) T (0:Int) J J J J J J J J c4 J (λa1 n1 H1 s1=>ro T 7 ?_));have L5:0+(List.length (List.replicate (Int.toNat (aa v1.2)) (0:Int)))<=List.length (List.replicate (Int.toNat (aa v1.2)) (0:Int)):=(ML _);refine aX (BL (k:=(Fl.int .i64)) (xs:=(List.replicate (Int.toNat (aa v1.2)) (0:Int))) (ys:=x) (lo:=0) (g:=1) T J J J J J J J J s1 (rO yQ 0) (.inl ⟨J,J⟩) L5 (λH2 s2=>kf [33] [0,0] [(7,(ll a1 (ck (List.replicate (Int.toNat (aa v1.2)) (0:Int)) 0 (min (List.length x) (List.length (List.replicate (Int.toNat (aa v1.2)) (0:Int)))) x) n1))] J J ⟨(by first |rfl |(simp only[ll,lU L5];rfl)),trivial⟩ (ro T 3 ?_)))
 refine mq H [] [0] (λz3 (⟨x2,a3,n3,H3⟩:List Int×Option Addr×Nat×Hp)=>(x2=z3/\aj (Fl.int .i64) 3 x2 a3 n3 H3,[(7,(ll a3 x2 n3))],[H3])) J J (λz3 Z6 _=>?_) ?_
 ·refine rc T 1 (lq [] [0] (λ(⟨k8,x6,x7,a5,n5,H5⟩:Nat×List Int×Int×Option Addr×Nat×Hp)=>(j_.l0 k8 x6 x7=some z3/\aj (Fl.int .i64) 3 x6 a5 n5 H5,[(7,(ll a5 x6 n5)),(8,(ii x7))],[H5])) J J (fuel,(ck (List.replicate (Int.toNat (aa v1.2)) (0:Int)) 0 (min (List.length x) (List.length (List.replicate (Int.toNat (aa v1.2)) (0:Int)))) x),(((min (List.length x) (List.length (List.replicate (Int.toNat (aa v1.2)) (0:Int)))):Nat):Int),a1,n1,H2) [0,0] ⟨Z6,s2⟩ J J ?_);rintro k8 ⟨x6,x7,a5,n5,H5⟩ ⟨Z7,s5⟩;rw[j_.l0] at Z7;refine rc T 9 (cd J Z7 (λZ7=>?_) (λZ7=>?_))
  ·refine rc T 3 (fz J (rz [7] mix (bP bO) (λhg pf=>ha T 7 [0,1,2] sz hg pf J ?_)));obtain⟨c9,Z7⟩:=az Z7;refine av 3 sz hg pf J (ko T J J J J J J c9 s5.bY) (ha T 4 [4,5] sz hg pf J ?_);obtain⟨iG,Z7⟩:=az Z7;refine av 6 sz hg pf J (ko T J J J J J J iG s5.bY) (ao 7 ?_);have r_:(Int.toNat x7)+(List.length (aA x6 x7 (List.length x6:Int)))<=List.length x6:=(HQ c9);refine BL (k:=(Fl.int .i64)) (xs:=x6) (ys:=(aA x6 0 x7)) (lo:=(Int.toNat x7)) (g:=1) T J J J J J J J J s5 (mW (oO s5 1) iG s5.bY) (.inr J) r_ (λH6 s6=>?_);have LC:(0<=x7/\x7<=(List.length x6:Int)/\(List.length x6:Int)<=(List.length (ck x6 (Int.toNat x7) (min (List.length (aA x6 0 x7)) (List.length (aA x6 x7 (List.length x6:Int)))) (aA x6 0 x7)):Int)):=by simp only[lU r_];exact c9
   have LD:(0<=(0:Int)/\(0:Int)<=x7/\x7<=(List.length (ck x6 (Int.toNat x7) (min (List.length (aA x6 0 x7)) (List.length (aA x6 x7 (List.length x6:Int)))) (aA x6 0 x7)):Int)):=by simp only[lU r_];exact iG
   refine kf [8,37,38,40,43,45] [0,0] [(7,(ll a5 (ck x6 (Int.toNat x7) (min (List.length (aA x6 0 x7)) (List.length (aA x6 x7 (List.length x6:Int)))) (aA x6 0 x7)) n5)),(39,(ll a5 (ck x6 (Int.toNat x7) (min (List.length (aA x6 0 x7)) (List.length (aA x6 x7 (List.length x6:Int)))) (aA x6 0 x7)) n5)),(41,(ll (fW a5 n5 (Int.toNat x7) 1) (aA (ck x6 (Int.toNat x7) (min (List.length (aA x6 0 x7)) (List.length (aA x6 x7 (List.length x6:Int)))) (aA x6 0 x7)) x7 (List.length x6:Int)) (n5-Int.toNat x7))),(42,(ll a5 (ck x6 (Int.toNat x7) (min (List.length (aA x6 0 x7)) (List.length (aA x6 x7 (List.length x6:Int)))) (aA x6 0 x7)) n5)),(44,(ll (fW a5 n5 (Int.toNat 0) 1) (aA (ck x6 (Int.toNat x7) (min (List.length (aA x6 0 x7)) (List.length (aA x6 x7 (List.length x6:Int)))) (aA x6 0 x7)) 0 x7) (n5-Int.toNat 0)))] J J ⟨(by first |rfl |(simp only[ll,lU r_];rfl)),(by first |rfl |(simp only[ll,lU r_];rfl)),(by simp only[ll];rw[iN LC,<-iN c9];rfl),(by first |rfl |(simp only[ll,lU r_];rfl)),(by simp only[ll];rw[iN LD,<-iN iG];rfl),trivial⟩ (an sl (hb T 8 sl hg pf J (hb T 9 sl hg pf J (ae (rx T 2 ?_)))))
   exact ar (_,_,_,_,_) [0,0] ⟨Z7,s6⟩ J J
  refine rc T 5 (am (_,_,_,_) [0,0] ⟨oi Z7,s5⟩ J J)
 rintro _ ⟨x2,a3,n3,H3⟩ ⟨rfl,s3⟩ H;refine rc T 7 ?_
 cases H;exact p1 T J [1,0] ⟨a3,n3,H3,s3,J,J⟩ J
def pI.l0:Nat->List Int->Int->Option (List Int)
 |0,_,_=>none
 |k8+1,x6,x7=>if x7<(List.length x6:Int) then(if(0<=x7/\x7<=(List.length x6:Int)/\(List.length x6:Int)<=(List.length x6:Int)) then(if(0<=(0:Int)/\(0:Int)<=x7/\x7<=(List.length x6:Int)) then(pI.l0 k8 (ck x6 (Int.toNat x7) (min (List.length (aA x6 0 x7)) (List.length (aA x6 x7 (List.length x6:Int)))) (aA x6 0 x7)) (aa (x7+(((min (List.length (aA x6 0 x7)) (List.length (aA x6 x7 (List.length x6:Int)))):Nat):Int)))) else none) else none) else(some x6)
def pI.f (x:(List Int)) (count:Int):Option (List Int):=if count<0 then(none) else((sN.f (dU (List.length x:Int)) (dU count)).bind λv1=>if((decide (v1.1>0))||(decide (v1.2>9223372036854775807)))=true then(none) else(if(0<=(aa v1.2)/\(aa v1.2)<=1099511627776) then((pI.l0 fuel (ck (List.replicate (Int.toNat (aa v1.2)) (0:Int)) 0 (min (List.length x) (List.length (List.replicate (Int.toNat (aa v1.2)) (0:Int)))) x) (((min (List.length x) (List.length (List.replicate (Int.toNat (aa v1.2)) (0:Int)))):Nat):Int)).bind λx2=>some x2) else none))
def pI.R (r:(List Int)) (u:Value) (G:List Hp):Prop:= ∃(a0:Option Addr) (n0:Nat) (H0:Hp),aj (Fl.int .i32) 21 r a0 n0 H0/\u=(ll a0 r n0)/\G=[H0]
theorem pI.c (H:pI.f x count=some r) (yQ:aT (Fl.int .i32) x Fh F) (Q7:List.length x<=G8):
 QR 212 [(ll Fh x G8),(ii count)] [] [] F (pI.R r):=by
 unfold pI.f at H;refine aD Tryz.func212 J J (λW=>rc T 12 (cd J H (λH=>?_) (λH=>?_)))
 ·cases H
 refine rc T 9 (k [] J Nn H (sN.c ·) (λv1 H=>ro T 13 (go T [3,4,5] 23 [0,6] 26 J J J J J J J (ro T 2 (cb J H (λH=>?_) (λH=>?_))))))
 ·cases H
 refine rc T 6 ?_;obtain⟨c4,H⟩:=az H;refine aX (u6 (k:=(Fl.int .i32)) T (0:Int) J J J J J J J J c4 J (λa1 n1 H1 s1=>ro T 7 ?_));have L5:0+(List.length (List.replicate (Int.toNat (aa v1.2)) (0:Int)))<=List.length (List.replicate (Int.toNat (aa v1.2)) (0:Int)):=(ML _);refine aX (BL (k:=(Fl.int .i32)) (xs:=(List.replicate (Int.toNat (aa v1.2)) (0:Int))) (ys:=x) (lo:=0) (g:=1) T J J J J J J J J s1 (rO yQ 0) (.inl ⟨J,J⟩) L5 (λH2 s2=>kf [33] [0,0] [(7,(ll a1 (ck (List.replicate (Int.toNat (aa v1.2)) (0:Int)) 0 (min (List.length x) (List.length (List.replicate (Int.toNat (aa v1.2)) (0:Int)))) x) n1))] J J ⟨(by first |rfl |(simp only[ll,lU L5];rfl)),trivial⟩ (ro T 3 ?_)))
 refine mq H [] [0] (λz3 (⟨x2,a3,n3,H3⟩:List Int×Option Addr×Nat×Hp)=>(x2=z3/\aj (Fl.int .i32) 21 x2 a3 n3 H3,[(7,(ll a3 x2 n3))],[H3])) J J (λz3 Z6 _=>?_) ?_
 ·refine rc T 1 (lq [] [0] (λ(⟨k8,x6,x7,a5,n5,H5⟩:Nat×List Int×Int×Option Addr×Nat×Hp)=>(pI.l0 k8 x6 x7=some z3/\aj (Fl.int .i32) 21 x6 a5 n5 H5,[(7,(ll a5 x6 n5)),(8,(ii x7))],[H5])) J J (fuel,(ck (List.replicate (Int.toNat (aa v1.2)) (0:Int)) 0 (min (List.length x) (List.length (List.replicate (Int.toNat (aa v1.2)) (0:Int)))) x),(((min (List.length x) (List.length (List.replicate (Int.toNat (aa v1.2)) (0:Int)))):Nat):Int),a1,n1,H2) [0,0] ⟨Z6,s2⟩ J J ?_);rintro k8 ⟨x6,x7,a5,n5,H5⟩ ⟨Z7,s5⟩;rw[pI.l0] at Z7;refine rc T 9 (cd J Z7 (λZ7=>?_) (λZ7=>?_))
  ·refine rc T 3 (fz J (rz [7] mix (bP bO) (λhg pf=>ha T 7 [0,1,2] sz hg pf J ?_)));obtain⟨c9,Z7⟩:=az Z7;refine av 3 sz hg pf J (ko T J J J J J J c9 s5.bY) (ha T 4 [4,5] sz hg pf J ?_);obtain⟨iG,Z7⟩:=az Z7;refine av 6 sz hg pf J (ko T J J J J J J iG s5.bY) (ao 7 ?_);have r_:(Int.toNat x7)+(List.length (aA x6 x7 (List.length x6:Int)))<=List.length x6:=(HQ c9);refine BL (k:=(Fl.int .i32)) (xs:=x6) (ys:=(aA x6 0 x7)) (lo:=(Int.toNat x7)) (g:=1) T J J J J J J J J s5 (mW (oO s5 1) iG s5.bY) (.inr J) r_ (λH6 s6=>?_);have LC:(0<=x7/\x7<=(List.length x6:Int)/\(List.length x6:Int)<=(List.length (ck x6 (Int.toNat x7) (min (List.length (aA x6 0 x7)) (List.length (aA x6 x7 (List.length x6:Int)))) (aA x6 0 x7)):Int)):=by simp only[lU r_];exact c9
   have LD:(0<=(0:Int)/\(0:Int)<=x7/\x7<=(List.length (ck x6 (Int.toNat x7) (min (List.length (aA x6 0 x7)) (List.length (aA x6 x7 (List.length x6:Int)))) (aA x6 0 x7)):Int)):=by simp only[lU r_];exact iG
   refine kf [8,37,38,40,43,45] [0,0] [(7,(ll a5 (ck x6 (Int.toNat x7) (min (List.length (aA x6 0 x7)) (List.length (aA x6 x7 (List.length x6:Int)))) (aA x6 0 x7)) n5)),(39,(ll a5 (ck x6 (Int.toNat x7) (min (List.length (aA x6 0 x7)) (List.length (aA x6 x7 (List.length x6:Int)))) (aA x6 0 x7)) n5)),(41,(ll (fW a5 n5 (Int.toNat x7) 1) (aA (ck x6 (Int.toNat x7) (min (List.length (aA x6 0 x7)) (List.length (aA x6 x7 (List.length x6:Int)))) (aA x6 0 x7)) x7 (List.length x6:Int)) (n5-Int.toNat x7))),(42,(ll a5 (ck x6 (Int.toNat x7) (min (List.length (aA x6 0 x7)) (List.length (aA x6 x7 (List.length x6:Int)))) (aA x6 0 x7)) n5)),(44,(ll (fW a5 n5 (Int.toNat 0) 1) (aA (ck x6 (Int.toNat x7) (min (List.length (aA x6 0 x7)) (List.length (aA x6 x7 (List.length x6:Int)))) (aA x6 0 x7)) 0 x7) (n5-Int.toNat 0)))] J J ⟨(by first |rfl |(simp only[ll,lU r_];rfl)),(by first |rfl |(simp only[ll,lU r_];rfl)),(by simp only[ll];rw[iN LC,<-iN c9];rfl),(by first |rfl |(simp only[ll,lU r_];rfl)),(by simp only[ll];rw[iN LD,<-iN iG];rfl),trivial⟩ (an sl (hb T 8 sl hg pf J (hb T 9 sl hg pf J (ae (rx T 2 ?_)))))
   exact ar (_,_,_,_,_) [0,0] ⟨Z7,s6⟩ J J
  refine rc T 5 (am (_,_,_,_) [0,0] ⟨oi Z7,s5⟩ J J)
 rintro _ ⟨x2,a3,n3,H3⟩ ⟨rfl,s3⟩ H;refine rc T 7 ?_
 cases H;exact p1 T J [1,0] ⟨a3,n3,H3,s3,J,J⟩ J
def qg.f (s:(List Int)):Option (List Int):=if(List.length ([]:List Int)+List.length s<=1099511627776) then(some (([]:List Int)++s)) else none
def qg.R (r:(List Int)) (u:Value) (G:List Hp):Prop:= ∃(a0:Option Addr) (n0:Nat) (H0:Hp),aj (Fl.int .i64) 3 r a0 n0 H0/\u=(ll a0 r n0)/\G=[H0]
theorem qg.c (H:qg.f s=some r) (jt:aT (Fl.int .i64) s iR F) (rp:List.length s<=iV):
 QR 227 [(ll iR s iV)] [] [] F (qg.R r):=by
 unfold qg.f at H;refine aD Tryz.func227 J J (λW=>rc T 12 (BK J (λc1=>?_) (λc1=>?_)))
 ·have hx:s=[]:=OE jt c1;replace H:some []=some r:=by simpa[hx] using H
  refine rc T 7 ?_
  cases H;refine bw (p1 T J [1,0] ⟨none,0,[],aj.nil,J,J⟩ J)
 refine rc T 4 (aX (cU (k:=(Fl.int .i64)) T ([]:List Int) J J J J J J J J J (λa2 H2 s2=>ro T 1 ?_)));obtain⟨c2,H⟩:=az H;refine aX (d_ (k:=(Fl.int .i64)) (xs:=([]:List Int)) T (g:=1) J J J J J J J J J J s2 (rO jt 0) c2 J (λa3 n3 H3 s3=>ro T 4 ?_))
 cases H;exact p1 T J [1,0] ⟨a3,n3,H3,s3,J,J⟩ J
def Bc.f (x:Int):Option Bool:=some (x !=x)
theorem Bc.c (H:Bc.f x=some r):
 QU 301 [(ii x)] [] F (bb r):=by
 unfold Bc.f at H;refine aD Tryz.func301 J J (λW=>rc T 14 ?_)
 cases H;exact p0 T J [0] J
def oG.l0:Nat->(List Int)->Int->Int->Int->Option Int
 |0,_,_,_,_=>none
 |k7+1,x,target,x5,x6=>if x5<x6 then(if(0<=(aa (Int.fdiv (dU (aa (x5+x6))) (2^1)))/\(aa (Int.fdiv (dU (aa (x5+x6))) (2^1)))<(List.length x:Int)) then((cmp_Less_int.f (rd x (aa (Int.fdiv (dU (aa (x5+x6))) (2^1)))) target).bind λv8=>if v8=true then(oG.l0 k7 x target (aa ((aa (Int.fdiv (dU (aa (x5+x6))) (2^1)))+1)) x6) else(oG.l0 k7 x target x5 (aa (Int.fdiv (dU (aa (x5+x6))) (2^1))))) else none) else(some x5)
def oG.f (x:(List Int)) (target:Int):Option (Int×Bool):=(oG.l0 fuel x target 0 (List.length x:Int)).bind λx1=>(if x1<(List.length x:Int) then(if(0<=x1/\x1<(List.length x:Int)) then(if((rd x x1)==target)=true then(some true) else((Bc.f (rd x x1)).bind λv11=>if v11=true then((Bc.f target).bind λv12=>some v12) else(some false))) else none) else(some false)).bind λx9=>some (x1,x9)
theorem oG.c (H:oG.f x target=some r) (yQ:aT (Fl.int .i64) x Fh F) (Q7:List.length x<=G8):
 QU 289 [(ll Fh x G8),(ii target)] [] F (.tuple #[(ii r.1),(bb r.2)]):=by
 unfold oG.f at H;refine aD Tryz.func289 J J (λW=>rc T 20 (mq H [0,1,6] [0] (λz2 (x1:Int)=>(x1=z2,[(7,(ii x1))],[])) J J (λz2 Z1 _=>?_) ?_))
 ·refine rc T 1 (lq [0,1,6] [0] (λ(⟨k7,x5,x6⟩:Nat×Int×Int)=>(oG.l0 k7 x target x5 x6=some z2,[(7,(ii x5)),(8,(ii x6))],[])) J J (fuel,0,(List.length x:Int)) [0] Z1 J J ?_);rintro k7 ⟨x5,x6⟩ Z2;replace Z2:oG.l0 (k7+1) x target x5 x6=some z2:=Z2;rw[oG.l0] at Z2;refine rc T 8 (cd J Z2 (λZ2=>?_) (λZ2=>?_))
  ·refine rc T 18 ?_;obtain⟨c4,Z2⟩:=az Z2;obtain⟨q1,o1,e1⟩:=yQ.addr c4.1 c4.2;refine ix T J e1 c4 (le T 0 (rO yQ 0) e1 c4 J J (ro T 1 (k [] J adQ Z2 (cmp_Less_int.c ·) (λv8 Z2=>ro T 2 (cb J Z2 (λZ2=>?_) (λZ2=>?_))))))
   ·refine rc T 7 (ar (_,_) [0] Z2 J J)
   refine rc T 6 (ar (_,_) [0] Z2 J J)
  refine rc T 5 (am _ [0] (oi Z2) J J)
 rintro _ x1 rfl H;refine mq H [] [0] (λnZ (x9:Bool)=>(x9=nZ,[(4,(ii x1)),(5,(bb x9))],[])) J J (λnZ Z7 _=>?_) ?_
 ·refine rc T 6 (ad 35 J Z7 (λZ7=>?_) (λZ7=>?_))
  ·refine ro T 2 ?_;obtain⟨c9,Z7⟩:=az Z7;obtain⟨q2,o2,e2⟩:=yQ.addr c9.1 c9.2;refine ix T J e2 c9 (le T 0 (rO yQ 0) e2 c9 J J (ro T 3 (ab 42 J Z7 (λZ7=>?_) (λZ7=>?_))))
   ·refine ro T 15 (am _ [0] (oi Z7) J J)
   refine ro T 2 (ix T J e2 c9 (le T 0 (rO yQ 0) e2 c9 J J (k [] J TB Z7 (Bc.c ·) (λv11 Z7=>ro T 1 (ab 48 J Z7 (λZ7=>?_) (λZ7=>?_))))))
   ·refine ro T 1 (k [] J TB Z7 (Bc.c ·) (λv12 Z7=>ro T 7 (am _ [0] (oi Z7) J J)))
   refine ro T 9 (am _ [0] (oi Z7) J J)
  refine ro T 22 (am _ [0] (oi Z7) J J)
 rintro _ x9 rfl H;refine rc T 1 ?_
 cases H;exact p0 T J [0] J
def qR.l0:Nat->(List a_)->(List a_)->Int->Option Bool
 |0,_,_,_=>none
 |k3+1,ag,ai,x2=>if x2<(List.length ag:Int) then(if(0<=x2/\x2<(List.length ag:Int)) then(if(0<=x2/\x2<(List.length ai:Int)) then(if(!(((rd ag x2).Cell==(rd ai x2).Cell)&&(((rd ag x2).cI==(rd ai x2).cI)&&(((rd ag x2).Key==(rd ai x2).Key)&&true))))=true then(some false) else(qR.l0 k3 ag ai (aa (x2+1)))) else none) else none) else(some true)
def qR.f (ag:(List a_)) (ai:(List a_)):Option Bool:=if((List.length ag:Int)!=(List.length ai:Int))=true then(some false) else(qR.l0 fuel ag ai 0)
theorem qR.c (H:qR.f ag ai=some r) (An:aT cE ag LK F) (aan:List.length ag<=OA) (SJ:aT cE ai Yn F) (ajy:List.length ai<=af9):
 QU 226 [(ll LK ag OA),(ll Yn ai af9)] [] F (bb r):=by
 unfold qR.f at H;refine aD Tryz.func226 J J (λW=>rc T 15 (cb J H (λH=>?_) (λH=>?_)))
 ·refine rc T 7 ?_
  cases H;exact p0 T J [0] J
 refine rc T 11 (lq [0,1,12] [0] (λ(⟨k3,x2⟩:Nat×Int)=>(qR.l0 k3 ag ai x2=some r,[(13,(ii x2))],[])) J J (fuel,0) [0] H J J ?_);rintro k3 x2 Z2;replace Z2:qR.l0 (k3+1) ag ai x2=some r:=Z2;rw[qR.l0] at Z2;refine rc T 6 (cd J Z2 (λZ2=>?_) (λZ2=>?_))
 ·refine rc T 11 (du mix ay (au T J (au T J ?_)));obtain⟨c4,Z2⟩:=az Z2;obtain⟨q1,o1,e1⟩:=An.addr c4.1 c4.2;refine aO J J J (cO T J J J J J e1 c4.1 c4.2) (aO J J J (fQ T (cs:=[(ii (rd ag x2).Cell),(ii (rd ag x2).cI),(ii (rd ag x2).Key)]) J J J J J J (gX (k:=cE) (rO An 0) e1 c4 J)) (au T J (au T J ?_)));obtain⟨c5,Z2⟩:=az Z2;obtain⟨q2,o2,e2⟩:=SJ.addr c5.1 c5.2;refine aO J J J (cO T J J J J J e2 c5.1 c5.2) (aO J J J (fQ T (cs:=[(ii (rd ai x2).Cell),(ii (rd ai x2).cI),(ii (rd ai x2).Key)]) J J J J J J (gX (k:=cE) (rO SJ 0) e2 c5 J)) (aO J J J (FQ T (((rd ag x2).Cell==(rd ai x2).Cell)&&(((rd ag x2).cI==(rd ai x2).cI)&&(((rd ag x2).Key==(rd ai x2).Key)&&true))) J J J J Pu ay J) (cZ (rx T 1 (cb J Z2 (λZ2=>?_) (λZ2=>?_))))))
  ·refine rc T 11 ?_
   cases Z2;exact p0 T J [0] J
  refine rc T 8 (ar _ [0] Z2 J J)
 refine rc T 11 ?_
 cases Z2;exact p0 T J [0] J
end
noncomputable section
def Bj.f (n:Int):Option Bool:=some ((decide (n≥1))&&(decide (n<=16)))
theorem Bj.c (H:Bj.f n=some r):
 QU 245 [(ii n)] [] F (bb r):=by
 unfold Bj.f at H;refine aD Tryz.func245 J J (λW=>rc T 10 (ga T [3,4,5] 5 [] 8 J J J J J J J (ro T 4 ?_)))
 cases H;exact p0 T J [0] J
def tz.f (t:aL):Option Bool:=((Bj.f t.W).bind λv3=>if v3=true then((Bj.f t.H).bind λv4=>if v4=true then(if((List.length t.C:Int)==(aa (t.W*t.H)))=true then((wq.f t.C 0).bind λv5=>some (!v5)) else(some false)) else(some false)) else(some false)).bind λx1=>some x1
theorem tz.c (H:tz.f t=some r) (dR:aT (Fl.int .u8) t.C il F) (fi:List.length t.C<=iv):
 QU 220 [(.agg #[(ii t.W),(ii t.H),(ll il t.C iv)])] [] F (bb r):=by
 unfold tz.f at H;refine aD Tryz.func220 J J (λW=>rc T 2 (nc T J (λb1=>ro T 3 (mq H [] [0] (λz2 (x1:Bool)=>(x1=z2,[(2,(bb x1))],[])) J J (λz2 Z1 _=>?_) ?_))))
 ·refine rc T 2 (lf T 1 J (k [] J Ts Z1 (Bj.c ·) (λv3 Z1=>ro T 1 (ab 6 J Z1 (λZ1=>?_) (λZ1=>?_)))))
  ·refine ro T 1 (lf T 1 J (k [] J Ts Z1 (Bj.c ·) (λv4 Z1=>ro T 2 (ab 11 J Z1 (λZ1=>?_) (λZ1=>?_)))))
   ·refine ro T 1 (lf T 1 J (ro T 2 (lf T 1 J (ro T 1 (lf T 1 J (ro T 4 (ab 22 J Z1 (λZ1=>?_) (λZ1=>?_))))))))
    ·refine ro T 1 (lf T 1 J (k [] J Ng Z1 (wq.c · (rO dR 0) fi) (λv5 Z1=>ro T 5 (am _ [0] (oi Z1) J J))))
    refine ro T 8 (am _ [0] (oi Z1) J J)
   refine ro T 19 (am _ [0] (oi Z1) J J)
  refine ro T 24 (am _ [0] (oi Z1) J J)
 rintro _ x1 rfl H;refine rc T 1 ?_
 cases H;exact p0 T J [0] J
def EM.f (t:aL) (ai:Int):Option Bool:=(if ai≥0 then(if ai<(List.length t.C:Int) then((tz.f t).bind λv3=>some v3) else(some false)) else(some false)).bind λx1=>some x1
theorem EM.c (H:EM.f t ai=some r) (dR:aT (Fl.int .u8) t.C il F) (fi:List.length t.C<=iv):
 QU 299 [(.agg #[(ii t.W),(ii t.H),(ll il t.C iv)]),(ii ai)] [] F (bb r):=by
 unfold EM.f at H;refine aD Tryz.func299 J J (λW=>rc T 2 (nc T J (λb1=>ro T 3 (mq H [] [0] (λz2 (x1:Bool)=>(x1=z2,[(4,(bb x1))],[])) J J (λz2 Z1 _=>?_) ?_))))
 ·refine rc T 4 (ad 7 J Z1 (λZ1=>?_) (λZ1=>?_))
  ·refine ro T 2 (lf T 1 J (ro T 4 (ad 14 J Z1 (λZ1=>?_) (λZ1=>?_))))
   ·refine lm T 1 J (k [] J JH Z1 (tz.c · (rO dR 0) fi) (λv3 Z1=>ro T 4 (am _ [0] (oi Z1) J J)))
   refine ro T 6 (am _ [0] (oi Z1) J J)
  refine ro T 13 (am _ [0] (oi Z1) J J)
 rintro _ x1 rfl H;refine rc T 1 ?_
 cases H;exact p0 T J [0] J
def Bi.f (t:aL) (ai:Int):Option Int:=(EM.f t ai).bind λv1=>if(!v1)=true then(some 0) else(if(0<=ai/\ai<(List.length t.C:Int)) then(some (aa (rd t.C ai))) else none)
theorem Bi.c (H:Bi.f t ai=some r) (dR:aT (Fl.int .u8) t.C il F) (fi:List.length t.C<=iv):
 QU 288 [(.agg #[(ii t.W),(ii t.H),(ll il t.C iv)]),(ii ai)] [] F (ii r):=by
 unfold Bi.f at H;refine aD Tryz.func288 J J (λW=>rc T 2 (nc T J (λb1=>ro T 6 (lm T 1 J (ro T 1 (k [] J adP H (EM.c · (rO dR 0) fi) (λv1 H=>ro T 3 (cb J H (λH=>?_) (λH=>?_)))))))))
 ·refine rc T 7 ?_
  cases H;exact p0 T J [0] J
 refine rc T 5 (lf T 1 J (ro T 1 ?_));obtain⟨c3,H⟩:=az H;obtain⟨q2,o2,e2⟩:=dR.addr c3.1 c3.2;refine ix T J e2 c3 (le T 0 (rO dR 0) e2 c3 J J (ro T 5 ?_))
 cases H;exact p0 T J [0] J
end
end Go.Proofs.YthodkonhneebbaaGreatDoor
