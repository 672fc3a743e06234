/- What the functions of some packages compute, each as a function of plain Lean, with its contract. No condition. -/
import Derived.Test.YthodkonhneebbaaGreatDoorKFT
namespace Go.Proofs.YthodkonhneebbaaGreatDoor
open Go.Hx
set_option maxRecDepth 100000
set_option linter.unusedSimpArgs false
set_option linter.unusedVariables false
set_option maxHeartbeats 4000000
set_option autoImplicit true
set_option relaxedAutoImplicit true
noncomputable section
def fa.f (n:Int) (lo:Int) (hi:Int):Option Int:=if(¬(aa ((aa (hi-lo))+1))=0) then(if(Int.tmod n (aa ((aa (hi-lo))+1)))<0 then(some (aa (lo+(aa ((aa ((aa ((Int.tmod n (aa ((aa (hi-lo))+1)))+hi))-lo))+1))))) else(some (aa (lo+(Int.tmod n (aa ((aa (hi-lo))+1))))))) else none
theorem fa.c (H:fa.f n lo hi=some r):
 QU 12 [(ii n),(ii lo),(ii hi)] [] F (ii r):=by
 unfold fa.f at H;refine aB Tryz.func12 J J (λW=>rc T 12 ?_);obtain⟨c1,H⟩:=az H;refine br J (uV J J J c1) (ro T 10 (cd J H (λH=>?_) (λH=>?_)))
 ·refine rc T 19 ?_
  cases H;exact p0 T J [0] J
 refine rc T 11 ?_
 cases H;exact p0 T J [0] J
def vz.f (x:Int):Option Int:=if((Int.tmod x 8)==7)=true then(some 255) else(if x<160 then(some (bQ (1+(Int.tmod x 4)))) else(some x))
theorem vz.c (H:vz.f x=some r):
 QU 49 [(.int .u8 x)] [] F (.int .u8 r):=by
 unfold vz.f at H;refine aB Tryz.func49 J J (λW=>rc T 13 (cb J H (λH=>?_) (λH=>?_)))
 ·refine rc T 7 ?_
  cases H;exact p0 T J [0] J
 refine rc T 9 (cd J H (λH=>?_) (λH=>?_))
 ·refine rc T 10 ?_
  cases H;exact p0 T J [0] J
 refine rc T 9 ?_
 cases H;exact p0 T J [0] J
def kY.l0:Nat->(List Int)->Int->Int->List Int->Int->Option aJ
 |0,_,_,_,_,_=>none
 |k7+1,p2,v1,v2,x5,x6=>if x6<(aa (v1*v2)) then(if(List.length p2:Int)>0 then(if(¬(List.length p2:Int)=0) then(if(¬(List.length p2:Int)=0) then(if(0<=(Int.tmod (aa (x6+(aa ((aa (Int.tdiv x6 (List.length p2:Int)))*5)))) (List.length p2:Int))/\(Int.tmod (aa (x6+(aa ((aa (Int.tdiv x6 (List.length p2:Int)))*5)))) (List.length p2:Int))<(List.length p2:Int)) then((vz.f (rd p2 (Int.tmod (aa (x6+(aa ((aa (Int.tdiv x6 (List.length p2:Int)))*5)))) (List.length p2:Int)))).bind λv8=>if(List.length x5+1<=1099511627776) then(kY.l0 k7 p2 v1 v2 (x5++[v8]) (aa (x6+1))) else none) else none) else none) else none) else((vz.f 1).bind λv9=>if(List.length x5+1<=1099511627776) then(kY.l0 k7 p2 v1 v2 (x5++[v9]) (aa (x6+1))) else none)) else(some (aJ.mk v1 v2 x5))
def kY.f (w:Int) (h:Int) (p2:(List Int)):Option aJ:=(fa.f w 1 40).bind λv1=>(fa.f h 1 40).bind λv2=>kY.l0 fuel p2 v1 v2 [] 0
def kY.R (r:aJ) (u:Value) (G:List Hp):Prop:= ∃(a0:Option Addr) (n0:Nat) (H0:Hp),ak (Fl.int .u8) 5 r.C a0 n0 H0/\u=(.agg #[(ii r.W),(ii r.H),(ll a0 r.C n0)])/\G=[H0]
theorem kY.c (H:kY.f w h p2=some r) (FJ:aT (Fl.int .u8) p2 Lj F) (LP:List.length p2<=N9):
 QR 48 [(ii w),(ii h),(ll Lj p2 N9)] [] [] F (kY.R r):=by
 unfold kY.f at H;refine aB Tryz.func48 J J (λW=>rc T 2 (nc T J (λb1=>ro T 5 (k [] J lB H (fa.c ·) (λv1 H=>ro T 1 (k [] J lB H (fa.c ·) (λv2 H=>ro T 1 (nc T J (λb2=>sg T 2 J (ro T 9 (bq (lq [2,6,7] [0,0] (λ(⟨k7,x5,x6,a4,n4,H4⟩:Nat×List Int×Int×Option Addr×Nat×Hp)=>(kY.l0 k7 p2 v1 v2 x5 x6=some r/\ak (Fl.int .u8) 5 x5 a4 n4 H4,[(8,(ii x6))],[(cl b2 30 [(ii v1),(ii v2),(ll a4 x5 n4)]),H4])) J J (fuel,[],0,none,0,[]) [0,0,0,0] ⟨H,ak.nil⟩ J J ?_))))))))))));rintro k7 ⟨x5,x6,a4,n4,H4⟩ ⟨Z3,s4⟩;rw[kY.l0] at Z3;refine rc T 5 (lf T 2 J (ro T 1 (lf T 2 J (ro T 4 (cd J Z3 (λZ3=>?_) (λZ3=>?_))))))
 ·refine rc T 23 (cd J Z3 (λZ3=>?_) (λZ3=>?_))
  ·refine rc T 5 ?_;obtain⟨c6,Z3⟩:=az Z3;refine br J (uU J J J c6) (ro T 3 ?_);obtain⟨c7,Z3⟩:=az Z3;refine br J (uV J J J c7) ?_;obtain⟨c8,Z3⟩:=az Z3;obtain⟨q5,o5,e5⟩:=FJ.addr c8.1 c8.2;refine ix T J e5 c8 (le T 0 (rO FJ 0) e5 c8 J J (ro T 3 (fz J (rg [5,7] [0,0,0,0] mix (bO bN) (λhg pf=>ha T 7 [0] sz hg pf J (av 1 sz hg pf J (aw T J J J J (aF (j:=2) J J)) (ha T 5 [2] sz hg pf J (ao 3 (kh [] J M3 Z3 (vz.c ·) (λv8 Z3=>an sz (ao 4 (cV (k:=(Fl.int .u8)) T [v8] J J J J J J J J J (λa6 H6 s6=>an (so [0,0,0,0]) (ao 5 ?_))))))))))))));obtain⟨gk,Z3⟩:=az Z3;refine dR (k:=(Fl.int .u8)) (xs:=x5) T (g:=3) J J J J J J J J J J s4 (oO s6 4) gk J (λa7 n7 H7 s7=>an sl (hb T 6 sl hg pf J (ao 7 (sf T 2 J (an sl (ae (rx T 8 (ar (_,_,_,_,_) [0,0,0,0] ⟨Z3,s7⟩ J J))))))))
  refine rc T 2 (fz J (rg [5,7] [0,0,0,0] mix (bO bN) (λhg pf=>ha T 7 [0] sz hg pf J (av 1 sz hg pf J (aw T J J J J (aF (j:=2) J J)) (ha T 5 [2] sz hg pf J (ao 3 (kh [] J M3 Z3 (vz.c ·) (λv9 Z3=>an sz (ao 4 (cV (k:=(Fl.int .u8)) T [v9] J J J J J J J J J (λa8 H8 s8=>an (so [0,0,0,0]) (ao 5 ?_))))))))))));obtain⟨gY,Z3⟩:=az Z3;refine dR (k:=(Fl.int .u8)) (xs:=x5) T (g:=3) J J J J J J J J J J s4 (oO s8 4) gY J (λa9 n9 H9 s9=>an sl (hb T 6 sl hg pf J (ao 7 (sf T 2 J (an sl (ae (rx T 8 (ar (_,_,_,_,_) [0,0,0,0] ⟨Z3,s9⟩ J J))))))))
 refine rc T 7 (lm T 2 J (sg T 1 J (ro T 3 ?_)))
 cases Z3;exact pb T J (.cO (j:=1) [(ii v1),(ii v2),(ll a4 x5 n4)] J J J J J J J .nil) [3,0] ⟨(_,_),a4,n4,H4,s4,J,J⟩ J J
def sL.f (n:Int) (lo:Int) (hi:Int):Option Bool:=some ((decide (n≥lo))&&(decide (n<=hi)))
theorem sL.c (H:sL.f n lo hi=some r):
 QU 47 [(ii n),(ii lo),(ii hi)] [] F (bb r):=by
 unfold sL.f at H;refine aB Tryz.func47 J J (λW=>rc T 11 (ga T [4,5,6,7] 10 [] 14 J J J J J J J (ro T 4 ?_)))
 cases H;exact p0 T J [0] J
def CA.f (w:Int) (h:Int):Option Bool:=((sL.f w 1 1024).bind λv3=>if v3=true then((sL.f h 1 1024).bind λv4=>some v4) else(some false)).bind λx1=>some x1
theorem CA.c (H:CA.f w h=some r):
 QU 67 [(ii w),(ii h)] [] F (bb r):=by
 unfold CA.f at H;refine aB Tryz.func67 J J (λW=>rc T 5 (mq H [] [0] (λz2 (x1:Bool)=>(x1=z2,[(4,(bb x1))],[])) J J (λz2 Z1 _=>?_) ?_))
 ·refine rc T 2 (k [] J Jl Z1 (sL.c ·) (λv3 Z1=>ro T 1 (ab 7 J Z1 (λZ1=>?_) (λZ1=>?_))))
  ·refine ro T 1 (k [] J Jl Z1 (sL.c ·) (λv4 Z1=>ro T 4 (am _ [0] (oi Z1) J J)))
  refine ro T 6 (am _ [0] (oi Z1) J J)
 rintro _ x1 rfl H;refine rc T 1 ?_
 cases H;exact p0 T J [0] J
def vA.f (w:Int) (h:Int):Option (Int×Int):=(CA.f w h).bind λv1=>if(!v1)=true then(some (0,0)) else(some ((aa (Int.tdiv (aa ((aa (w+16))-1)) 16)),(aa (Int.tdiv (aa ((aa (h+16))-1)) 16))))
theorem vA.c (H:vA.f w h=some r):
 QU 57 [(ii w),(ii h)] [] F (.tuple #[(ii r.1),(ii r.2)]):=by
 unfold vA.f at H;refine aB Tryz.func57 J J (λW=>rc T 11 (k [] J adx H (CA.c ·) (λv1 H=>ro T 3 (cb J H (λH=>?_) (λH=>?_)))))
 ·refine rc T 8 ?_
  cases H;exact p0 T J [0] J
 refine rc T 17 ?_
 cases H;exact p0 T J [0] J
def yY.f (w:Int) (h:Int):Option Int:=(vA.f w h).bind λv1=>some (aa (v1.1*v1.2))
theorem yY.c (H:yY.f w h=some r):
 QU 25 [(ii w),(ii h)] [] F (ii r):=by
 unfold yY.f at H;refine aB Tryz.func25 J J (λW=>rc T 9 (k [] J M4 H (vA.c ·) (λv1 H=>ro T 16 ?_)))
 cases H;exact p0 T J [0] J
def yZ.f (w:Int) (h:Int) (s:Int):Option (Int×Int):=(yY.f w h).bind λv1=>(sL.f s 0 (aa (v1-1))).bind λv2=>if(!v2)=true then(some (0,0)) else((vA.f w h).bind λv3=>if(¬v3.1=0) then(if(¬v3.1=0) then(some ((if(aa (w-(aa (16*(Int.tmod s v3.1)))))<16 then(aa (w-(aa (16*(Int.tmod s v3.1))))) else 16),(if(aa (h-(aa (16*(aa (Int.tdiv s v3.1))))))<16 then(aa (h-(aa (16*(aa (Int.tdiv s v3.1)))))) else 16))) else none) else none)
theorem yZ.c (H:yZ.f w h s=some r):
 QU 70 [(ii w),(ii h),(ii s)] [] F (.tuple #[(ii r.1),(ii r.2)]):=by
 unfold yZ.f at H;refine aB Tryz.func70 J J (λW=>rc T 12 (k [] J SN H (yY.c ·) (λv1 H=>ro T 1 (k [] J Jl H (sL.c ·) (λv2 H=>ro T 3 (cb J H (λH=>?_) (λH=>?_)))))))
 ·refine rc T 8 ?_
  cases H;exact p0 T J [0] J
 refine rc T 6 (k [] J M4 H (vA.c ·) (λv3 H=>ro T 8 (dA mix ay (aj T J (aj T J (aj T J ?_))))));obtain⟨c5,H⟩:=az H;refine aO J J J (uV J J J c5) ?_
 iterate 6 refine aj T J ?_
 obtain⟨c6,H⟩:=az H;refine aO J J J (uU J J J c6) ?_
 iterate 5 refine aj T J ?_
 refine cH (rx T 2 ?_)
 cases H;exact p0 T J [0] J
def Cz.f (w:Int) (h:Int) (s:Int) (l:Int):Option Int:=(yZ.f w h s).bind λv1=>(sL.f l 0 (aa ((aa (v1.1*v1.2))-1))).bind λv2=>if(!v2)=true then(some (-1)) else((vA.f w h).bind λv3=>if(¬v3.1=0) then(if(¬v1.1=0) then(if(¬v3.1=0) then(if(¬v1.1=0) then(some (aa ((aa ((aa ((aa ((aa (16*(aa (Int.tdiv s v3.1))))+(aa (Int.tdiv l v1.1))))*w))+(aa (16*(Int.tmod s v3.1)))))+(Int.tmod l v1.1)))) else none) else none) else none) else none)
theorem Cz.c (H:Cz.f w h s l=some r):
 QU 71 [(ii w),(ii h),(ii s),(ii l)] [] F (ii r):=by
 unfold Cz.f at H;refine aB Tryz.func71 J J (λW=>rc T 10 (k [] J S5 H (yZ.c ·) (λv1 H=>ro T 15 (k [] J Jl H (sL.c ·) (λv2 H=>ro T 3 (cb J H (λH=>?_) (λH=>?_)))))))
 ·refine rc T 7 ?_
  cases H;exact p0 T J [0] J
 refine rc T 6 (k [] J M4 H (vA.c ·) (λv3 H=>ro T 8 (dA mix ay (aj T J (aj T J ?_)))));obtain⟨c5,H⟩:=az H;refine aO J J J (uU J J J c5) (aj T J (aj T J (aj T J ?_)));obtain⟨c6,H⟩:=az H;refine aO J J J (uU J J J c6) ?_
 iterate 5 refine aj T J ?_
 obtain⟨c7,H⟩:=az H;refine aO J J J (uV J J J c7) ?_
 iterate 4 refine aj T J ?_
 obtain⟨c8,H⟩:=az H;refine aO J J J (uV J J J c8) (aj T J (aj T J (cH (rx T 2 ?_))))
 cases H;exact p0 T J [0] J
def nF.l0:Nat->aJ->Int->(Int×Int)->List Int->Int->Option aJ
 |0,_,_,_,_,_=>none
 |k6+1,m,s,v1,x4,x5=>if x5<(aa (v1.1*v1.2)) then((Cz.f m.W m.H s x5).bind λv7=>if(0<=v7/\v7<(List.length m.C:Int)) then(if(List.length x4+1<=1099511627776) then(nF.l0 k6 m s v1 (x4++[(rd m.C v7)]) (aa (x5+1))) else none) else none) else(some (aJ.mk v1.1 v1.2 x4))
def nF.f (m:aJ) (s:Int):Option aJ:=(yZ.f m.W m.H s).bind λv1=>nF.l0 fuel m s v1 [] 0
def nF.R (r:aJ) (u:Value) (G:List Hp):Prop:= ∃(a0:Option Addr) (n0:Nat) (H0:Hp),ak (Fl.int .u8) 5 r.C a0 n0 H0/\u=(.agg #[(ii r.W),(ii r.H),(ll a0 r.C n0)])/\G=[H0]
theorem nF.c (H:nF.f m s=some r) (sv:aT (Fl.int .u8) m.C oE F) (uI:List.length m.C<=oo):
 QR 76 [(.agg #[(ii m.W),(ii m.H),(ll oE m.C oo)]),(ii s)] [] [] F (nF.R r):=by
 unfold nF.f at H;refine aB Tryz.func76 J J (λW=>rc T 2 (nc T J (λb1=>nc T J (λb2=>ro T 5 (lf T 1 J (ro T 1 (lf T 1 J (ro T 1 (k [] J S5 H (yZ.c ·) (λv1 H=>ro T 12 (nc T J (λb3=>sg T 3 J (ro T 9 (bq (lq [1,2,4,5,6,7] [0,0,0] (λ(⟨k6,x4,x5,a5,n5,H5⟩:Nat×List Int×Int×Option Addr×Nat×Hp)=>(nF.l0 k6 m s v1 x4 x5=some r/\ak (Fl.int .u8) 5 x4 a5 n5 H5,[(8,(ii x5))],[(cl b3 139 [(ii v1.1),(ii v1.2),(ll a5 x4 n5)]),H5])) J J (fuel,[],0,none,0,[]) [0,0,0,0,0] ⟨H,ak.nil⟩ J J ?_)))))))))))))));rintro k6 ⟨x4,x5,a5,n5,H5⟩ ⟨Z2,s5⟩;rw[nF.l0] at Z2;refine rc T 10 (cd J Z2 (λZ2=>?_) (λZ2=>?_))
 ·refine rc T 4 (fz J (rg [14,16] [0,0,0,0,0] mix (bO bN) (λhg pf=>ha T 16 [0] sz hg pf J (av 1 sz hg pf J (aw T J J J J (aF (j:=3) J J)) (ha T 14 [2] sz hg pf J (av 3 sz hg pf J (aw T J J J J (aF (j:=1) J J)) (ha T 12 [4] sz hg pf J (av 5 sz hg pf J (aw T J J J J (aF (j:=1) J J)) (ha T 10 [6] sz hg pf J (av 7 sz hg pf J (aw T J J J J (aF (j:=1) J J)) (ha T 7 [8,9] sz hg pf J (ao 10 (kh [] J ady Z2 (Cz.c ·) (λv7 Z2=>an sz ?_))))))))))))));obtain⟨c5,Z2⟩:=az Z2;obtain⟨q6,o6,e6⟩:=sv.addr c5.1 c5.2;refine av 11 sz hg pf J (cn T J J J J J e6 c5.1 c5.2) (av 12 sz hg pf J (aw T J J J J (e_ (k:=(Fl.int .u8)) (rO sv 0) e6 c5 0 J)) (ao 13 (cV (k:=(Fl.int .u8)) T [(rd m.C v7)] J J J J J J J J J (λa7 H7 s7=>an (so [0,0,0,0,0]) (ao 14 ?_)))));obtain⟨c6,Z2⟩:=az Z2;refine dR (k:=(Fl.int .u8)) (xs:=x4) T (g:=4) J J J J J J J J J J s5 (oO s7 5) c6 J (λa8 n8 H8 s8=>an sl (hb T 15 sl hg pf J (ao 16 (sf T 3 J (an sl (ae (rx T 8 (ar (_,_,_,_,_) [0,0,0,0,0] ⟨Z2,s8⟩ J J))))))))
 refine rc T 7 (lm T 3 J (sg T 2 J (ro T 3 ?_)))
 cases Z2;exact pb T J (.cO (j:=2) [(ii v1.1),(ii v1.2),(ll a5 x4 n5)] J J J J J J J .nil) [4,0] ⟨(_,_),a5,n5,H5,s5,J,J⟩ J J
def iC.l1:Nat->(List Int)->Int->Int->Option Int
 |0,_,_,_=>none
 |tQ+1,ag,x4,bt=>(if(aa (x4+bt))<(List.length ag:Int) then(if(0<=(aa (x4+bt))/\(aa (x4+bt))<(List.length ag:Int)) then(if(0<=x4/\x4<(List.length ag:Int)) then(some ((rd ag (aa (x4+bt)))==(rd ag x4))) else none) else none) else(some false)).bind λbd=>if bd=true then(iC.l1 tQ ag x4 (aa (bt+1))) else(some bt)
def iC.l0:Nat->(List Int)->List Int->Int->Option (List Int)
 |0,_,_,_=>none
 |k5+1,ag,x3,x4=>if x4<(List.length ag:Int) then(((iC.l1 fuel ag x4 1).bind λx9=>if(0<=x4/\x4<(List.length ag:Int)) then(if(List.length x3+2<=1099511627776) then(some ((x3++[(bQ (aa (x9-1))),(rd ag x4)]),(aa (x4+x9)))) else none) else none).bind λ(x6,x7)=>iC.l0 k5 ag x6 x7) else(some x3)
def iC.f (ag:(List Int)):Option (List Int):=iC.l0 fuel ag [2] 0
def iC.R (r:(List Int)) (u:Value) (G:List Hp):Prop:= ∃(a0:Option Addr) (n0:Nat) (H0:Hp),ak (Fl.int .u8) 5 r a0 n0 H0/\u=(ll a0 r n0)/\G=[H0]
theorem iC.c (H:iC.f ag=some r) (Aa:aT (Fl.int .u8) ag Li F) (ZG:List.length ag<=N8):
 QR 104 [(ll Li ag N8)] [] [] F (iC.R r):=by
 unfold iC.f at H;refine aB Tryz.func104 J J (λW=>rc T 7 (aX (cV (k:=(Fl.int .u8)) T [2] J J J J J J J J J (λa1 H1 s1=>ro T 10 (lq [0] [0] (λ(⟨k5,x3,x4,a3,n3,H3⟩:Nat×List Int×Int×Option Addr×Nat×Hp)=>(iC.l0 k5 ag x3 x4=some r/\ak (Fl.int .u8) 5 x3 a3 n3 H3,[(3,(ll a3 x3 n3)),(4,(ii x4))],[H3])) J J (fuel,[2],0,a1,(List.length [2]),H1) [0,0] ⟨H,s1⟩ J J ?_)))));rintro k5 ⟨x3,x4,a3,n3,H3⟩ ⟨Z1,s3⟩;rw[iC.l0] at Z1;refine rc T 9 (cd J Z1 (λZ1=>?_) (λZ1=>?_))
 ·refine rc T 2 (mn Z1 [0] [0] (λz8 (⟨x6,x7,a4,n4,H4⟩:List Int×Int×Option Addr×Nat×Hp)=>((x6,x7)=z8/\ak (Fl.int .u8) 5 x6 a4 n4 H4,[(3,(ll a4 x6 n4)),(4,(ii x7))],[H4])) J J (λz8 Z3 _=>?_) ?_)
  ·refine rc T 6 (mq Z3 [0,3,4] [0,0] (λnT (x9:Int)=>(x9=nT,[(5,(ii x9))],[])) J J (λnT Z4 _=>?_) ?_)
   ·refine rc T 1 (lq [0,3,4] [0,0] (λ(⟨tQ,bt⟩:Nat×Int)=>(iC.l1 tQ ag x4 bt=some nT,[(5,(ii bt))],[])) J J (fuel,1) [0,0] Z4 J J ?_);rintro tQ bt Z5;replace Z5:iC.l1 (tQ+1) ag x4 bt=some nT:=Z5;rw[iC.l1] at Z5;refine rc T 1 (mq Z5 [0,3,4,5] [0,0] (λHU (bd:Bool)=>(bd=HU,[(29,(bb bd))],[])) J J (λHU Z6 _=>?_) ?_)
    ·refine dA mix ay ?_
     iterate 7 refine aj T J ?_
     refine qd 17 J Z6 (λZ6=>?_) (λZ6=>?_)
     ·iterate 4 refine aj T J ?_
      obtain⟨c8,Z6⟩:=az Z6;obtain⟨q5,o5,e5⟩:=Aa.addr c8.1 c8.2;refine aO J J J (cn T J J J J J e5 c8.1 c8.2) (aO J J J (aw T J J J J (e_ (k:=(Fl.int .u8)) (rO Aa 0) e5 c8 0 J)) (aj T J (aj T J ?_)));obtain⟨c9,Z6⟩:=az Z6;refine aO J J J (cn T J J J J J e5 c9.1 c9.2) (aO J J J (aw T J J J J (e_ (k:=(Fl.int .u8)) (rO Aa 0) e5 c9 0 J)) (aj T J (aj T J (cH (rx T 1 (am _ [0,0] (oi Z6) J J))))))
     iterate 12 refine aj T J ?_
     refine cH (rx T 1 (am _ [0,0] (oi Z6) J J))
    rintro _ bd rfl Z5;refine cb J Z5 (λZ5=>?_) (λZ5=>?_)
    ·refine rc T 10 (ar _ [0,0] Z5 J J)
    refine rc T 5 (am _ [0,0] (oi Z5) J J)
   rintro _ x9 rfl Z3;refine rc T 8 ?_;obtain⟨eh,Z3⟩:=az Z3;obtain⟨q6,o6,e6⟩:=Aa.addr eh.1 eh.2;refine ix T J e6 eh (le T 0 (rO Aa 0) e6 eh J J (aX (cV (k:=(Fl.int .u8)) T [(bQ (aa (x9-1))),(rd ag x4)] J J J J J J J J J (λa7 H7 s7=>?_))));obtain⟨gY,Z3⟩:=az Z3;refine aX (dR (k:=(Fl.int .u8)) (xs:=x3) T (g:=1) J J J J J J J J J J s3 (oO s7 2) gY J (λa8 n8 H8 s8=>ro T 11 (am (_,_,_,_,_) [0,0] ⟨oi Z3,s8⟩ J J)))
  rintro _ ⟨x6,x7,a4,n4,H4⟩ ⟨rfl,s4⟩ Z1;refine rx T 1 (ar (_,_,_,_,_) [0,0] ⟨Z1,s4⟩ J J)
 refine rc T 12 ?_
 cases Z1;exact p1 T J [1,0] ⟨a3,n3,H3,s3,J,J⟩ J
def xj.f (t:aJ):Option (Int×(List Int)):=(iC.f t.C).bind λv1=>if((List.length v1:Int)==3)=true then(if(0<=(0:Int)/\(0:Int)<(List.length t.C:Int)) then(some (0,[0,(rd t.C 0)])) else none) else(if(List.length v1:Int)<(aa (1+(List.length t.C:Int))) then(some (2,v1)) else(if(List.length [1]+List.length t.C<=1099511627776) then(some (1,([1]++t.C))) else none))
def xj.R (r:(Int×(List Int))) (u:Value) (G:List Hp):Prop:= ∃(a0:Option Addr) (n0:Nat) (H0:Hp),ak (Fl.int .u8) 5 r.2 a0 n0 H0/\u=(.tuple #[(ii r.1),(ll a0 r.2 n0)])/\G=[H0]
theorem xj.c (H:xj.f t=some r) (dM:aT (Fl.int .u8) t.C iv F) (fg:List.length t.C<=iB):
 QR 75 [(.agg #[(ii t.W),(ii t.H),(ll iv t.C iB)])] [] [] F (xj.R r):=by
 unfold xj.f at H;refine aB Tryz.func75 J J (λW=>rc T 2 (nc T J (λb1=>ro T 7 (lf T 1 J (kr iC.R [] [] J abJ H (iC.c · (rO dM 0) fg) (λv1 H=>?_))))));rintro _ _ ⟨a2,n2,H2,s2,rfl,rfl⟩;refine fz J (ro T 11 (cb J H (λH=>?_) (λH=>?_)))
 ·refine rc T 1 (ke [1] [0,0] J J (fz J (rg [] [0,0] mix (bO bN) (λhg pf=>ha T 6 [0] sz hg pf J (av 1 sz hg pf J (aw T J J J J (aF (j:=1) J J)) ?_)))));obtain⟨c3,H⟩:=az H;obtain⟨q3,o3,e3⟩:=dM.addr c3.1 c3.2;refine av 2 sz hg pf J (cn T J J J J J e3 c3.1 c3.2) (av 3 sz hg pf J (aw T J J J J (e_ (k:=(Fl.int .u8)) (rO dM 0) e3 c3 0 J)) (ha T 2 [5] sz hg pf J (ao 4 (cV (k:=(Fl.int .u8)) T [0,(rd t.C 0)] J J J J J J J J J (λa4 H4 s4=>an (so [0,0]) (ha T 0 [6] (so [0,0]) hg pf J (ae (rx T 3 ?_))))))))
  cases H;exact p1 T J [2,0] ⟨a4,(List.length [0,(rd t.C 0)]),H4,s4,J,J⟩ J
 refine rc T 8 (lf T 1 J (ro T 5 (cd J H (λH=>?_) (λH=>?_))))
 ·refine rc T 9 ?_
  cases H;exact p1 T J [2,0] ⟨a2,n2,H2,s2,J,J⟩ J
 refine rc T 4 (aX (cV (k:=(Fl.int .u8)) T [1] J J J J J J J J J (λa5 H5 s5=>ro T 1 (lf T 1 J ?_))));obtain⟨c5,H⟩:=az H;refine aX (dR (k:=(Fl.int .u8)) (xs:=[1]) T (g:=3) J J J J J J J J J J s5 (rO dM 0) c5 J (λa6 n6 H6 s6=>ro T 3 (ke [2,3] [0,2] J J (rx T 2 ?_))))
 cases H;exact p1 T J [1,0] ⟨a6,n6,H6,s6,J,J⟩ J
def kZ.l0:Nat->aJ->List Int->Int->Option (List Int)
 |0,_,_,_=>none
 |k5+1,m,x3,x4=>(yY.f m.W m.H).bind λv6=>if x4<v6 then((nF.f m x4).bind λv7=>(xj.f v7).bind λv8=>if(List.length x3+List.length v8.2<=1099511627776) then(kZ.l0 k5 m (x3++v8.2) (aa (x4+1))) else none) else(some x3)
def kZ.f (m:aJ):Option (List Int):=kZ.l0 fuel m [(bQ m.W),(bQ (Int.fdiv m.W (2^8))),(bQ m.H),(bQ (Int.fdiv m.H (2^8)))] 0
def kZ.R (r:(List Int)) (u:Value) (G:List Hp):Prop:= ∃(a0:Option Addr) (n0:Nat) (H0:Hp),ak (Fl.int .u8) 5 r a0 n0 H0/\u=(ll a0 r n0)/\G=[H0]
theorem kZ.c (H:kZ.f m=some r) (sv:aT (Fl.int .u8) m.C oE F) (uI:List.length m.C<=oo):
 QR 45 [(.agg #[(ii m.W),(ii m.H),(ll oE m.C oo)])] [] [] F (kZ.R r):=by
 unfold kZ.f at H;refine aB Tryz.func45 J J (λW=>rc T 2 (nc T J (λb1=>ro T 6 (lf T 1 J (ro T 2 (lf T 1 J (ro T 3 (lf T 1 J (ro T 2 (lf T 1 J (ro T 2 (aX (cV (k:=(Fl.int .u8)) T [(bQ m.W),(bQ (Int.fdiv m.W (2^8))),(bQ m.H),(bQ (Int.fdiv m.H (2^8)))] J J J J J J J J J (λa2 H2 s2=>ro T 10 (lq [1] [0,0] (λ(⟨k5,x3,x4,a4,n4,H4⟩:Nat×List Int×Int×Option Addr×Nat×Hp)=>(kZ.l0 k5 m x3 x4=some r/\ak (Fl.int .u8) 5 x3 a4 n4 H4,[(3,(ll a4 x3 n4)),(4,(ii x4))],[H4])) J J (fuel,[(bQ m.W),(bQ (Int.fdiv m.W (2^8))),(bQ m.H),(bQ (Int.fdiv m.H (2^8)))],0,a2,(List.length [(bQ m.W),(bQ (Int.fdiv m.W (2^8))),(bQ m.H),(bQ (Int.fdiv m.H (2^8)))]),H2) [0,0,0] ⟨H,s2⟩ J J ?_)))))))))))))));rintro k5 ⟨x3,x4,a4,n4,H4⟩ ⟨Z1,s4⟩;rw[kZ.l0] at Z1;refine rc T 5 (lf T 1 J (ro T 1 (lf T 1 J (k [] J SN Z1 (yY.c ·) (λv6 Z1=>ro T 3 (cd J Z1 (λZ1=>?_) (λZ1=>?_)))))))
 ·refine rc T 6 (lm T 1 J (ro T 1 (kr nF.R [] [] J adA Z1 (nF.c · (rO sv 0) uI) (λv7 Z1=>?_))));rintro _ _ ⟨a5,n5,H5,s5,rfl,rfl⟩;refine fz J (kr xj.R [] [] J adz Z1 (xj.c · (oO s5 3) s5.bV) (λv8 Z1=>?_));rintro _ _ ⟨a6,n6,H6,s6,rfl,rfl⟩;refine fz J (ro T 10 ?_);obtain⟨c6,Z1⟩:=az Z1;refine aX (dR (k:=(Fl.int .u8)) (xs:=x3) T (g:=2) J J J J J J J J J J s4 (oO s6 4) c6 J (λa7 n7 H7 s7=>ro T 10 (ar (_,_,_,_,_) [0,0,0] ⟨Z1,s7⟩ J J)))
 refine rc T 12 ?_
 cases Z1;exact p1 T J [2,0] ⟨a4,n4,H4,s4,J,J⟩ J
end
noncomputable section
def xk.f (x:sx) (n:Int):Option dn:=((fa.f x.B 1 6).bind λv6=>(fa.f x.A 0 5).bind λv7=>(fa.f x.A 0 9).bind λv8=>some (v6,(aa (n+v7)),v8,([]:List Int))).bind λ(x1,x2,x3,x4)=>if(x1==1)=true then(some (dn.mk x1 0 0 [2,0,1,0,1,(bQ x.A),(bQ x.B)])) else(if(x1==2)=true then((fa.f x.A 0 (aa (n-1))).bind λcx=>(fa.f x.A 0 1).bind λd_=>some (dn.mk x1 cx (aa (d_*255)) x4)) else(if(x1==5)=true then(some (dn.mk x1 x2 0 x4)) else(some (dn.mk x1 x2 x3 x4))))
def xk.R (r:dn) (u:Value) (G:List Hp):Prop:= ∃(a0:Option Addr) (n0:Nat) (H0:Hp),ak (Fl.int .u8) 5 r.Map a0 n0 H0/\u=(.agg #[(ii r.Kind),(ii r.A),(ii r.B),(ll a0 r.Map n0)])/\G=[H0]
theorem xk.c (H:xk.f x n=some r):
 QR 50 [(.agg #[(ii x.Kind),(ii x.A),(ii x.B)]),(ii n)] [] [] F (xk.R r):=by
 unfold xk.f at H;refine aB Tryz.func50 J J (λW=>rc T 2 (nc T J (λb1=>nc T J (λb2=>ro T 2 (mq H [1,2,4] [0,0,0] (λz5 (⟨x1,x2,x3,x4,b3,a4,n4,H4⟩:Int×Int×Int×List Int×Nat×Option Addr×Nat×Hp)=>((x1,x2,x3,x4)=z5/\ak (Fl.int .u8) 5 x4 a4 n4 H4,[(5,(pp b3))],[(cl b3 55 [(ii x1),(ii x2),(ii x3),(ll a4 x4 n4)]),H4])) J J (λz5 Z1 _=>?_) ?_)))))
 ·refine ks [1,2,4] J (fz J (rz [] mix (bO bN) (λhg pf=>ha T 13 [0] sz hg pf J (av 1 sz hg pf J (aw T J J J J (aF (j:=1) J J)) (ha T 10 [3,4] sz hg pf J (av 5 sz hg pf J (aw T J J J J (aF (j:=1) J J)) (ha T 8 [8] sz hg pf J (av 9 sz hg pf J (aw T J J J J (aF (j:=1) J J)) (gy 2 12 ?_ ?_)))))))))
  ·refine kh [] J lB Z1 (fa.c ·) (λv6 Z1=>an sz (gy 6 12 ?_ ?_))
   ·refine kh [] J lB Z1 (fa.c ·) (λv7 Z1=>an sz (ha T 4 [7] sz hg pf J (gy 10 12 ?_ ?_)))
    ·refine kh [] J lB Z1 (fa.c ·) (λv8 Z1=>an sz (ha T 2 [11] sz hg pf J (ao 12 (nw T J (λb5=>an (so [0,0,0]) (ao 13 (sf T 3 J (an (so [0,0,0]) (ae (rx T 1 (bq (am (_,_,_,_,_,_,_,_) [0,0,0,0,0] ⟨oi Z1,ak.nil⟩ J J))))))))))))
    refine nw T J (λb6=>an (so [0,0,0]) (ao 10 (kh [] J lB Z1 (fa.c ·) (λv9 Z1=>an (so [0,0,0]) (ha T 1 [11] (so [0,0,0]) hg pf J (ao 13 (sf T 3 J (an (so [0,0,0]) (ae (rx T 1 (bq (am (_,_,_,_,_,_,_,_) [0,0,0,0,0] ⟨oi Z1,ak.nil⟩ J J))))))))))))
   refine nw T J (λb7=>an (so [0,0,0]) (ao 6 (kh [] J lB Z1 (fa.c ·) (λv10 Z1=>an (so [0,0,0]) (ha T 3 [7] (so [0,0,0]) hg pf J (ao 10 (kh [] J lB Z1 (fa.c ·) (λv11 Z1=>an (so [0,0,0]) (ha T 1 [11] (so [0,0,0]) hg pf J (ao 13 (sf T 3 J (an (so [0,0,0]) (ae (rx T 1 (bq (am (_,_,_,_,_,_,_,_) [0,0,0,0,0] ⟨oi Z1,ak.nil⟩ J J))))))))))))))))
  refine nw T J (λb8=>an (so [0,0,0]) (ao 2 (kh [] J lB Z1 (fa.c ·) (λv12 Z1=>an (so [0,0,0]) (ao 6 (kh [] J lB Z1 (fa.c ·) (λfv Z1=>an (so [0,0,0]) (ha T 3 [7] (so [0,0,0]) hg pf J (ao 10 (kh [] J lB Z1 (fa.c ·) (λbY Z1=>an (so [0,0,0]) (ha T 1 [11] (so [0,0,0]) hg pf J (ao 13 (sf T 3 J (an (so [0,0,0]) (ae (rx T 1 (bq (am (_,_,_,_,_,_,_,_) [0,0,0,0,0] ⟨oi Z1,ak.nil⟩ J J)))))))))))))))))))
 rintro _ ⟨x1,x2,x3,x4,b3,a4,n4,H4⟩ ⟨rfl,s4⟩ H;refine rc T 4 (lf T 3 J (ro T 9 (cb J H (λH=>?_) (λH=>?_))))
 ·refine fz J (rg [12] [0,0,0,1] mix (bO bN) (λhg pf=>ha T 12 [0] (so [0,0,0,1]) hg pf J (av 1 (so [0,0,0,1]) hg pf J (aw T J J J J (aF (j:=1) J J)) (ha T 9 [2,3] (so [0,0,0,1]) hg pf J (av 4 (so [0,0,0,1]) hg pf J (aw T J J J J (aF (j:=1) J J)) (ha T 6 [5,7] (so [0,0,0,1]) hg pf J (gy 6 8 ?_ ?_)))))))
  ·refine cV (k:=(Fl.int .u8)) T [2,0,1,0,1,(bQ x.A),(bQ x.B)] J J J J J J J J J (λa9 H9 s9=>an (so [0,0,0,1]) (ao 8 (sf T 3 J (an (so [0,0,0,1]) (ha T 3 [9] (so [0,0,0,1]) hg pf J (ao 10 (sf T 3 J (an (so [0,0,0,1]) (ha T 1 [11] (so [0,0,0,1]) hg pf J (ao 12 (sf T 3 J (an sl (ae (rx T 4 (lm T 3 J (sg T 2 J (ro T 3 ?_)))))))))))))))))
   cases H;exact pb T J (.cO (j:=2) [(ii x1),(ii 0),(ii 0),(ll a9 [2,0,1,0,1,(bQ x.A),(bQ x.B)] (List.length [2,0,1,0,1,(bQ x.A),(bQ x.B)]))] J J J J J J J .nil) [5,0] ⟨(_,_),a9,(List.length [2,0,1,0,1,(bQ x.A),(bQ x.B)]),H9,s9,J,J⟩ J J
  refine sf T 3 J (an (so [0,0,0,1]) (ha T 4 [9] (so [0,0,0,1]) hg pf J (gy 6 10 ?_ ?_)))
  ·refine cV (k:=(Fl.int .u8)) T [2,0,1,0,1,(bQ x.A),(bQ x.B)] J J J J J J J J J (λcy bX bS=>an (so [0,0,0,1]) (ao 10 (sf T 3 J (an (so [0,0,0,1]) (ha T 1 [11] (so [0,0,0,1]) hg pf J (ao 12 (sf T 3 J (an sl (ae (rx T 4 (lm T 3 J (sg T 2 J (ro T 3 ?_)))))))))))))
   cases H;exact pb T J (.cO (j:=2) [(ii x1),(ii 0),(ii 0),(ll cy [2,0,1,0,1,(bQ x.A),(bQ x.B)] (List.length [2,0,1,0,1,(bQ x.A),(bQ x.B)]))] J J J J J J J .nil) [5,0] ⟨(_,_),cy,(List.length [2,0,1,0,1,(bQ x.A),(bQ x.B)]),bX,bS,J,J⟩ J J
  refine sf T 3 J (an (so [0,0,0,1]) (ao 6 (cV (k:=(Fl.int .u8)) T [2,0,1,0,1,(bQ x.A),(bQ x.B)] J J J J J J J J J (λdu cB cS=>an (so [0,0,0,1]) (ha T 1 [11] (so [0,0,0,1]) hg pf J (ao 12 (sf T 3 J (an sl (ae (rx T 4 (lm T 3 J (sg T 2 J (ro T 3 ?_)))))))))))))
  cases H;exact pb T J (.cO (j:=2) [(ii x1),(ii 0),(ii 0),(ll du [2,0,1,0,1,(bQ x.A),(bQ x.B)] (List.length [2,0,1,0,1,(bQ x.A),(bQ x.B)]))] J J J J J J J .nil) [5,0] ⟨(_,_),du,(List.length [2,0,1,0,1,(bQ x.A),(bQ x.B)]),cB,cS,J,J⟩ J J
 refine rc T 6 (cb J H (λH=>?_) (λH=>?_))
 ·refine rc T 3 (lf T 1 J (ro T 2 (k [] J lB H (fa.c ·) (λcx H=>ro T 1 (sg T 3 J (ro T 4 (lf T 1 J (k [] J lB H (fa.c ·) (λd_ H=>ro T 2 (sg T 3 J (ro T 5 (lm T 3 J (sg T 2 J (ro T 1 (ke [4] [0,1,2] J J (rx T 1 (rc T 1 ?_)))))))))))))))))
  cases H;exact pb T J (.cO (j:=1) [(ii x1),(ii cx),(ii (aa (d_*255))),(ll a4 x4 n4)] J J J J J J J .nil) [2,0] ⟨(_,_),a4,n4,H4,s4,J,J⟩ J J
 refine rc T 6 (cb J H (λH=>?_) (λH=>?_))
 ·refine rc T 2 (sg T 3 J (ro T 5 (lm T 3 J (sg T 2 J (ro T 3 ?_)))))
  cases H;exact pb T J (.cO (j:=2) [(ii x1),(ii x2),(ii 0),(ll a4 x4 n4)] J J J J J J J .nil) [4,0] ⟨(_,_),a4,n4,H4,s4,J,J⟩ J J
 refine rc T 5 (lm T 3 J (sg T 2 J (ro T 3 ?_)))
 cases H;exact pb T J (.cO (j:=2) [(ii x1),(ii x2),(ii x3),(ll a4 x4 n4)] J J J J J J J .nil) [4,0] ⟨(_,_),a4,n4,H4,s4,J,J⟩ J J
def nG.l0:Nat->Int->Int->(List Int)->(List sx)->Int->Int->List Int->List dn->Int->Int->Option (List dn)
 |0,_,_,_,_,_,_,_,_,_,_=>none
 |lE+1,w,h,p2,l,x9,aN,bg,bt,aU,bd=>if((decide (bd<(List.length l:Int)))&&(decide (bd<60)))=true then(if(0<=bd/\bd<(List.length l:Int)) then(((fa.f ((rd l bd).A) 0 (aa (aU-1))).bind λv21=>(fa.f ((rd l bd).B) 0 (aa (aU-1))).bind λv22=>some ((0:Int),v21,v22,([]:List Int))).bind λ(dm,c_,dQ,dy)=>((fa.f ((rd l bd).Kind) 0 15).bind λv35=>(if(v35==0)=true then(some (v35==0)) else(if(v35==1)=true then(some (v35==1)) else(some (v35==2)))).bind λv_=>if v_=true then(some (x9,aN,bg,aU,(3:Int),c_,dQ,dy)) else(if(v35==3)=true then((fa.f ((rd l bd).A) 0 9).bind λoy=>some (x9,aN,bg,aU,(4:Int),oy,dQ,dy)) else(if(v35==4)=true then((fa.f ((rd l bd).A) 0 9).bind λv39=>some (x9,aN,bg,aU,(5:Int),v39,(0:Int),dy)) else((if(v35==5)=true then(some (v35==5)) else(some (v35==6))).bind λgh=>if gh=true then((vz.f (bQ ((rd l bd).B))).bind λKS=>some (x9,aN,bg,aU,(2:Int),c_,(aa KS),dy)) else((if(v35==7)=true then(some (v35==7)) else(some (v35==8))).bind λfw=>if fw=true then(some (x9,aN,bg,aU,(6:Int),c_,dQ,dy)) else(if(v35==9)=true then(some (x9,aN,bg,aU,(8:Int),(0:Int),(0:Int),([]:List Int))) else(if(v35==10)=true then(if((Int.tmod (rd l bd).A 4)==0)=true then((kY.f (aa (w+(aa (Int.tdiv (rd l bd).A 4)))) (aa (h+(rd l bd).B)) p2).bind λv45=>(kZ.f v45).bind λv46=>some (v45.W,v45.H,v45.C,(List.length v45.C:Int),(1:Int),(0:Int),(0:Int),v46)) else((fa.f ((rd l bd).B) 0 200).bind λp8=>some (x9,aN,bg,aU,(0:Int),(aa (9+p8)),(0:Int),([]:List Int)))) else(if(v35==11)=true then((xk.f (rd l bd) aU).bind λHD=>some (x9,aN,bg,aU,HD.Kind,HD.A,HD.B,HD.Map)) else(some (x9,aN,bg,aU,(7:Int),(0:Int),(0:Int),([]:List Int))))))))))).bind λ(dC,l9,jE,iY,Bc,Bd,vZ,nS)=>if(List.length bt+1<=1099511627776) then(nG.l0 lE w h p2 l dC l9 jE (bt++[(dn.mk Bc Bd vZ nS)]) iY (aa (bd+1))) else none) else none) else(some bt)
def nG.f (w:Int) (h:Int) (p2:(List Int)) (l:(List sx)):Option (List dn):=(kY.f w h p2).bind λv1=>(kZ.f v1).bind λv2=>nG.l0 fuel w h p2 l v1.W v1.H v1.C [(dn.mk 1 0 0 v2)] (List.length v1.C:Int) 0
def nG.R (r:(List dn)) (u:Value) (G:List Hp):Prop:= ∃(a0:Option Addr) (n0:Nat) (H0:Hp),gv GW 55 r a0 n0 H0/\u=(ll a0 r n0)/\G=[H0]
theorem nG.c (H:nG.f w h p2 l=some r) (FJ:aT (Fl.int .u8) p2 Lj F) (LP:List.length p2<=N9) (df:aT Gr l ir F) (gn:List.length l<=hZ):
 QR 20 [(ii w),(ii h),(ll Lj p2 N9),(ll ir l hZ)] [] [] F (nG.R r):=by
 unfold nG.f at H;refine aB Tryz.func20 J J (λW=>rc T 10 (kr kY.R [] [] J SZ H (kY.c · (rO FJ 0) LP) (λv1 H=>?_)));rintro _ _ ⟨a1,n1,H1,s1,rfl,rfl⟩;refine fz J (nc T J (λb2=>sg T 2 J (ro T 4 (lm T 2 J (kr kZ.R [] [] J M1 H (kZ.c · (oO s1 1) s1.bV) (λv2 H=>?_))))));rintro _ _ ⟨a3,n3,H3,s3,rfl,rfl⟩;refine fz J (ro T 1 (gi [3] J (aX (Fc (kd:=GW) (E:=55) (q:=3) (c:=[(ii 1),(ii 0),(ii 0),(ll a3 v2 n3)]) T (dn.mk 1 0 0 v2) J J J J J J J J J J ⟨a3,n3,H3,s3,J,J⟩ (λa5 H5 s5=>ro T 6 (lf T 2 J (ro T 11 (lq [0,1,2,3,9] [0] (λ(⟨lE,x9,aN,bg,bt,aU,bd,a8,n8,H8,a9,n9,H9⟩:Nat×Int×Int×List Int×List dn×Int×Int×Option Addr×Nat×Hp×Option Addr×Nat×Hp)=>(nG.l0 lE w h p2 l x9 aN bg bt aU bd=some r/\ak (Fl.int .u8) 5 bg a8 n8 H8/\gv GW 55 bt a9 n9 H9,[(10,(ll a9 bt n9)),(11,(ii aU)),(12,(ii bd))],[(cl b2 30 [(ii x9),(ii aN),(ll a8 bg n8)]),H8,H9])) J J (fuel,v1.W,v1.H,v1.C,[(dn.mk 1 0 0 v2)],(List.length v1.C:Int),0,a1,n1,H1,a5,(List.length [(dn.mk 1 0 0 v2)]),H5) [0,1,0,1] ⟨H,s1,s5⟩ J J ?_))))))));rintro lE ⟨x9,aN,bg,bt,aU,bd,a8,n8,H8,a9,n9,H9⟩ ⟨Z3,s8,s9⟩;rw[nG.l0] at Z3;refine rc T 8 (ga T [5,6,7] 30 [0,1,2,3,9,10,11,12] 33 J J J J J J J (ro T 2 (cb J Z3 (λZ3=>?_) (λZ3=>?_))))
 ·refine rc T 8 ?_;obtain⟨c5,Z3⟩:=az Z3;obtain⟨Kn,Ke,pK⟩:=df.addr c5.1 c5.2;refine ix T J pK c5 (br J (fO T (cs:=[(ii (rd l bd).Kind),(ii (rd l bd).A),(ii (rd l bd).B)]) J J J J J J (hJ (k:=Gr) (rO df 0) pK c5 J)) (nc T J (λjG=>sg T 4 J (ro T 2 (mq Z3 [0,1,2,3,9,10,11,12,13] [0,0,0,0,0] (λz20 (⟨dm,c_,dQ,dy,kL,dD,n13,ei⟩:Int×Int×Int×List Int×Nat×Option Addr×Nat×Hp)=>((dm,c_,dQ,dy)=z20/\ak (Fl.int .u8) 5 dy dD n13 ei,[(14,(pp kL))],[(cl kL 55 [(ii dm),(ii c_),(ii dQ),(ll dD dy n13)]),ei])) J J (λz20 Z6 _=>?_) ?_)))))
  ·refine ks [0,1,2,3,9,10,11,12,13] J (fz J (rz [] mix (bO bN) (λhg pf=>ha T 12 [0] sz hg pf J (av 1 sz hg pf J (aw T J J J J (aF (j:=4) J J)) (ha T 8 [2,3,5] sz hg pf J (av 6 sz hg pf J (aw T J J J J (aF (j:=4) J J)) (ha T 5 [7,8] sz hg pf J (gy 4 11 ?_ ?_))))))))
   ·refine kh [] J lB Z6 (fa.c ·) (λv21 Z6=>an sz (gy 9 11 ?_ ?_))
    ·refine kh [] J lB Z6 (fa.c ·) (λv22 Z6=>an sz (ha T 2 [10] sz hg pf J (ao 11 (nw T J (λIE=>an (so [0,0,0,0,0]) (ao 12 (sf T 5 J (an (so [0,0,0,0,0]) (ae (rx T 1 (bq (am (_,_,_,_,_,_,_,_) [0,0,0,0,0,0,0] ⟨oi Z6,ak.nil⟩ J J))))))))))))
    refine nw T J (λmZ=>an (so [0,0,0,0,0]) (ao 9 (kh [] J lB Z6 (fa.c ·) (λv23 Z6=>an (so [0,0,0,0,0]) (ha T 1 [10] (so [0,0,0,0,0]) hg pf J (ao 12 (sf T 5 J (an (so [0,0,0,0,0]) (ae (rx T 1 (bq (am (_,_,_,_,_,_,_,_) [0,0,0,0,0,0,0] ⟨oi Z6,ak.nil⟩ J J))))))))))))
   refine nw T J (λqh=>an (so [0,0,0,0,0]) (ao 4 (kh [] J lB Z6 (fa.c ·) (λv24 Z6=>an (so [0,0,0,0,0]) (ao 9 (kh [] J lB Z6 (fa.c ·) (λv25 Z6=>an (so [0,0,0,0,0]) (ha T 1 [10] (so [0,0,0,0,0]) hg pf J (ao 12 (sf T 5 J (an (so [0,0,0,0,0]) (ae (rx T 1 (bq (am (_,_,_,_,_,_,_,_) [0,0,0,0,0,0,0] ⟨oi Z6,ak.nil⟩ J J)))))))))))))))
  rintro _ ⟨dm,c_,dQ,dy,kL,dD,n13,ei⟩ ⟨rfl,cz⟩ Z3;refine mq Z3 [0,1,2,3,9,10,12,14] [0,2] (λW2 (⟨dC,l9,jE,iY,Bc,Bd,vZ,nS,a17,n17,ek,jc,n18,fc⟩:Int×Int×List Int×Int×Int×Int×Int×List Int×Option Addr×Nat×Hp×Option Addr×Nat×Hp)=>((dC,l9,jE,iY,Bc,Bd,vZ,nS)=W2/\ak (Fl.int .u8) 5 jE a17 n17 ek/\ak (Fl.int .u8) 5 nS jc n18 fc,[(11,(ii iY))],[(cl b2 30 [(ii dC),(ii l9),(ll a17 jE n17)]),ek,(cl kL 55 [(ii Bc),(ii Bd),(ii vZ),(ll jc nS n18)]),fc])) J J (λW2 bp _=>?_) ?_
  ·refine rc T 3 (lf T 4 J (k [] J lB bp (fa.c ·) (λv35 bp=>ro T 3 (mq bp [0,1,2,3,9,10,11,12,13,14,53] [0,0,0,0,0,0,0] (λz37 (v_:Bool)=>(v_=z37,[(55,(bb v_))],[])) J J (λz37 cj _=>?_) ?_))))
   ·refine rc T 6 (cb J cj (λcj=>?_) (λcj=>?_))
    ·refine rc T 2 (am _ [0,0,0,0,0,0,0] (oi cj) J J)
    refine rc T 6 (cb J cj (λcj=>?_) (λcj=>?_))
    ·refine rc T 2 (am _ [0,0,0,0,0,0,0] (oi cj) J J)
    refine rc T 5 (am _ [0,0,0,0,0,0,0] (oi cj) J J)
   rintro _ v_ rfl bp;refine cb J bp (λbp=>?_) (λbp=>?_)
   ·refine rc T 2 (sg T 5 J (ro T 3 (am (_,_,_,_,_,_,_,_,_,_,_,_,_,_) [0,2,0,0,1,1] ⟨oi bp,s8,cz⟩ J J)))
   refine rc T 6 (cb J bp (λbp=>?_) (λbp=>?_))
   ·refine rc T 2 (lf T 4 J (k [] J lB bp (fa.c ·) (λoy bp=>ro T 1 (sg T 5 J (ro T 1 (sg T 5 J (ro T 3 (am (_,_,_,_,_,_,_,_,_,_,_,_,_,_) [0,2,0,0,1,1] ⟨oi bp,s8,cz⟩ J J))))))))
   refine rc T 6 (cb J bp (λbp=>?_) (λbp=>?_))
   ·refine rc T 2 (lf T 4 J (k [] J lB bp (fa.c ·) (λv39 bp=>ro T 1 (sg T 5 J (ro T 1 (sg T 5 J (ro T 1 (sg T 5 J (ro T 3 (am (_,_,_,_,_,_,_,_,_,_,_,_,_,_) [0,2,0,0,1,1] ⟨oi bp,s8,cz⟩ J J))))))))))
   refine mq bp [0,1,2,3,9,10,11,12,13,14,53] [0,0,0,0,0,0,0] (λz41 (gh:Bool)=>(gh=z41,[(75,(bb gh))],[])) J J (λz41 ET _=>?_) ?_
   ·refine rc T 6 (cb J ET (λET=>?_) (λET=>?_))
    ·refine rc T 2 (am _ [0,0,0,0,0,0,0] (oi ET) J J)
    refine rc T 5 (am _ [0,0,0,0,0,0,0] (oi ET) J J)
   rintro _ gh rfl bp;refine cb J bp (λbp=>?_) (λbp=>?_)
   ·refine rc T 2 (lf T 4 J (ro T 1 (k [] J M3 bp (vz.c ·) (λKS bp=>ro T 2 (sg T 5 J (ro T 1 (sg T 5 J (ro T 3 (am (_,_,_,_,_,_,_,_,_,_,_,_,_,_) [0,2,0,0,1,1] ⟨oi bp,s8,cz⟩ J J)))))))))
   refine mq bp [0,1,2,3,9,10,11,12,13,14,53] [0,0,0,0,0,0,0] (λz44 (fw:Bool)=>(fw=z44,[(85,(bb fw))],[])) J J (λz44 EU _=>?_) ?_
   ·refine rc T 6 (cb J EU (λEU=>?_) (λEU=>?_))
    ·refine rc T 2 (am _ [0,0,0,0,0,0,0] (oi EU) J J)
    refine rc T 5 (am _ [0,0,0,0,0,0,0] (oi EU) J J)
   rintro _ fw rfl bp;refine cb J bp (λbp=>?_) (λbp=>?_)
   ·refine rc T 2 (sg T 5 J (ro T 3 (am (_,_,_,_,_,_,_,_,_,_,_,_,_,_) [0,2,0,0,1,1] ⟨oi bp,s8,cz⟩ J J)))
   refine rc T 6 (cb J bp (λbp=>?_) (λbp=>?_))
   ·refine rc T 2 (sg T 5 J (ro T 3 (bq (am (_,_,_,_,_,_,_,_,_,_,_,_,_,_) [0,2,0,0,1,2] ⟨oi bp,s8,ak.nil⟩ J J))))
   refine rc T 6 (cb J bp (λbp=>?_) (λbp=>?_))
   ·refine rc T 3 (lf T 4 J (ro T 4 (cb J bp (λbp=>?_) (λbp=>?_))))
    ·refine rc T 4 (lf T 4 J (ro T 4 (lf T 4 J (ro T 2 (kr kY.R [] [] J SZ bp (kY.c · (rO FJ 0) LP) (λv45 bp=>?_))))));rintro _ _ ⟨mc,n19,kJ,gT,rfl,rfl⟩;refine fz J (sg T 1 J (ro T 5 (lf T 1 J (ro T 5 (lm T 1 J (kr kZ.R [] [] J M1 bp (kZ.c · (oO gT 7) gT.bV) (λv46 bp=>?_)))))));rintro _ _ ⟨a20,n20,nU,lW,rfl,rfl⟩;refine fz J (ro T 1 (sg T 5 J (ro T 3 (am (_,_,_,_,_,_,_,_,_,_,_,_,_,_) [0,2,0,4,2,3] ⟨oi bp,gT,lW⟩ J J))))
    refine rc T 2 (lf T 4 J (k [] J lB bp (fa.c ·) (λp8 bp=>ro T 2 (sg T 5 J (ro T 3 (bq (am (_,_,_,_,_,_,_,_,_,_,_,_,_,_) [0,2,0,0,1,2] ⟨oi bp,s8,ak.nil⟩ J J)))))))
   refine rc T 6 (cb J bp (λbp=>?_) (λbp=>?_))
   ·refine rc T 1 (lm T 4 J (ro T 1 (kr xk.R [] [] J ads bp (xk.c ·) (λHD bp=>?_))));rintro _ _ ⟨a21,n21,lj,jQ,rfl,rfl⟩;refine fz J (sg T 5 J (ro T 3 (am (_,_,_,_,_,_,_,_,_,_,_,_,_,_) [0,2,0,0,1,2] ⟨oi bp,s8,jQ⟩ J J)))
   refine rc T 2 (sg T 5 J (ro T 3 (bq (am (_,_,_,_,_,_,_,_,_,_,_,_,_,_) [0,2,0,0,1,2] ⟨oi bp,s8,ak.nil⟩ J J))))
  rintro _ ⟨dC,l9,jE,iY,Bc,Bd,vZ,nS,a17,n17,ek,jc,n18,fc⟩ ⟨rfl,fq,ft⟩ Z3;refine rc T 2 (lm T 4 J (gi [5] J (aX (Fc (kd:=GW) (E:=55) (q:=5) (c:=[(ii Bc),(ii Bd),(ii vZ),(ll jc nS n18)]) T (dn.mk Bc Bd vZ nS) J J J J J J J J J J ⟨jc,n18,fc,ft,J,J⟩ (λa23 jF gU=>?_)))));obtain⟨Fq,Z3⟩:=az Z3;refine aX (Fb (kd:=GW) (xs:=bt) (ys:=[(dn.mk Bc Bd vZ nS)]) T (g:=1) (q:=6) J J J J J J J J J J s9 J J gU Fq J (λa24 n24 qX lX=>ro T 10 (ar (_,_,_,_,_,_,_,_,_,_,_,_) [0,1,1,0] ⟨Z3,fq,lX⟩ J J)))
 refine rc T 12 ?_
 cases Z3;exact p1 T J [3,0] ⟨a9,n9,H9,s9,J,J⟩ J
end
noncomputable section
def Cf.f (x:Int) (y:Int):Option (Int×Int):=some ((eB ((eB ((eB ((Int.fdiv x (2^32))*(Int.fdiv y (2^32))))+(Int.fdiv (eB ((eB ((Int.fdiv x (2^32))*(eB (BitVec.toNat (BitVec.ofInt (IntKind.bits .u64) y&&&BitVec.ofInt (IntKind.bits .u64) 4294967295)))))+(Int.fdiv (eB ((eB (BitVec.toNat (BitVec.ofInt (IntKind.bits .u64) x&&&BitVec.ofInt (IntKind.bits .u64) 4294967295)))*(eB (BitVec.toNat (BitVec.ofInt (IntKind.bits .u64) y&&&BitVec.ofInt (IntKind.bits .u64) 4294967295))))) (2^32)))) (2^32))))+(Int.fdiv (eB ((eB (BitVec.toNat (BitVec.ofInt (IntKind.bits .u64) (eB ((eB ((Int.fdiv x (2^32))*(eB (BitVec.toNat (BitVec.ofInt (IntKind.bits .u64) y&&&BitVec.ofInt (IntKind.bits .u64) 4294967295)))))+(Int.fdiv (eB ((eB (BitVec.toNat (BitVec.ofInt (IntKind.bits .u64) x&&&BitVec.ofInt (IntKind.bits .u64) 4294967295)))*(eB (BitVec.toNat (BitVec.ofInt (IntKind.bits .u64) y&&&BitVec.ofInt (IntKind.bits .u64) 4294967295))))) (2^32))))&&&BitVec.ofInt (IntKind.bits .u64) 4294967295)))+(eB ((eB (BitVec.toNat (BitVec.ofInt (IntKind.bits .u64) x&&&BitVec.ofInt (IntKind.bits .u64) 4294967295)))*(Int.fdiv y (2^32)))))) (2^32)))),(eB (x*y)))
theorem Cf.c (H:Cf.f x y=some r):
 QU 269 [(uu x),(uu y)] [] F (.tuple #[(uu r.1),(uu r.2)]):=by
 unfold Cf.f at H;refine aB Tryz.func269 J J (λW=>rc T 99 ?_)
 cases H;exact p0 T J [0] J
def sD.f (x:Int) (y:Int):Option (Int×Int):=(Cf.f x y).bind λv1=>some (v1.1,v1.2)
theorem sD.c (H:sD.f x y=some r):
 QU 239 [(uu x),(uu y)] [] F (.tuple #[(uu r.1),(uu r.2)]):=by
 unfold sD.f at H;refine aB Tryz.func239 J J (λW=>rc T 7 (eD J (rc T 6 (k [] J ac5 H (Cf.c ·) (λv1 H=>ro T 16 ?_)))))
 cases H;exact p0 T J [0] J
def GD.f (x:Int):Option Int:=(if x≥4294967296 then(some ((Int.fdiv x (2^32)),(32:Int))) else(some (x,(0:Int)))).bind λ(x1,x2)=>(if x1≥65536 then(some ((Int.fdiv x1 (2^16)),(aa (x2+16)))) else(some (x1,x2))).bind λ(x4,x5)=>if x4≥256 then(if(0<=(bQ (Int.fdiv x4 (2^8)))/\(bQ (Int.fdiv x4 (2^8)))<(List.length Ex:Int)) then(some (aa ((aa (x5+8))+(aa (rd Ex (bQ (Int.fdiv x4 (2^8)))))))) else none) else(if(0<=(bQ x4)/\(bQ x4)<(List.length Ex:Int)) then(some (aa (x5+(aa (rd Ex (bQ x4)))))) else none)
theorem GD.c (H:GD.f x=some r):
 QU 264 [(uu x)] [] F (ii r):=by
 unfold GD.f at H;refine aB Tryz.func264 J J (λW=>rc T 5 (mq H [] [0] (λz3 (⟨x1,x2⟩:Int×Int)=>((x1,x2)=z3,[(0,(uu x1)),(2,(ii x2))],[])) J J (λz3 Z1 _=>?_) ?_))
 ·refine rc T 6 (cd J Z1 (λZ1=>?_) (λZ1=>?_))
  ·refine rc T 11 (am (_,_) [0] (oi Z1) J J)
  refine rc T 2 (am (_,_) [0] (oi Z1) J J)
 rintro _ ⟨x1,x2⟩ rfl H;refine mq H [] [0] (λz6 (⟨x4,x5⟩:Int×Int)=>((x4,x5)=z6,[(0,(uu x4)),(2,(ii x5))],[])) J J (λz6 Z3 _=>?_) ?_
 ·refine rc T 6 (cd J Z3 (λZ3=>?_) (λZ3=>?_))
  ·refine rc T 13 (am (_,_) [0] (oi Z3) J J)
  refine rc T 2 (am (_,_) [0] (oi Z3) J J)
 rintro _ ⟨x4,x5⟩ rfl H;refine rc T 7 (cd J H (λH=>?_) (λH=>?_))
 ·refine rc T 18 ?_;obtain⟨c6,H⟩:=az H;refine br J (Rx T Ex J J J J J c6) (ro T 6 ?_)
  cases H;exact p0 T J [0] J
 refine rc T 7 ?_;obtain⟨c7,H⟩:=az H;refine br J (Rx T Ex J J J J J c7) (ro T 6 ?_)
 cases H;exact p0 T J [0] J
def GC.f (x:Int):Option Int:=(GD.f x).bind λv1=>some v1
theorem GC.c (H:GC.f x=some r):
 QU 235 [(uu x)] [] F (ii r):=by
 unfold GC.f at H;refine aB Tryz.func235 J J (λW=>rc T 6 (eD J (rc T 5 (k [] J ac2 H (GD.c ·) (λv1 H=>ro T 4 ?_)))))
 cases H;exact p0 T J [0] J
end
noncomputable section
def ly.l0:Nat->(Int×Int)->Int->List Int->Int->Option (List Int)
 |0,_,_,_,_=>none
 |yK+1,v1,x2,x9,aN=>if aN<(aa v1.2) then(if(0<=aN/\aN<=(List.length x9:Int)/\(List.length x9:Int)<=(List.length x9:Int)) then(if(0<=(0:Int)/\(0:Int)<=(if x2<aN then x2 else aN)/\(if x2<aN then x2 else aN)<=(List.length x9:Int)) then(ly.l0 yK v1 x2 (cg x9 (Int.toNat aN) (min (List.length (aA x9 0 (if x2<aN then x2 else aN))) (List.length (aA x9 aN (List.length x9:Int)))) (aA x9 0 (if x2<aN then x2 else aN))) (aa (aN+(((min (List.length (aA x9 0 (if x2<aN then x2 else aN))) (List.length (aA x9 aN (List.length x9:Int)))):Nat):Int)))) else none) else none) else(some x9)
def ly.f (b:(List Int)) (count:Int):Option (List Int):=if(count==0)=true then(some ([]:List Int)) else(if count<0 then(none) else((sD.f (eB (List.length b:Int)) (eB count)).bind λv1=>if((decide (v1.1>0))||(decide (v1.2>9223372036854775807)))=true then(none) else(if((List.length b:Int)==0)=true then(some ([]:List Int)) else((if(aa v1.2)>8192 then(if(¬(List.length b:Int)=0) then(if((aa ((aa (Int.tdiv 8192 (List.length b:Int)))*(List.length b:Int)))==0)=true then(some (List.length b:Int)) else(some (aa ((aa (Int.tdiv 8192 (List.length b:Int)))*(List.length b:Int))))) else none) else(some (aa v1.2))).bind λx2=>if(0<=(aa v1.2)/\(aa v1.2)<=1099511627776) then(E8 (Kc (aa v1.2)) (λx4=>if((aa v1.2)=(List.length x4:Int)) then((ly.l0 fuel v1 x2 (cg x4 0 (min (List.length b) (List.length x4)) b) (((min (List.length b) (List.length x4)):Nat):Int)).bind λx5=>some x5) else none)) else none))))
def ly.R (r:(List Int)) (u:Value) (G:List Hp):Prop:= ∃(a0:Option Addr) (n0:Nat) (H0:Hp),ak (Fl.int .u8) 5 r a0 n0 H0/\u=(ll a0 r n0)/\G=[H0]
theorem ly.c (H:ly.f b count=some r) (g_:aT (Fl.int .u8) b jX F) (gm:List.length b<=jL):
 QR 280 [(ll jX b jL),(ii count)] [] [] F (ly.R r):=by
 unfold ly.f at H;refine aB Tryz.func280 J J (λW=>rc T 12 (cb J H (λH=>?_) (λH=>?_)))
 ·refine rc T 2 (aX (cV (k:=(Fl.int .u8)) T ([]:List Int) J J J J J J J J J (λa1 H1 s1=>ro T 5 ?_)))
  cases H;exact p1 T J [1,0] ⟨a1,(List.length ([]:List Int)),H1,s1,J,J⟩ J
 refine rc T 9 (cd J H (λH=>?_) (λH=>?_))
 ·cases H
 refine rc T 9 (k [] J MV H (sD.c ·) (λv1 H=>ro T 13 (go T [3,4,5] 29 [0,6] 32 J J J J J J J (ro T 2 (cb J H (λH=>?_) (λH=>?_))))))
 ·cases H
 refine rc T 17 (cb J H (λH=>?_) (λH=>?_))
 ·refine rc T 2 (aX (cV (k:=(Fl.int .u8)) T ([]:List Int) J J J J J J J J J (λa2 H2 s2=>ro T 5 ?_)))
  cases H;exact p1 T J [1,0] ⟨a2,(List.length ([]:List Int)),H2,s2,J,J⟩ J
 refine rc T 8 (mq H [0,7] [0] (λz3 (x2:Int)=>(x2=z3,[(8,(ii x2))],[])) J J (λz3 Z6 _=>?_) ?_)
 ·refine rc T 6 (cd J Z6 (λZ6=>?_) (λZ6=>?_))
  ·refine rc T 4 ?_;obtain⟨c8,Z6⟩:=az Z6;refine br J (uU J J J c8) (ro T 12 (cb J Z6 (λZ6=>?_) (λZ6=>?_)))
   ·refine rc T 6 (am _ [0] (oi Z6) J J)
   refine rc T 2 (am _ [0] (oi Z6) J J)
  refine rc T 2 (am _ [0] (oi Z6) J J)
 rintro _ x2 rfl H;refine rc T 3 ?_;obtain⟨gk,H⟩:=az H;refine aX (YF T J J J J aeu J gk (λx4 a3 n3 H3 p3_ s3=>?_));replace H:=XU H p3_;refine ro T 2 ?_;obtain⟨eh,H⟩:=az H;refine br J (abo T J J J J J J eh s3.bV) (ro T 7 ?_);have PA:0+(List.length x4)<=List.length x4:=(Mm _);refine aX (Bt (k:=(Fl.int .u8)) (xs:=x4) (ys:=b) (lo:=0) (g:=1) T J J J J J J J J (ak.trim s3 (Nat.le_refl _) s3.bV) (rO g_ 0) (.inl ⟨J,J⟩) PA (λH4 s4=>kf [7,8,60] [0,0] [(9,(ll a3 (cg x4 0 (min (List.length b) (List.length x4)) b) (List.length x4)))] J J ⟨(by first |rfl |(simp only[ll,lO PA];rfl)),trivial⟩ (ro T 3 ?_)))
 refine mq H [] [0] (λz6 (⟨x5,a5,n5,H5⟩:List Int×Option Addr×Nat×Hp)=>(x5=z6/\ak (Fl.int .u8) 5 x5 a5 n5 H5,[(9,(ll a5 x5 n5))],[H5])) J J (λz6 mX _=>?_) ?_
 ·refine rc T 1 (lq [7,8] [0] (λ(⟨yK,x9,aN,a7,n7,H7⟩:Nat×List Int×Int×Option Addr×Nat×Hp)=>(ly.l0 yK v1 x2 x9 aN=some z6/\ak (Fl.int .u8) 5 x9 a7 n7 H7,[(9,(ll a7 x9 n7)),(10,(ii aN))],[H7])) J J (fuel,(cg x4 0 (min (List.length b) (List.length x4)) b),(((min (List.length b) (List.length x4)):Nat):Int),a3,(List.length x4),H4) [0,0] ⟨mX,s4⟩ J J ?_);rintro yK ⟨x9,aN,a7,n7,H7⟩ ⟨cj,s7⟩;rw[ly.l0] at cj;refine rc T 8 (cd J cj (λcj=>?_) (λcj=>?_))
  ·refine rc T 11 (fz J (rz [7] mix (bO bN) (λhg pf=>ha T 7 [0,1,2] sz hg pf J ?_)));obtain⟨pH,cj⟩:=az cj;refine av 3 sz hg pf J (kt T J J J J J J pH s7.bV) (ha T 4 [4,5] sz hg pf J ?_);obtain⟨lz,cj⟩:=az cj;refine av 6 sz hg pf J (kt T J J J J J J lz s7.bV) (ao 7 ?_);have Dd:(Int.toNat aN)+(List.length (aA x9 aN (List.length x9:Int)))<=List.length x9:=(Hz pH);refine Bt (k:=(Fl.int .u8)) (xs:=x9) (ys:=(aA x9 0 (if x2<aN then x2 else aN))) (lo:=(Int.toNat aN)) (g:=1) T J J J J J J J J s7 (mQ (oO s7 1) lz s7.bV) (.inr J) Dd (λH8 s8=>?_)
   have Im:(0<=aN/\aN<=(List.length x9:Int)/\(List.length x9:Int)<=(List.length (cg x9 (Int.toNat aN) (min (List.length (aA x9 0 (if x2<aN then x2 else aN))) (List.length (aA x9 aN (List.length x9:Int)))) (aA x9 0 (if x2<aN then x2 else aN))):Int)):=by simp only[lO Dd];exact pH
   have XA:(0<=(0:Int)/\(0:Int)<=(if x2<aN then x2 else aN)/\(if x2<aN then x2 else aN)<=(List.length (cg x9 (Int.toNat aN) (min (List.length (aA x9 0 (if x2<aN then x2 else aN))) (List.length (aA x9 aN (List.length x9:Int)))) (aA x9 0 (if x2<aN then x2 else aN))):Int)):=by simp only[lO Dd];exact lz
   refine kf [7,8,10,11,67,69,72,74] [0,0] [(9,(ll a7 (cg x9 (Int.toNat aN) (min (List.length (aA x9 0 (if x2<aN then x2 else aN))) (List.length (aA x9 aN (List.length x9:Int)))) (aA x9 0 (if x2<aN then x2 else aN))) n7)),(68,(ll a7 (cg x9 (Int.toNat aN) (min (List.length (aA x9 0 (if x2<aN then x2 else aN))) (List.length (aA x9 aN (List.length x9:Int)))) (aA x9 0 (if x2<aN then x2 else aN))) n7)),(70,(ll (fU a7 n7 (Int.toNat aN) 1) (aA (cg x9 (Int.toNat aN) (min (List.length (aA x9 0 (if x2<aN then x2 else aN))) (List.length (aA x9 aN (List.length x9:Int)))) (aA x9 0 (if x2<aN then x2 else aN))) aN (List.length x9:Int)) (n7-Int.toNat aN))),(71,(ll a7 (cg x9 (Int.toNat aN) (min (List.length (aA x9 0 (if x2<aN then x2 else aN))) (List.length (aA x9 aN (List.length x9:Int)))) (aA x9 0 (if x2<aN then x2 else aN))) n7)),(73,(ll (fU a7 n7 (Int.toNat 0) 1) (aA (cg x9 (Int.toNat aN) (min (List.length (aA x9 0 (if x2<aN then x2 else aN))) (List.length (aA x9 aN (List.length x9:Int)))) (aA x9 0 (if x2<aN then x2 else aN))) 0 (if x2<aN then x2 else aN)) (n7-Int.toNat 0)))] J J ⟨(by first |rfl |(simp only[ll,lO Dd];rfl)),(by first |rfl |(simp only[ll,lO Dd];rfl)),(by simp only[ll];rw[iP Im,<-iP pH];rfl),(by first |rfl |(simp only[ll,lO Dd];rfl)),(by simp only[ll];rw[iP XA,<-iP lz];rfl),trivial⟩ (an sl (hb T 8 sl hg pf J (hb T 9 sl hg pf J (ae (rx T 2 ?_)))))
   exact ar (_,_,_,_,_) [0,0] ⟨cj,s8⟩ J J
  refine rc T 5 (am (_,_,_,_) [0,0] ⟨oi cj,s7⟩ J J)
 rintro _ ⟨x5,a5,n5,H5⟩ ⟨rfl,s5⟩ H;refine rc T 7 ?_
 cases H;exact p1 T J [1,0] ⟨a5,n5,H5,s5,J,J⟩ J
def Dq.f (a:(List Int)) (b:(List Int)):Option Bool:=some (Hw a b)
theorem Dq.c (H:Dq.f a b=some r) (DE:aT (Fl.int .u8) a E3 F) (LN:List.length a<=GN) (g_:aT (Fl.int .u8) b jX F) (gm:List.length b<=jL):
 QU 254 [(ll E3 a GN),(ll jX b jL)] [] F (bb r):=by
 unfold Dq.f at H;refine aB Tryz.func254 J J (λW=>rc T 8 (br J (Ry T J J J J J (rO DE 0)) (ro T 1 (br J (Ry T J J J J J (rO g_ 0)) (br J (abn J J J) (ro T 4 ?_))))))
 cases H;exact p0 T J [0] J
end
noncomputable section
def cmp_isNaN_int.f (x:Int):Option Bool:=some (x !=x)
theorem cmp_isNaN_int.c (H:cmp_isNaN_int.f x=some r):
 QU 265 [(ii x)] [] F (bb r):=by
 unfold cmp_isNaN_int.f at H;refine aB Tryz.func265 J J (λW=>rc T 14 ?_)
 cases H;exact p0 T J [0] J
def sa.f (x:Int) (y:Int):Option Int:=(cmp_isNaN_int.f x).bind λv1=>(cmp_isNaN_int.f y).bind λv2=>if v1=true then(if v2=true then(some 0) else(some (-1))) else(if v2=true then(some 1) else(if x<y then(some (-1)) else(if x>y then(some 1) else(some 0))))
theorem sa.c (H:sa.f x y=some r):
 QU 237 [(ii x),(ii y)] [] F (ii r):=by
 unfold sa.f at H;refine aB Tryz.func237 J J (λW=>rc T 8 (k [] J Jk H (cmp_isNaN_int.c ·) (λv1 H=>ro T 6 (k [] J Jk H (cmp_isNaN_int.c ·) (λv2 H=>ro T 9 (cb J H (λH=>?_) (λH=>?_)))))))
 ·refine rc T 6 (cb J H (λH=>?_) (λH=>?_))
  ·refine rc T 8 ?_
   cases H;exact p0 T J [0] J
  refine rc T 9 ?_
  cases H;exact p0 T J [0] J
 refine rc T 8 (cb J H (λH=>?_) (λH=>?_))
 ·refine rc T 7 ?_
  cases H;exact p0 T J [0] J
 refine rc T 10 (cd J H (λH=>?_) (λH=>?_))
 ·refine rc T 7 ?_
  cases H;exact p0 T J [0] J
 refine rc T 10 (cd J H (λH=>?_) (λH=>?_))
 ·refine rc T 7 ?_
  cases H;exact p0 T J [0] J
 refine rc T 8 ?_
 cases H;exact p0 T J [0] J
def mB.l0:Nat->(List Int)->Int->Option Int
 |0,_,_=>none
 |k3+1,tl,x2=>if x2<(List.length tl:Int) then(if(0<=x2/\x2<(List.length tl:Int)) then(if((rd tl x2)!=0)=true then(some (rd tl x2)) else(mB.l0 k3 tl (aa (x2+1)))) else none) else(some 0)
def mB.f (tl:(List Int)):Option Int:=mB.l0 fuel tl 0
theorem mB.c (H:mB.f tl=some r) (R8:aT (Fl.int .i64) tl XI F) (ajc:List.length tl<=afK):
 QU 236 [(ll XI tl afK)] [] F (ii r):=by
 unfold mB.f at H;refine aB Tryz.func236 J J (λW=>rc T 19 (lq [3,6,7] [0] (λ(⟨k3,x2⟩:Nat×Int)=>(mB.l0 k3 tl x2=some r,[(8,(ii x2))],[])) J J (fuel,0) [0] H J J ?_));rintro k3 x2 Z1;replace Z1:mB.l0 (k3+1) tl x2=some r:=Z1;rw[mB.l0] at Z1;refine rc T 6 (cd J Z1 (λZ1=>?_) (λZ1=>?_))
 ·refine rc T 6 ?_;obtain⟨c3,Z1⟩:=az Z1;obtain⟨q1,o1,e1⟩:=R8.addr c3.1 c3.2;refine ix T J e1 c3 (le T 0 (rO R8 0) e1 c3 J J (ro T 10 (cb J Z1 (λZ1=>?_) (λZ1=>?_))))
  ·refine rc T 12 ?_
   cases Z1;exact p0 T J [0] J
  refine rc T 8 (ar _ [0] Z1 J J)
 refine rc T 12 ?_
 cases Z1;exact p0 T J [0] J
def cmp_Less_int.f (x:Int) (y:Int):Option Bool:=((cmp_isNaN_int.f x).bind λv3=>if v3=true then((cmp_isNaN_int.f y).bind λv4=>some ((!v4)||(decide (x<y)))) else(some (decide (x<y)))).bind λx1=>some x1
theorem cmp_Less_int.c (H:cmp_Less_int.f x y=some r):
 QU 300 [(ii x),(ii y)] [] F (bb r):=by
 unfold cmp_Less_int.f at H;refine aB Tryz.func300 J J (λW=>rc T 5 (mq H [] [0] (λz2 (x1:Bool)=>(x1=z2,[(4,(bb x1))],[])) J J (λz2 Z1 _=>?_) ?_))
 ·refine rc T 2 (k [] J Jk Z1 (cmp_isNaN_int.c ·) (λv3 Z1=>ro T 1 (ab 7 J Z1 (λZ1=>?_) (λZ1=>?_))))
  ·refine ro T 1 (k [] J Jk Z1 (cmp_isNaN_int.c ·) (λv4 Z1=>ro T 3 (go T [8,9,10,11] 12 [] 16 J J J J J J J (ro T 3 (am _ [0] (oi Z1) J J)))))
  refine ro T 12 (am _ [0] (oi Z1) J J)
 rintro _ x1 rfl H;refine rc T 1 ?_
 cases H;exact p0 T J [0] J
end
noncomputable section
def qN.l0:Nat->(List Int)->Int->Int->Option Int
 |0,_,_,_=>none
 |k3+1,s,v,x2=>if x2<(List.length s:Int) then(if(0<=x2/\x2<(List.length s:Int)) then(if(v==(rd s x2))=true then(some x2) else(qN.l0 k3 s v (aa (x2+1)))) else none) else(some (-1))
def qN.f (s:(List Int)) (v:Int):Option Int:=qN.l0 fuel s v 0
theorem qN.c (H:qN.f s v=some r) (iK:aT (Fl.int .u8) s iu F) (qn:List.length s<=iA):
 QU 231 [(ll iu s iA),(.int .u8 v)] [] F (ii r):=by
 unfold qN.f at H;refine aB Tryz.func231 J J (λW=>rc T 14 (lq [0,1,7] [0] (λ(⟨k3,x2⟩:Nat×Int)=>(qN.l0 k3 s v x2=some r,[(8,(ii x2))],[])) J J (fuel,0) [0] H J J ?_));rintro k3 x2 Z1;replace Z1:qN.l0 (k3+1) s v x2=some r:=Z1;rw[qN.l0] at Z1;refine rc T 6 (cd J Z1 (λZ1=>?_) (λZ1=>?_))
 ·refine rc T 15 ?_;obtain⟨c3,Z1⟩:=az Z1;obtain⟨q1,o1,e1⟩:=iK.addr c3.1 c3.2;refine ix T J e1 c3 (le T 0 (rO iK 0) e1 c3 J J (ro T 3 (cb J Z1 (λZ1=>?_) (λZ1=>?_))))
  ·refine rc T 12 ?_
   cases Z1;exact p0 T J [0] J
  refine rc T 8 (ar _ [0] Z1 J J)
 refine rc T 11 ?_
 cases Z1;exact p0 T J [0] J
def vQ.f (s:(List Int)) (v:Int):Option Bool:=(qN.f s v).bind λv1=>some (decide (v1≥0))
theorem vQ.c (H:vQ.f s v=some r) (iK:aT (Fl.int .u8) s iu F) (qn:List.length s<=iA):
 QU 194 [(ll iu s iA),(.int .u8 v)] [] F (bb r):=by
 unfold vQ.f at H;refine aB Tryz.func194 J J (λW=>rc T 9 (k [] J acK H (qN.c · (rO iK 0) qn) (λv1 H=>ro T 5 ?_)))
 cases H;exact p0 T J [0] J
def nL.f (s:(List Int)):Option (List Int):=if(List.length ([]:List Int)+List.length s<=1099511627776) then(some (([]:List Int)++s)) else none
def nL.R (r:(List Int)) (u:Value) (G:List Hp):Prop:= ∃(a0:Option Addr) (n0:Nat) (H0:Hp),ak (Fl.int .u8) 5 r a0 n0 H0/\u=(ll a0 r n0)/\G=[H0]
theorem nL.c (H:nL.f s=some r) (iK:aT (Fl.int .u8) s iu F) (qn:List.length s<=iA):
 QR 103 [(ll iu s iA)] [] [] F (nL.R r):=by
 unfold nL.f at H;refine aB Tryz.func103 J J (λW=>rc T 12 (zI J (λc1=>?_) (λc1=>?_)))
 ·have hx:s=[]:=Ka iK c1;replace H:some []=some r:=by simpa[hx] using H
  refine rc T 7 ?_
  cases H;refine bq (p1 T J [1,0] ⟨none,0,[],ak.nil,J,J⟩ J)
 refine rc T 4 (aX (cV (k:=(Fl.int .u8)) T ([]:List Int) J J J J J J J J J (λa2 H2 s2=>ro T 1 ?_)));obtain⟨c2,H⟩:=az H;refine aX (dR (k:=(Fl.int .u8)) (xs:=([]:List Int)) T (g:=1) J J J J J J J J J J s2 (rO iK 0) c2 J (λa3 n3 H3 s3=>ro T 4 ?_))
 cases H;exact p1 T J [1,0] ⟨a3,n3,H3,s3,J,J⟩ J
def rK.f (s:(List a_)):Option (List a_):=if(List.length ([]:List a_)+List.length s<=1099511627776) then(some (([]:List a_)++s)) else none
def rK.R (r:(List a_)) (u:Value) (G:List Hp):Prop:= ∃(a0:Option Addr) (n0:Nat) (H0:Hp),ak cI 285 r a0 n0 H0/\u=(ll a0 r n0)/\G=[H0]
theorem rK.c (H:rK.f s=some r) (iK:aT cI s iu F) (qn:List.length s<=iA):
 QR 189 [(ll iu s iA)] [] [] F (rK.R r):=by
 unfold rK.f at H;refine aB Tryz.func189 J J (λW=>rc T 12 (zI J (λc1=>?_) (λc1=>?_)))
 ·have hx:s=[]:=Ka iK c1;replace H:some []=some r:=by simpa[hx] using H
  refine rc T 7 ?_
  cases H;refine bq (p1 T J [1,0] ⟨none,0,[],ak.nil,J,J⟩ J)
 refine rc T 4 (aX (cV (k:=cI) T ([]:List a_) J J J J J J J J J (λa2 H2 s2=>ro T 1 ?_)));obtain⟨c2,H⟩:=az H;refine aX (dR (k:=cI) (xs:=([]:List a_)) T (g:=1) J J J J J J J J J J s2 (rO iK 0) c2 J (λa3 n3 H3 s3=>ro T 4 ?_))
 cases H;exact p1 T J [1,0] ⟨a3,n3,H3,s3,J,J⟩ J
def jC.l1:Nat->(List a_)->Int->List a_->Int->Int->Option (List a_)
 |0,_,_,_,_,_=>none
 |wS+1,s,x2,x7,x8,x9=>if x9<(List.length (aA x7 x2 (List.length s:Int)):Int) then(if(0<=x9/\x9<(List.length (aA x7 x2 (List.length s:Int)):Int)) then(if(0<=(aa (x9-1))/\(aa (x9-1))<(List.length (aA x7 x2 (List.length s:Int)):Int)) then(if(!(((rd (aA x7 x2 (List.length s:Int)) x9).Cell==(rd (aA x7 x2 (List.length s:Int)) (aa (x9-1))).Cell)&&(((rd (aA x7 x2 (List.length s:Int)) x9).cL==(rd (aA x7 x2 (List.length s:Int)) (aa (x9-1))).cL)&&(((rd (aA x7 x2 (List.length s:Int)) x9).Key==(rd (aA x7 x2 (List.length s:Int)) (aa (x9-1))).Key)&&true))))=true then(if(0<=x8/\x8<(List.length x7:Int)) then(jC.l1 wS s x2 (List.set x7 (Int.toNat x8) (rd (aA x7 x2 (List.length s:Int)) x9)) (aa (x8+1)) (aa (x9+1))) else none) else(jC.l1 wS s x2 x7 x8 (aa (x9+1)))) else none) else none) else(if(0<=x8/\x8<=(List.length x7:Int)/\(List.length x7:Int)<=(List.length x7:Int)) then(if(0<=(0:Int)/\(0:Int)<=x8/\x8<=(List.length (cg x7 (Int.toNat x8) (List.length (aA x7 x8 (List.length x7:Int))) (List.replicate (List.length (aA x7 x8 (List.length x7:Int))) (default:a_))):Int)) then(some (aA (cg x7 (Int.toNat x8) (List.length (aA x7 x8 (List.length x7:Int))) (List.replicate (List.length (aA x7 x8 (List.length x7:Int))) (default:a_))) 0 x8)) else none) else none)
def jC.l0:Nat->(List a_)->Int->Option (List a_)
 |0,_,_=>none
 |k3+1,s,x2=>if x2<(List.length s:Int) then(if(0<=x2/\x2<(List.length s:Int)) then(if(0<=(aa (x2-1))/\(aa (x2-1))<(List.length s:Int)) then(if(((rd s x2).Cell==(rd s (aa (x2-1))).Cell)&&(((rd s x2).cL==(rd s (aa (x2-1))).cL)&&(((rd s x2).Key==(rd s (aa (x2-1))).Key)&&true)))=true then(if(0<=x2/\x2<=(List.length s:Int)/\(List.length s:Int)<=(List.length s:Int)) then(jC.l1 fuel s x2 s x2 1) else none) else(jC.l0 k3 s (aa (x2+1)))) else none) else none) else(some s)
def jC.f (s:(List a_)):Option (List a_):=if(List.length s:Int)<2 then(some s) else(jC.l0 fuel s 1)
def jC.R (r:(List a_)) (u:Value) (G:List Hp):Prop:= ∃(a0:Option Addr) (n0:Nat) (H0:Hp),ak cI 285 r a0 n0 H0/\u=(ll a0 r n0)/\G=[H0]
theorem jC.c (H:jC.f s=some r) (cT:ak cI 285 s iu iA dL):
 QR 210 [(ll iu s iA)] [dL] [] F (jC.R r):=by
 unfold jC.f at H;refine aB Tryz.func210 J J (λW=>rc T 13 (cd J H (λH=>?_) (λH=>?_)))
 ·refine rc T 8 ?_
  cases H;exact p1 T J [0,0] ⟨iu,iA,dL,cT,J,J⟩ J
 refine rc T 9 (lq [0] [1,0] (λ(⟨k3,x2⟩:Nat×Int)=>(jC.l0 k3 s x2=some r,[(3,(ii x2))],[])) J J (fuel,1) [1,0] H J J ?_);rintro k3 x2 Z2;replace Z2:jC.l0 (k3+1) s x2=some r:=Z2;rw[jC.l0] at Z2;refine rc T 9 (cd J Z2 (λZ2=>?_) (λZ2=>?_))
 ·refine rc T 5 (dA mix ay (aj T J (aj T J ?_)));obtain⟨c4,Z2⟩:=az Z2;obtain⟨q2,o2,e2⟩:=cT.r.addr c4.1 c4.2;refine aO J J J (cn T J J J J J e2 c4.1 c4.2) (aO J J J (fO T (cs:=[(ii (rd s x2).Cell),(ii (rd s x2).cL),(ii (rd s x2).Key)]) J J J J J J (hJ (k:=cI) (oO cT 1) e2 c4 J)) (aj T J (aj T J (aj T J ?_))));obtain⟨c5,Z2⟩:=az Z2;refine aO J J J (cn T J J J J J e2 c5.1 c5.2) (aO J J J (fO T (cs:=[(ii (rd s (aa (x2-1))).Cell),(ii (rd s (aa (x2-1))).cL),(ii (rd s (aa (x2-1))).Key)]) J J J J J J (hJ (k:=cI) (oO cT 1) e2 c5 J)) (aO J J J (abi T (((rd s x2).Cell==(rd s (aa (x2-1))).Cell)&&(((rd s x2).cL==(rd s (aa (x2-1))).cL)&&(((rd s x2).Key==(rd s (aa (x2-1))).Key)&&true))) J J J J O0 ay J) (cH (rx T 1 (cb J Z2 (λZ2=>?_) (λZ2=>?_))))))
  ·refine rc T 4 ?_;obtain⟨c7,Z2⟩:=az Z2;refine br J (kt T J J J J J J c7 cT.bV) (ro T 10 (lq [] [0] (λ(⟨wS,x7,x8,x9,a5,n5,H5⟩:Nat×List a_×Int×Int×Option Addr×Nat×Hp)=>(jC.l1 wS s x2 x7 x8 x9=some r/\ak cI 285 x7 a5 n5 H5/\(0<=x2/\x2<=(List.length s:Int)/\(List.length s:Int)<=(List.length x7:Int)),[(0,(ll a5 x7 n5)),(3,(ii x8)),(4,(ll (fU a5 n5 (Int.toNat x2) 3) (aA x7 x2 (List.length s:Int)) (n5-Int.toNat x2))),(5,(ii x9))],[H5])) J J (fuel,s,x2,1,iu,iA,dL) [0,0] ⟨Z2,cT,c7⟩ J J ?_));rintro wS ⟨x7,x8,x9,a5,n5,H5⟩ ⟨Z8,s5,zo⟩;rw[jC.l1] at Z8;refine rc T 9 (cd J Z8 (λZ8=>?_) (λZ8=>?_))
   ·refine rc T 5 (dA mix ay (aj T J (aj T J ?_)));obtain⟨gk,Z8⟩:=az Z8;obtain⟨q7,o7,e7⟩:=(mQ s5.r zo s5.bV).addr gk.1 gk.2;refine aO J J J (cn T J J J J J e7 gk.1 gk.2) (aO J J J (fO T (cs:=[(ii (rd (aA x7 x2 (List.length s:Int)) x9).Cell),(ii (rd (aA x7 x2 (List.length s:Int)) x9).cL),(ii (rd (aA x7 x2 (List.length s:Int)) x9).Key)]) J J J J J J (hJ (k:=cI) (mQ (oO s5 1) zo s5.bV) e7 gk J)) (aj T J (aj T J (aj T J ?_))));obtain⟨eh,Z8⟩:=az Z8;refine aO J J J (cn T J J J J J e7 eh.1 eh.2) (aO J J J (fO T (cs:=[(ii (rd (aA x7 x2 (List.length s:Int)) (aa (x9-1))).Cell),(ii (rd (aA x7 x2 (List.length s:Int)) (aa (x9-1))).cL),(ii (rd (aA x7 x2 (List.length s:Int)) (aa (x9-1))).Key)]) J J J J J J (hJ (k:=cI) (mQ (oO s5 1) zo s5.bV) e7 eh J)) (aO J J J (Mn T (((rd (aA x7 x2 (List.length s:Int)) x9).Cell==(rd (aA x7 x2 (List.length s:Int)) (aa (x9-1))).Cell)&&(((rd (aA x7 x2 (List.length s:Int)) x9).cL==(rd (aA x7 x2 (List.length s:Int)) (aa (x9-1))).cL)&&(((rd (aA x7 x2 (List.length s:Int)) x9).Key==(rd (aA x7 x2 (List.length s:Int)) (aa (x9-1))).Key)&&true))) J J J J O0 ay J) (cH (rx T 1 (cb J Z8 (λZ8=>?_) (λZ8=>?_))))))
    ·refine rc T 6 (ix T J e7 gk (br J (fO T (cs:=[(ii (rd (aA x7 x2 (List.length s:Int)) x9).Cell),(ii (rd (aA x7 x2 (List.length s:Int)) x9).cL),(ii (rd (aA x7 x2 (List.length s:Int)) x9).Key)]) J J J J J J (hJ (k:=cI) (mQ (oO s5 1) zo s5.bV) e7 gk J)) ?_));obtain⟨je,Z8⟩:=az Z8;obtain⟨q8,o8,e8⟩:=s5.r.addr je.1 je.2;refine ix T J e8 je (aX (kK (k:=cI) T 1 0 (rd (aA x7 x2 (List.length s:Int)) x9) J J J J J J s5 e8 je J J J (λH9 s9=>?_)));have PC:(0<=x2/\x2<=(List.length s:Int)/\(List.length s:Int)<=(List.length (List.set x7 (Int.toNat x8) (rd (aA x7 x2 (List.length s:Int)) x9)):Int)):=by simp only[List.length_set];exact zo
     have PD:(0<=x2/\x2<=(List.length s:Int)/\(List.length s:Int)<=(List.length (List.set x7 (Int.toNat x8) (rd (aA x7 x2 (List.length s:Int)) x9)):Int)):=by simp only[List.length_set];exact zo
     refine kf [3,5] [0,0] [(0,(ll a5 (List.set x7 (Int.toNat x8) (rd (aA x7 x2 (List.length s:Int)) x9)) n5)),(4,(ll (fU a5 n5 (Int.toNat x2) 3) (aA (List.set x7 (Int.toNat x8) (rd (aA x7 x2 (List.length s:Int)) x9)) x2 (List.length s:Int)) (n5-Int.toNat x2)))] J J ⟨(by first |rfl |(simp only[ll,List.length_set];rfl)),(by simp only[ll];rw[iP PC,<-iP zo];rfl),trivial⟩ (ro T 15 ?_)
     exact ar (_,_,_,_,_,_) [0,0] ⟨Z8,s9,PC⟩ J J
    refine rc T 9 (ar (_,_,_,_,_,_) [0,0] ⟨Z8,s5,zo⟩ J J)
   refine rc T 9 ?_;obtain⟨pH,Z8⟩:=az Z8;refine br J (kt T J J J J J J pH s5.bV) ?_;have Ik:(Int.toNat x8)+(List.length (aA x7 x8 (List.length x7:Int)))<=List.length x7:=(Hz pH);refine aX (Yt (k:=cI) (xs:=x7) (lo:=(Int.toNat x8)) (g:=1) T (default:a_) J J J J J J J J s5 (.inr J) Ik (λbX bS=>?_));have PE:(0<=x2/\x2<=(List.length s:Int)/\(List.length s:Int)<=(List.length (cg x7 (Int.toNat x8) (List.length (aA x7 x8 (List.length x7:Int))) (List.replicate (List.length (aA x7 x8 (List.length x7:Int))) (default:a_))):Int)):=by simp only[LU Ik];exact zo
   have Im:(0<=x8/\x8<=(List.length x7:Int)/\(List.length x7:Int)<=(List.length (cg x7 (Int.toNat x8) (List.length (aA x7 x8 (List.length x7:Int))) (List.replicate (List.length (aA x7 x8 (List.length x7:Int))) (default:a_))):Int)):=by simp only[LU Ik];exact pH
   refine kf [3] [0,0] [(0,(ll a5 (cg x7 (Int.toNat x8) (List.length (aA x7 x8 (List.length x7:Int))) (List.replicate (List.length (aA x7 x8 (List.length x7:Int))) (default:a_))) n5))] J J ⟨(by first |rfl |(simp only[ll,LU Ik];rfl)),trivial⟩ (ro T 6 ?_)
   obtain⟨Fm,Z8⟩:=az Z8;refine br J (kt T J J J J J J Fm bS.bV) (ro T 9 ?_)
   cases Z8;exact p1 T J [1,0] ⟨(fU a5 n5 (Int.toNat 0) 3),(n5-Int.toNat 0),bX,(ak.pre bS Fm),J,J⟩ J
  refine rc T 9 (ar _ [0,0] Z2 J J)
 refine rc T 12 ?_
 cases Z2;exact p1 T J [1,0] ⟨iu,iA,dL,cT,J,J⟩ J
def ka.l0:Nat->List Int->Int->Option (List Int)
 |0,_,_=>none
 |k8+1,x6,x7=>if x7<(List.length x6:Int) then(if(0<=x7/\x7<=(List.length x6:Int)/\(List.length x6:Int)<=(List.length x6:Int)) then(if(0<=(0:Int)/\(0:Int)<=x7/\x7<=(List.length x6:Int)) then(ka.l0 k8 (cg x6 (Int.toNat x7) (min (List.length (aA x6 0 x7)) (List.length (aA x6 x7 (List.length x6:Int)))) (aA x6 0 x7)) (aa (x7+(((min (List.length (aA x6 0 x7)) (List.length (aA x6 x7 (List.length x6:Int)))):Nat):Int)))) else none) else none) else(some x6)
def ka.f (x:(List Int)) (count:Int):Option (List Int):=if count<0 then(none) else((sD.f (eB (List.length x:Int)) (eB count)).bind λv1=>if((decide (v1.1>0))||(decide (v1.2>9223372036854775807)))=true then(none) else(if(0<=(aa v1.2)/\(aa v1.2)<=1099511627776) then((ka.l0 fuel (cg (List.replicate (Int.toNat (aa v1.2)) (0:Int)) 0 (min (List.length x) (List.length (List.replicate (Int.toNat (aa v1.2)) (0:Int)))) x) (((min (List.length x) (List.length (List.replicate (Int.toNat (aa v1.2)) (0:Int)))):Nat):Int)).bind λx2=>some x2) else none))
def ka.R (r:(List Int)) (u:Value) (G:List Hp):Prop:= ∃(a0:Option Addr) (n0:Nat) (H0:Hp),ak (Fl.int .i64) 3 r a0 n0 H0/\u=(ll a0 r n0)/\G=[H0]
theorem ka.c (H:ka.f x count=some r) (yu:aT (Fl.int .i64) x E4 F) (Qz:List.length x<=GO):
 QR 248 [(ll E4 x GO),(ii count)] [] [] F (ka.R r):=by
 unfold ka.f at H;refine aB Tryz.func248 J J (λW=>rc T 12 (cd J H (λH=>?_) (λH=>?_)))
 ·cases H
 refine rc T 9 (k [] J MV H (sD.c ·) (λv1 H=>ro T 13 (go T [3,4,5] 23 [0,6] 26 J J J J J J J (ro T 2 (cb J H (λH=>?_) (λH=>?_))))))
 ·cases H
 refine rc T 6 ?_;obtain⟨c4,H⟩:=az H;refine aX (x_ (k:=(Fl.int .i64)) T (0:Int) J J J J J J J J c4 J (λa1 n1 H1 s1=>ro T 7 ?_));have L5:0+(List.length (List.replicate (Int.toNat (aa v1.2)) (0:Int)))<=List.length (List.replicate (Int.toNat (aa v1.2)) (0:Int)):=(Mm _);refine aX (Bt (k:=(Fl.int .i64)) (xs:=(List.replicate (Int.toNat (aa v1.2)) (0:Int))) (ys:=x) (lo:=0) (g:=1) T J J J J J J J J s1 (rO yu 0) (.inl ⟨J,J⟩) L5 (λH2 s2=>kf [33] [0,0] [(7,(ll a1 (cg (List.replicate (Int.toNat (aa v1.2)) (0:Int)) 0 (min (List.length x) (List.length (List.replicate (Int.toNat (aa v1.2)) (0:Int)))) x) n1))] J J ⟨(by first |rfl |(simp only[ll,lO L5];rfl)),trivial⟩ (ro T 3 ?_)))
 refine mq H [] [0] (λz3 (⟨x2,a3,n3,H3⟩:List Int×Option Addr×Nat×Hp)=>(x2=z3/\ak (Fl.int .i64) 3 x2 a3 n3 H3,[(7,(ll a3 x2 n3))],[H3])) J J (λz3 Z6 _=>?_) ?_
 ·refine rc T 1 (lq [] [0] (λ(⟨k8,x6,x7,a5,n5,H5⟩:Nat×List Int×Int×Option Addr×Nat×Hp)=>(ka.l0 k8 x6 x7=some z3/\ak (Fl.int .i64) 3 x6 a5 n5 H5,[(7,(ll a5 x6 n5)),(8,(ii x7))],[H5])) J J (fuel,(cg (List.replicate (Int.toNat (aa v1.2)) (0:Int)) 0 (min (List.length x) (List.length (List.replicate (Int.toNat (aa v1.2)) (0:Int)))) x),(((min (List.length x) (List.length (List.replicate (Int.toNat (aa v1.2)) (0:Int)))):Nat):Int),a1,n1,H2) [0,0] ⟨Z6,s2⟩ J J ?_);rintro k8 ⟨x6,x7,a5,n5,H5⟩ ⟨Z7,s5⟩;rw[ka.l0] at Z7;refine rc T 9 (cd J Z7 (λZ7=>?_) (λZ7=>?_))
  ·refine rc T 3 (fz J (rz [7] mix (bO bN) (λhg pf=>ha T 7 [0,1,2] sz hg pf J ?_)));obtain⟨c9,Z7⟩:=az Z7;refine av 3 sz hg pf J (kt T J J J J J J c9 s5.bV) (ha T 4 [4,5] sz hg pf J ?_);obtain⟨gk,Z7⟩:=az Z7;refine av 6 sz hg pf J (kt T J J J J J J gk s5.bV) (ao 7 ?_);have rS:(Int.toNat x7)+(List.length (aA x6 x7 (List.length x6:Int)))<=List.length x6:=(Hz c9);refine Bt (k:=(Fl.int .i64)) (xs:=x6) (ys:=(aA x6 0 x7)) (lo:=(Int.toNat x7)) (g:=1) T J J J J J J J J s5 (mQ (oO s5 1) gk s5.bV) (.inr J) rS (λH6 s6=>?_);have La:(0<=x7/\x7<=(List.length x6:Int)/\(List.length x6:Int)<=(List.length (cg x6 (Int.toNat x7) (min (List.length (aA x6 0 x7)) (List.length (aA x6 x7 (List.length x6:Int)))) (aA x6 0 x7)):Int)):=by simp only[lO rS];exact c9
   have Lb:(0<=(0:Int)/\(0:Int)<=x7/\x7<=(List.length (cg x6 (Int.toNat x7) (min (List.length (aA x6 0 x7)) (List.length (aA x6 x7 (List.length x6:Int)))) (aA x6 0 x7)):Int)):=by simp only[lO rS];exact gk
   refine kf [8,37,38,40,43,45] [0,0] [(7,(ll a5 (cg x6 (Int.toNat x7) (min (List.length (aA x6 0 x7)) (List.length (aA x6 x7 (List.length x6:Int)))) (aA x6 0 x7)) n5)),(39,(ll a5 (cg x6 (Int.toNat x7) (min (List.length (aA x6 0 x7)) (List.length (aA x6 x7 (List.length x6:Int)))) (aA x6 0 x7)) n5)),(41,(ll (fU a5 n5 (Int.toNat x7) 1) (aA (cg x6 (Int.toNat x7) (min (List.length (aA x6 0 x7)) (List.length (aA x6 x7 (List.length x6:Int)))) (aA x6 0 x7)) x7 (List.length x6:Int)) (n5-Int.toNat x7))),(42,(ll a5 (cg x6 (Int.toNat x7) (min (List.length (aA x6 0 x7)) (List.length (aA x6 x7 (List.length x6:Int)))) (aA x6 0 x7)) n5)),(44,(ll (fU a5 n5 (Int.toNat 0) 1) (aA (cg x6 (Int.toNat x7) (min (List.length (aA x6 0 x7)) (List.length (aA x6 x7 (List.length x6:Int)))) (aA x6 0 x7)) 0 x7) (n5-Int.toNat 0)))] J J ⟨(by first |rfl |(simp only[ll,lO rS];rfl)),(by first |rfl |(simp only[ll,lO rS];rfl)),(by simp only[ll];rw[iP La,<-iP c9];rfl),(by first |rfl |(simp only[ll,lO rS];rfl)),(by simp only[ll];rw[iP Lb,<-iP gk];rfl),trivial⟩ (an sl (hb T 8 sl hg pf J (hb T 9 sl hg pf J (ae (rx T 2 ?_)))))
   exact ar (_,_,_,_,_) [0,0] ⟨Z7,s6⟩ J J
  refine rc T 5 (am (_,_,_,_) [0,0] ⟨oi Z7,s5⟩ J J)
 rintro _ ⟨x2,a3,n3,H3⟩ ⟨rfl,s3⟩ H;refine rc T 7 ?_
 cases H;exact p1 T J [1,0] ⟨a3,n3,H3,s3,J,J⟩ J
def pA.l0:Nat->List Int->Int->Option (List Int)
 |0,_,_=>none
 |k8+1,x6,x7=>if x7<(List.length x6:Int) then(if(0<=x7/\x7<=(List.length x6:Int)/\(List.length x6:Int)<=(List.length x6:Int)) then(if(0<=(0:Int)/\(0:Int)<=x7/\x7<=(List.length x6:Int)) then(pA.l0 k8 (cg x6 (Int.toNat x7) (min (List.length (aA x6 0 x7)) (List.length (aA x6 x7 (List.length x6:Int)))) (aA x6 0 x7)) (aa (x7+(((min (List.length (aA x6 0 x7)) (List.length (aA x6 x7 (List.length x6:Int)))):Nat):Int)))) else none) else none) else(some x6)
def pA.f (x:(List Int)) (count:Int):Option (List Int):=if count<0 then(none) else((sD.f (eB (List.length x:Int)) (eB count)).bind λv1=>if((decide (v1.1>0))||(decide (v1.2>9223372036854775807)))=true then(none) else(if(0<=(aa v1.2)/\(aa v1.2)<=1099511627776) then((pA.l0 fuel (cg (List.replicate (Int.toNat (aa v1.2)) (0:Int)) 0 (min (List.length x) (List.length (List.replicate (Int.toNat (aa v1.2)) (0:Int)))) x) (((min (List.length x) (List.length (List.replicate (Int.toNat (aa v1.2)) (0:Int)))):Nat):Int)).bind λx2=>some x2) else none))
def pA.R (r:(List Int)) (u:Value) (G:List Hp):Prop:= ∃(a0:Option Addr) (n0:Nat) (H0:Hp),ak (Fl.int .i32) 21 r a0 n0 H0/\u=(ll a0 r n0)/\G=[H0]
theorem pA.c (H:pA.f x count=some r) (yu:aT (Fl.int .i32) x E4 F) (Qz:List.length x<=GO):
 QR 212 [(ll E4 x GO),(ii count)] [] [] F (pA.R r):=by
 unfold pA.f at H;refine aB Tryz.func212 J J (λW=>rc T 12 (cd J H (λH=>?_) (λH=>?_)))
 ·cases H
 refine rc T 9 (k [] J MV H (sD.c ·) (λv1 H=>ro T 13 (go T [3,4,5] 23 [0,6] 26 J J J J J J J (ro T 2 (cb J H (λH=>?_) (λH=>?_))))))
 ·cases H
 refine rc T 6 ?_;obtain⟨c4,H⟩:=az H;refine aX (x_ (k:=(Fl.int .i32)) T (0:Int) J J J J J J J J c4 J (λa1 n1 H1 s1=>ro T 7 ?_));have L5:0+(List.length (List.replicate (Int.toNat (aa v1.2)) (0:Int)))<=List.length (List.replicate (Int.toNat (aa v1.2)) (0:Int)):=(Mm _);refine aX (Bt (k:=(Fl.int .i32)) (xs:=(List.replicate (Int.toNat (aa v1.2)) (0:Int))) (ys:=x) (lo:=0) (g:=1) T J J J J J J J J s1 (rO yu 0) (.inl ⟨J,J⟩) L5 (λH2 s2=>kf [33] [0,0] [(7,(ll a1 (cg (List.replicate (Int.toNat (aa v1.2)) (0:Int)) 0 (min (List.length x) (List.length (List.replicate (Int.toNat (aa v1.2)) (0:Int)))) x) n1))] J J ⟨(by first |rfl |(simp only[ll,lO L5];rfl)),trivial⟩ (ro T 3 ?_)))
 refine mq H [] [0] (λz3 (⟨x2,a3,n3,H3⟩:List Int×Option Addr×Nat×Hp)=>(x2=z3/\ak (Fl.int .i32) 21 x2 a3 n3 H3,[(7,(ll a3 x2 n3))],[H3])) J J (λz3 Z6 _=>?_) ?_
 ·refine rc T 1 (lq [] [0] (λ(⟨k8,x6,x7,a5,n5,H5⟩:Nat×List Int×Int×Option Addr×Nat×Hp)=>(pA.l0 k8 x6 x7=some z3/\ak (Fl.int .i32) 21 x6 a5 n5 H5,[(7,(ll a5 x6 n5)),(8,(ii x7))],[H5])) J J (fuel,(cg (List.replicate (Int.toNat (aa v1.2)) (0:Int)) 0 (min (List.length x) (List.length (List.replicate (Int.toNat (aa v1.2)) (0:Int)))) x),(((min (List.length x) (List.length (List.replicate (Int.toNat (aa v1.2)) (0:Int)))):Nat):Int),a1,n1,H2) [0,0] ⟨Z6,s2⟩ J J ?_);rintro k8 ⟨x6,x7,a5,n5,H5⟩ ⟨Z7,s5⟩;rw[pA.l0] at Z7;refine rc T 9 (cd J Z7 (λZ7=>?_) (λZ7=>?_))
  ·refine rc T 3 (fz J (rz [7] mix (bO bN) (λhg pf=>ha T 7 [0,1,2] sz hg pf J ?_)));obtain⟨c9,Z7⟩:=az Z7;refine av 3 sz hg pf J (kt T J J J J J J c9 s5.bV) (ha T 4 [4,5] sz hg pf J ?_);obtain⟨gk,Z7⟩:=az Z7;refine av 6 sz hg pf J (kt T J J J J J J gk s5.bV) (ao 7 ?_);have rS:(Int.toNat x7)+(List.length (aA x6 x7 (List.length x6:Int)))<=List.length x6:=(Hz c9);refine Bt (k:=(Fl.int .i32)) (xs:=x6) (ys:=(aA x6 0 x7)) (lo:=(Int.toNat x7)) (g:=1) T J J J J J J J J s5 (mQ (oO s5 1) gk s5.bV) (.inr J) rS (λH6 s6=>?_);have La:(0<=x7/\x7<=(List.length x6:Int)/\(List.length x6:Int)<=(List.length (cg x6 (Int.toNat x7) (min (List.length (aA x6 0 x7)) (List.length (aA x6 x7 (List.length x6:Int)))) (aA x6 0 x7)):Int)):=by simp only[lO rS];exact c9
   have Lb:(0<=(0:Int)/\(0:Int)<=x7/\x7<=(List.length (cg x6 (Int.toNat x7) (min (List.length (aA x6 0 x7)) (List.length (aA x6 x7 (List.length x6:Int)))) (aA x6 0 x7)):Int)):=by simp only[lO rS];exact gk
   refine kf [8,37,38,40,43,45] [0,0] [(7,(ll a5 (cg x6 (Int.toNat x7) (min (List.length (aA x6 0 x7)) (List.length (aA x6 x7 (List.length x6:Int)))) (aA x6 0 x7)) n5)),(39,(ll a5 (cg x6 (Int.toNat x7) (min (List.length (aA x6 0 x7)) (List.length (aA x6 x7 (List.length x6:Int)))) (aA x6 0 x7)) n5)),(41,(ll (fU a5 n5 (Int.toNat x7) 1) (aA (cg x6 (Int.toNat x7) (min (List.length (aA x6 0 x7)) (List.length (aA x6 x7 (List.length x6:Int)))) (aA x6 0 x7)) x7 (List.length x6:Int)) (n5-Int.toNat x7))),(42,(ll a5 (cg x6 (Int.toNat x7) (min (List.length (aA x6 0 x7)) (List.length (aA x6 x7 (List.length x6:Int)))) (aA x6 0 x7)) n5)),(44,(ll (fU a5 n5 (Int.toNat 0) 1) (aA (cg x6 (Int.toNat x7) (min (List.length (aA x6 0 x7)) (List.length (aA x6 x7 (List.length x6:Int)))) (aA x6 0 x7)) 0 x7) (n5-Int.toNat 0)))] J J ⟨(by first |rfl |(simp only[ll,lO rS];rfl)),(by first |rfl |(simp only[ll,lO rS];rfl)),(by simp only[ll];rw[iP La,<-iP c9];rfl),(by first |rfl |(simp only[ll,lO rS];rfl)),(by simp only[ll];rw[iP Lb,<-iP gk];rfl),trivial⟩ (an sl (hb T 8 sl hg pf J (hb T 9 sl hg pf J (ae (rx T 2 ?_)))))
   exact ar (_,_,_,_,_) [0,0] ⟨Z7,s6⟩ J J
  refine rc T 5 (am (_,_,_,_) [0,0] ⟨oi Z7,s5⟩ J J)
 rintro _ ⟨x2,a3,n3,H3⟩ ⟨rfl,s3⟩ H;refine rc T 7 ?_
 cases H;exact p1 T J [1,0] ⟨a3,n3,H3,s3,J,J⟩ J
def pZ.f (s:(List Int)):Option (List Int):=if(List.length ([]:List Int)+List.length s<=1099511627776) then(some (([]:List Int)++s)) else none
def pZ.R (r:(List Int)) (u:Value) (G:List Hp):Prop:= ∃(a0:Option Addr) (n0:Nat) (H0:Hp),ak (Fl.int .i64) 3 r a0 n0 H0/\u=(ll a0 r n0)/\G=[H0]
theorem pZ.c (H:pZ.f s=some r) (iK:aT (Fl.int .i64) s iu F) (qn:List.length s<=iA):
 QR 227 [(ll iu s iA)] [] [] F (pZ.R r):=by
 unfold pZ.f at H;refine aB Tryz.func227 J J (λW=>rc T 12 (zI J (λc1=>?_) (λc1=>?_)))
 ·have hx:s=[]:=Ka iK c1;replace H:some []=some r:=by simpa[hx] using H
  refine rc T 7 ?_
  cases H;refine bq (p1 T J [1,0] ⟨none,0,[],ak.nil,J,J⟩ J)
 refine rc T 4 (aX (cV (k:=(Fl.int .i64)) T ([]:List Int) J J J J J J J J J (λa2 H2 s2=>ro T 1 ?_)));obtain⟨c2,H⟩:=az H;refine aX (dR (k:=(Fl.int .i64)) (xs:=([]:List Int)) T (g:=1) J J J J J J J J J J s2 (rO iK 0) c2 J (λa3 n3 H3 s3=>ro T 4 ?_))
 cases H;exact p1 T J [1,0] ⟨a3,n3,H3,s3,J,J⟩ J
def AW.f (x:Int):Option Bool:=some (x !=x)
theorem AW.c (H:AW.f x=some r):
 QU 301 [(ii x)] [] F (bb r):=by
 unfold AW.f at H;refine aB Tryz.func301 J J (λW=>rc T 14 ?_)
 cases H;exact p0 T J [0] J
def ot.l0:Nat->(List Int)->Int->Int->Int->Option Int
 |0,_,_,_,_=>none
 |k7+1,x,target,x5,x6=>if x5<x6 then(if(0<=(aa (Int.fdiv (eB (aa (x5+x6))) (2^1)))/\(aa (Int.fdiv (eB (aa (x5+x6))) (2^1)))<(List.length x:Int)) then((cmp_Less_int.f (rd x (aa (Int.fdiv (eB (aa (x5+x6))) (2^1)))) target).bind λv8=>if v8=true then(ot.l0 k7 x target (aa ((aa (Int.fdiv (eB (aa (x5+x6))) (2^1)))+1)) x6) else(ot.l0 k7 x target x5 (aa (Int.fdiv (eB (aa (x5+x6))) (2^1))))) else none) else(some x5)
def ot.f (x:(List Int)) (target:Int):Option (Int×Bool):=(ot.l0 fuel x target 0 (List.length x:Int)).bind λx1=>(if x1<(List.length x:Int) then(if(0<=x1/\x1<(List.length x:Int)) then(if((rd x x1)==target)=true then(some true) else((AW.f (rd x x1)).bind λv11=>if v11=true then((AW.f target).bind λv12=>some v12) else(some false))) else none) else(some false)).bind λx9=>some (x1,x9)
theorem ot.c (H:ot.f x target=some r) (yu:aT (Fl.int .i64) x E4 F) (Qz:List.length x<=GO):
 QU 289 [(ll E4 x GO),(ii target)] [] F (.tuple #[(ii r.1),(bb r.2)]):=by
 unfold ot.f at H;refine aB Tryz.func289 J J (λW=>rc T 20 (mq H [0,1,6] [0] (λz2 (x1:Int)=>(x1=z2,[(7,(ii x1))],[])) J J (λz2 Z1 _=>?_) ?_))
 ·refine rc T 1 (lq [0,1,6] [0] (λ(⟨k7,x5,x6⟩:Nat×Int×Int)=>(ot.l0 k7 x target x5 x6=some z2,[(7,(ii x5)),(8,(ii x6))],[])) J J (fuel,0,(List.length x:Int)) [0] Z1 J J ?_);rintro k7 ⟨x5,x6⟩ Z2;replace Z2:ot.l0 (k7+1) x target x5 x6=some z2:=Z2;rw[ot.l0] at Z2;refine rc T 8 (cd J Z2 (λZ2=>?_) (λZ2=>?_))
  ·refine rc T 18 ?_;obtain⟨c4,Z2⟩:=az Z2;obtain⟨q1,o1,e1⟩:=yu.addr c4.1 c4.2;refine ix T J e1 c4 (le T 0 (rO yu 0) e1 c4 J J (ro T 1 (k [] J adk Z2 (cmp_Less_int.c ·) (λv8 Z2=>ro T 2 (cb J Z2 (λZ2=>?_) (λZ2=>?_))))))
   ·refine rc T 7 (ar (_,_) [0] Z2 J J)
   refine rc T 6 (ar (_,_) [0] Z2 J J)
  refine rc T 5 (am _ [0] (oi Z2) J J)
 rintro _ x1 rfl H;refine mq H [] [0] (λnT (x9:Bool)=>(x9=nT,[(4,(ii x1)),(5,(bb x9))],[])) J J (λnT Z7 _=>?_) ?_
 ·refine rc T 6 (ad 35 J Z7 (λZ7=>?_) (λZ7=>?_))
  ·refine ro T 2 ?_;obtain⟨c9,Z7⟩:=az Z7;obtain⟨q2,o2,e2⟩:=yu.addr c9.1 c9.2;refine ix T J e2 c9 (le T 0 (rO yu 0) e2 c9 J J (ro T 3 (ab 42 J Z7 (λZ7=>?_) (λZ7=>?_))))
   ·refine ro T 15 (am _ [0] (oi Z7) J J)
   refine ro T 2 (ix T J e2 c9 (le T 0 (rO yu 0) e2 c9 J J (k [] J SX Z7 (AW.c ·) (λv11 Z7=>ro T 1 (ab 48 J Z7 (λZ7=>?_) (λZ7=>?_))))))
   ·refine ro T 1 (k [] J SX Z7 (AW.c ·) (λv12 Z7=>ro T 7 (am _ [0] (oi Z7) J J)))
   refine ro T 9 (am _ [0] (oi Z7) J J)
  refine ro T 22 (am _ [0] (oi Z7) J J)
 rintro _ x9 rfl H;refine rc T 1 ?_
 cases H;exact p0 T J [0] J
def qJ.l0:Nat->(List a_)->(List a_)->Int->Option Bool
 |0,_,_,_=>none
 |k3+1,ag,ai,x2=>if x2<(List.length ag:Int) then(if(0<=x2/\x2<(List.length ag:Int)) then(if(0<=x2/\x2<(List.length ai:Int)) then(if(!(((rd ag x2).Cell==(rd ai x2).Cell)&&(((rd ag x2).cL==(rd ai x2).cL)&&(((rd ag x2).Key==(rd ai x2).Key)&&true))))=true then(some false) else(qJ.l0 k3 ag ai (aa (x2+1)))) else none) else none) else(some true)
def qJ.f (ag:(List a_)) (ai:(List a_)):Option Bool:=if((List.length ag:Int)!=(List.length ai:Int))=true then(some false) else(qJ.l0 fuel ag ai 0)
theorem qJ.c (H:qJ.f ag ai=some r) (Aa:aT cI ag Li F) (ZG:List.length ag<=N8) (R6:aT cI ai XG F) (ajb:List.length ai<=afI):
 QU 226 [(ll Li ag N8),(ll XG ai afI)] [] F (bb r):=by
 unfold qJ.f at H;refine aB Tryz.func226 J J (λW=>rc T 15 (cb J H (λH=>?_) (λH=>?_)))
 ·refine rc T 7 ?_
  cases H;exact p0 T J [0] J
 refine rc T 11 (lq [0,1,12] [0] (λ(⟨k3,x2⟩:Nat×Int)=>(qJ.l0 k3 ag ai x2=some r,[(13,(ii x2))],[])) J J (fuel,0) [0] H J J ?_);rintro k3 x2 Z2;replace Z2:qJ.l0 (k3+1) ag ai x2=some r:=Z2;rw[qJ.l0] at Z2;refine rc T 6 (cd J Z2 (λZ2=>?_) (λZ2=>?_))
 ·refine rc T 11 (dA mix ay (aj T J (aj T J ?_)));obtain⟨c4,Z2⟩:=az Z2;obtain⟨q1,o1,e1⟩:=Aa.addr c4.1 c4.2;refine aO J J J (cn T J J J J J e1 c4.1 c4.2) (aO J J J (fO T (cs:=[(ii (rd ag x2).Cell),(ii (rd ag x2).cL),(ii (rd ag x2).Key)]) J J J J J J (hJ (k:=cI) (rO Aa 0) e1 c4 J)) (aj T J (aj T J ?_)));obtain⟨c5,Z2⟩:=az Z2;obtain⟨q2,o2,e2⟩:=R6.addr c5.1 c5.2;refine aO J J J (cn T J J J J J e2 c5.1 c5.2) (aO J J J (fO T (cs:=[(ii (rd ai x2).Cell),(ii (rd ai x2).cL),(ii (rd ai x2).Key)]) J J J J J J (hJ (k:=cI) (rO R6 0) e2 c5 J)) (aO J J J (Mn T (((rd ag x2).Cell==(rd ai x2).Cell)&&(((rd ag x2).cL==(rd ai x2).cL)&&(((rd ag x2).Key==(rd ai x2).Key)&&true))) J J J J O0 ay J) (cH (rx T 1 (cb J Z2 (λZ2=>?_) (λZ2=>?_))))))
  ·refine rc T 11 ?_
   cases Z2;exact p0 T J [0] J
  refine rc T 8 (ar _ [0] Z2 J J)
 refine rc T 11 ?_
 cases Z2;exact p0 T J [0] J
def zj.f (s:(List Int)):Option (List Int):=if(List.length ([]:List Int)+List.length s<=1099511627776) then(some (([]:List Int)++s)) else none
def zj.R (r:(List Int)) (u:Value) (G:List Hp):Prop:= ∃(a0:Option Addr) (n0:Nat) (H0:Hp),ak (Fl.int .u32) 65 r a0 n0 H0/\u=(ll a0 r n0)/\G=[H0]
theorem zj.c (H:zj.f s=some r) (iK:aT (Fl.int .u32) s iu F) (qn:List.length s<=iA):
 QR 138 [(ll iu s iA)] [] [] F (zj.R r):=by
 unfold zj.f at H;refine aB Tryz.func138 J J (λW=>rc T 12 (zI J (λc1=>?_) (λc1=>?_)))
 ·have hx:s=[]:=Ka iK c1;replace H:some []=some r:=by simpa[hx] using H
  refine rc T 7 ?_
  cases H;refine bq (p1 T J [1,0] ⟨none,0,[],ak.nil,J,J⟩ J)
 refine rc T 4 (aX (cV (k:=(Fl.int .u32)) T ([]:List Int) J J J J J J J J J (λa2 H2 s2=>ro T 1 ?_)));obtain⟨c2,H⟩:=az H;refine aX (dR (k:=(Fl.int .u32)) (xs:=([]:List Int)) T (g:=1) J J J J J J J J J J s2 (rO iK 0) c2 J (λa3 n3 H3 s3=>ro T 4 ?_))
 cases H;exact p1 T J [1,0] ⟨a3,n3,H3,s3,J,J⟩ J
end
noncomputable section
def A5.f (n:Int):Option Bool:=some ((decide (n≥1))&&(decide (n<=16)))
theorem A5.c (H:A5.f n=some r):
 QU 245 [(ii n)] [] F (bb r):=by
 unfold A5.f at H;refine aB Tryz.func245 J J (λW=>rc T 10 (ga T [3,4,5] 5 [] 8 J J J J J J J (ro T 4 ?_)))
 cases H;exact p0 T J [0] J
def tg.f (t:aJ):Option Bool:=((A5.f t.W).bind λv3=>if v3=true then((A5.f t.H).bind λv4=>if v4=true then(if((List.length t.C:Int)==(aa (t.W*t.H)))=true then((vQ.f t.C 0).bind λv5=>some (!v5)) else(some false)) else(some false)) else(some false)).bind λx1=>some x1
theorem tg.c (H:tg.f t=some r) (dM:aT (Fl.int .u8) t.C iv F) (fg:List.length t.C<=iB):
 QU 220 [(.agg #[(ii t.W),(ii t.H),(ll iv t.C iB)])] [] F (bb r):=by
 unfold tg.f at H;refine aB Tryz.func220 J J (λW=>rc T 2 (nc T J (λb1=>ro T 3 (mq H [] [0] (λz2 (x1:Bool)=>(x1=z2,[(2,(bb x1))],[])) J J (λz2 Z1 _=>?_) ?_))))
 ·refine rc T 2 (lf T 1 J (k [] J SL Z1 (A5.c ·) (λv3 Z1=>ro T 1 (ab 6 J Z1 (λZ1=>?_) (λZ1=>?_)))))
  ·refine ro T 1 (lf T 1 J (k [] J SL Z1 (A5.c ·) (λv4 Z1=>ro T 2 (ab 11 J Z1 (λZ1=>?_) (λZ1=>?_)))))
   ·refine ro T 1 (lf T 1 J (ro T 2 (lf T 1 J (ro T 1 (lf T 1 J (ro T 4 (ab 22 J Z1 (λZ1=>?_) (λZ1=>?_))))))))
    ·refine ro T 1 (lf T 1 J (k [] J MR Z1 (vQ.c · (rO dM 0) fg) (λv5 Z1=>ro T 5 (am _ [0] (oi Z1) J J))))
    refine ro T 8 (am _ [0] (oi Z1) J J)
   refine ro T 19 (am _ [0] (oi Z1) J J)
  refine ro T 24 (am _ [0] (oi Z1) J J)
 rintro _ x1 rfl H;refine rc T 1 ?_
 cases H;exact p0 T J [0] J
def Ez.f (t:aJ) (ai:Int):Option Bool:=(if ai≥0 then(if ai<(List.length t.C:Int) then((tg.f t).bind λv3=>some v3) else(some false)) else(some false)).bind λx1=>some x1
theorem Ez.c (H:Ez.f t ai=some r) (dM:aT (Fl.int .u8) t.C iv F) (fg:List.length t.C<=iB):
 QU 299 [(.agg #[(ii t.W),(ii t.H),(ll iv t.C iB)]),(ii ai)] [] F (bb r):=by
 unfold Ez.f at H;refine aB Tryz.func299 J J (λW=>rc T 2 (nc T J (λb1=>ro T 3 (mq H [] [0] (λz2 (x1:Bool)=>(x1=z2,[(4,(bb x1))],[])) J J (λz2 Z1 _=>?_) ?_))))
 ·refine rc T 4 (ad 7 J Z1 (λZ1=>?_) (λZ1=>?_))
  ·refine ro T 2 (lf T 1 J (ro T 4 (ad 14 J Z1 (λZ1=>?_) (λZ1=>?_))))
   ·refine lm T 1 J (k [] J Jj Z1 (tg.c · (rO dM 0) fg) (λv3 Z1=>ro T 4 (am _ [0] (oi Z1) J J)))
   refine ro T 6 (am _ [0] (oi Z1) J J)
  refine ro T 13 (am _ [0] (oi Z1) J J)
 rintro _ x1 rfl H;refine rc T 1 ?_
 cases H;exact p0 T J [0] J
def A4.f (t:aJ) (ai:Int):Option Int:=(Ez.f t ai).bind λv1=>if(!v1)=true then(some 0) else(if(0<=ai/\ai<(List.length t.C:Int)) then(some (aa (rd t.C ai))) else none)
theorem A4.c (H:A4.f t ai=some r) (dM:aT (Fl.int .u8) t.C iv F) (fg:List.length t.C<=iB):
 QU 288 [(.agg #[(ii t.W),(ii t.H),(ll iv t.C iB)]),(ii ai)] [] F (ii r):=by
 unfold A4.f at H;refine aB Tryz.func288 J J (λW=>rc T 2 (nc T J (λb1=>ro T 6 (lm T 1 J (ro T 1 (k [] J adj H (Ez.c · (rO dM 0) fg) (λv1 H=>ro T 3 (cb J H (λH=>?_) (λH=>?_)))))))))
 ·refine rc T 7 ?_
  cases H;exact p0 T J [0] J
 refine rc T 5 (lf T 1 J (ro T 1 ?_));obtain⟨c3,H⟩:=az H;obtain⟨q2,o2,e2⟩:=dM.addr c3.1 c3.2;refine ix T J e2 c3 (le T 0 (rO dM 0) e2 c3 J J (ro T 5 ?_))
 cases H;exact p0 T J [0] J
end
end Go.Proofs.YthodkonhneebbaaGreatDoor
