/- What the functions of some packages compute, each as a function of plain Lean, with its contract. No condition. -/
import Derived.Test.YthodkonhneebbaaGreatDoorKT
namespace Go.Proofs.YthodkonhneebbaaGreatDoor
open Go.Hx
set_option maxRecDepth 100000
set_option linter.unusedSimpArgs false
set_option linter.unusedVariables false
set_option maxHeartbeats 4000000
set_option autoImplicit true
set_option relaxedAutoImplicit true
noncomputable section
def e_.f (n:Int) (lo:Int) (hi:Int):Option Int:=if(¬(aa ((aa (hi-lo))+1))=0) then(if(Int.tmod n (aa ((aa (hi-lo))+1)))<0 then(some (aa (lo+(aa ((aa ((aa ((Int.tmod n (aa ((aa (hi-lo))+1)))+hi))-lo))+1))))) else(some (aa (lo+(Int.tmod n (aa ((aa (hi-lo))+1))))))) else none
theorem e_.c (H:e_.f n lo hi=some r):
 QU 12 [(ii n),(ii lo),(ii hi)] [] F (ii r):=by
 unfold e_.f at H;refine aB Tryz.func12 J J (λW=>rc T 12 ?_);obtain⟨c1,H⟩:=az H;refine bp J (uZ J J J c1) (ro T 10 (cd J H (λH=>?_) (λH=>?_)))
 ·refine rc T 19 ?_
  cases H;exact p0 T J [0] J
 refine rc T 11 ?_
 cases H;exact p0 T J [0] J
def vF.f (x:Int):Option Int:=if((Int.tmod x 8)==7)=true then(some 255) else(if x<160 then(some (bP (1+(Int.tmod x 4)))) else(some x))
theorem vF.c (H:vF.f x=some r):
 QU 49 [(.int .u8 x)] [] F (.int .u8 r):=by
 unfold vF.f at H;refine aB Tryz.func49 J J (λW=>rc T 13 (cb J H (λH=>?_) (λH=>?_)))
 ·refine rc T 7 ?_
  cases H;exact p0 T J [0] J
 refine rc T 9 (cd J H (λH=>?_) (λH=>?_))
 ·refine rc T 10 ?_
  cases H;exact p0 T J [0] J
 refine rc T 9 ?_
 cases H;exact p0 T J [0] J
def kW.l0:Nat->(List Int)->Int->Int->List Int->Int->Option aJ
 |0,_,_,_,_,_=>none
 |k7+1,p2,v1,v2,x5,x6=>if x6<(aa (v1*v2)) then(if(List.length p2:Int)>0 then(if(¬(List.length p2:Int)=0) then(if(¬(List.length p2:Int)=0) then(if(0<=(Int.tmod (aa (x6+(aa ((aa (Int.tdiv x6 (List.length p2:Int)))*5)))) (List.length p2:Int))/\(Int.tmod (aa (x6+(aa ((aa (Int.tdiv x6 (List.length p2:Int)))*5)))) (List.length p2:Int))<(List.length p2:Int)) then((vF.f (rd p2 (Int.tmod (aa (x6+(aa ((aa (Int.tdiv x6 (List.length p2:Int)))*5)))) (List.length p2:Int)))).bind λv8=>if(List.length x5+1<=1099511627776) then(kW.l0 k7 p2 v1 v2 (x5++[v8]) (aa (x6+1))) else none) else none) else none) else none) else((vF.f 1).bind λv9=>if(List.length x5+1<=1099511627776) then(kW.l0 k7 p2 v1 v2 (x5++[v9]) (aa (x6+1))) else none)) else(some (aJ.mk v1 v2 x5))
def kW.f (w:Int) (h:Int) (p2:(List Int)):Option aJ:=(e_.f w 1 40).bind λv1=>(e_.f h 1 40).bind λv2=>kW.l0 fuel p2 v1 v2 [] 0
def kW.R (r:aJ) (u:Value) (G:List Hp):Prop:= ∃(a0:Option Addr) (n0:Nat) (H0:Hp),aj (Fl.int .u8) 5 r.C a0 n0 H0/\u=(.agg #[(ii r.W),(ii r.H),(ll a0 r.C n0)])/\G=[H0]
theorem kW.c (H:kW.f w h p2=some r) (FK:aS (Fl.int .u8) p2 Lp F) (LW:List.length p2<=Ob):
 QR 48 [(ii w),(ii h),(ll Lp p2 Ob)] [] [] F (kW.R r):=by
 unfold kW.f at H;refine aB Tryz.func48 J J (λW=>rc T 2 (nc T J (λb1=>ro T 5 (k [] J lA H (e_.c ·) (λv1 H=>ro T 1 (k [] J lA H (e_.c ·) (λv2 H=>ro T 1 (nc T J (λb2=>sg T 2 J (ro T 9 (br (lq [2,6,7] [0,0] (λ(⟨k7,x5,x6,a4,n4,H4⟩:Nat×List Int×Int×Option Addr×Nat×Hp)=>(kW.l0 k7 p2 v1 v2 x5 x6=some r/\aj (Fl.int .u8) 5 x5 a4 n4 H4,[(8,(ii x6))],[(cl b2 30 [(ii v1),(ii v2),(ll a4 x5 n4)]),H4])) J J (fuel,[],0,none,0,[]) [0,0,0,0] ⟨H,aj.nil⟩ J J ?_))))))))))));rintro k7 ⟨x5,x6,a4,n4,H4⟩ ⟨Z3,s4⟩;rw[kW.l0] at Z3;refine rc T 5 (lf T 2 J (ro T 1 (lf T 2 J (ro T 4 (cd J Z3 (λZ3=>?_) (λZ3=>?_))))))
 ·refine rc T 23 (cd J Z3 (λZ3=>?_) (λZ3=>?_))
  ·refine rc T 5 ?_;obtain⟨c6,Z3⟩:=az Z3;refine bp J (uY J J J c6) (ro T 3 ?_);obtain⟨c7,Z3⟩:=az Z3;refine bp J (uZ J J J c7) ?_;obtain⟨c8,Z3⟩:=az Z3;obtain⟨q5,o5,e5⟩:=FK.addr c8.1 c8.2;refine ix T J e5 c8 (le T 0 (rO FK 0) e5 c8 J J (ro T 3 (fz J (rg [5,7] [0,0,0,0] mix (bO bN) (λhg pf=>ha T 7 [0] sz hg pf J (av 1 sz hg pf J (aw T J J J J (aD (j:=2) J J)) (ha T 5 [2] sz hg pf J (ao 3 (kh [] J M9 Z3 (vF.c ·) (λv8 Z3=>an sz (ao 4 (cU (k:=(Fl.int .u8)) T [v8] J J J J J J J J J (λa6 H6 s6=>an (so [0,0,0,0]) (ao 5 ?_))))))))))))));obtain⟨gk,Z3⟩:=az Z3;refine dM (k:=(Fl.int .u8)) (xs:=x5) T (g:=3) J J J J J J J J J J s4 (oO s6 4) gk J (λa7 n7 H7 s7=>an sl (hb T 6 sl hg pf J (ao 7 (sf T 2 J (an sl (ae (rx T 8 (ar (_,_,_,_,_) [0,0,0,0] ⟨Z3,s7⟩ J J))))))))
  refine rc T 2 (fz J (rg [5,7] [0,0,0,0] mix (bO bN) (λhg pf=>ha T 7 [0] sz hg pf J (av 1 sz hg pf J (aw T J J J J (aD (j:=2) J J)) (ha T 5 [2] sz hg pf J (ao 3 (kh [] J M9 Z3 (vF.c ·) (λv9 Z3=>an sz (ao 4 (cU (k:=(Fl.int .u8)) T [v9] J J J J J J J J J (λa8 H8 s8=>an (so [0,0,0,0]) (ao 5 ?_))))))))))));obtain⟨gY,Z3⟩:=az Z3;refine dM (k:=(Fl.int .u8)) (xs:=x5) T (g:=3) J J J J J J J J J J s4 (oO s8 4) gY J (λa9 n9 H9 s9=>an sl (hb T 6 sl hg pf J (ao 7 (sf T 2 J (an sl (ae (rx T 8 (ar (_,_,_,_,_) [0,0,0,0] ⟨Z3,s9⟩ J J))))))))
 refine rc T 7 (lm T 2 J (sg T 1 J (ro T 3 ?_)))
 cases Z3;exact pb T J (.cQ (j:=1) [(ii v1),(ii v2),(ll a4 x5 n4)] J J J J J J J .nil) [3,0] ⟨(_,_),a4,n4,H4,s4,J,J⟩ J J
def sU.f (n:Int) (lo:Int) (hi:Int):Option Bool:=some ((decide (n≥lo))&&(decide (n<=hi)))
theorem sU.c (H:sU.f n lo hi=some r):
 QU 47 [(ii n),(ii lo),(ii hi)] [] F (bb r):=by
 unfold sU.f at H;refine aB Tryz.func47 J J (λW=>rc T 11 (ga T [4,5,6,7] 10 [] 14 J J J J J J J (ro T 4 ?_)))
 cases H;exact p0 T J [0] J
def CC.f (w:Int) (h:Int):Option Bool:=((sU.f w 1 1024).bind λv3=>if v3=true then((sU.f h 1 1024).bind λv4=>some v4) else(some false)).bind λx1=>some x1
theorem CC.c (H:CC.f w h=some r):
 QU 67 [(ii w),(ii h)] [] F (bb r):=by
 unfold CC.f at H;refine aB Tryz.func67 J J (λW=>rc T 5 (mq H [] [0] (λz2 (x1:Bool)=>(x1=z2,[(4,(bb x1))],[])) J J (λz2 Z1 _=>?_) ?_))
 ·refine rc T 2 (k [] J Jt Z1 (sU.c ·) (λv3 Z1=>ro T 1 (ab 7 J Z1 (λZ1=>?_) (λZ1=>?_))))
  ·refine ro T 1 (k [] J Jt Z1 (sU.c ·) (λv4 Z1=>ro T 4 (am _ [0] (oi Z1) J J)))
  refine ro T 6 (am _ [0] (oi Z1) J J)
 rintro _ x1 rfl H;refine rc T 1 ?_
 cases H;exact p0 T J [0] J
def vG.f (w:Int) (h:Int):Option (Int×Int):=(CC.f w h).bind λv1=>if(!v1)=true then(some (0,0)) else(some ((aa (Int.tdiv (aa ((aa (w+16))-1)) 16)),(aa (Int.tdiv (aa ((aa (h+16))-1)) 16))))
theorem vG.c (H:vG.f w h=some r):
 QU 57 [(ii w),(ii h)] [] F (.tuple #[(ii r.1),(ii r.2)]):=by
 unfold vG.f at H;refine aB Tryz.func57 J J (λW=>rc T 11 (k [] J adE H (CC.c ·) (λv1 H=>ro T 3 (cb J H (λH=>?_) (λH=>?_)))))
 ·refine rc T 8 ?_
  cases H;exact p0 T J [0] J
 refine rc T 17 ?_
 cases H;exact p0 T J [0] J
def ui.f (w:Int) (h:Int):Option Int:=(vG.f w h).bind λv1=>some (aa (v1.1*v1.2))
theorem ui.c (H:ui.f w h=some r):
 QU 25 [(ii w),(ii h)] [] F (ii r):=by
 unfold ui.f at H;refine aB Tryz.func25 J J (λW=>rc T 9 (k [] J M_ H (vG.c ·) (λv1 H=>ro T 16 ?_)))
 cases H;exact p0 T J [0] J
def zf.f (w:Int) (h:Int) (s:Int):Option (Int×Int):=(ui.f w h).bind λv1=>(sU.f s 0 (aa (v1-1))).bind λv2=>if(!v2)=true then(some (0,0)) else((vG.f w h).bind λv3=>if(¬v3.1=0) then(if(¬v3.1=0) then(some ((if(aa (w-(aa (16*(Int.tmod s v3.1)))))<16 then(aa (w-(aa (16*(Int.tmod s v3.1))))) else 16),(if(aa (h-(aa (16*(aa (Int.tdiv s v3.1))))))<16 then(aa (h-(aa (16*(aa (Int.tdiv s v3.1)))))) else 16))) else none) else none)
theorem zf.c (H:zf.f w h s=some r):
 QU 70 [(ii w),(ii h),(ii s)] [] F (.tuple #[(ii r.1),(ii r.2)]):=by
 unfold zf.f at H;refine aB Tryz.func70 J J (λW=>rc T 12 (k [] J M3 H (ui.c ·) (λv1 H=>ro T 1 (k [] J Jt H (sU.c ·) (λv2 H=>ro T 3 (cb J H (λH=>?_) (λH=>?_)))))))
 ·refine rc T 8 ?_
  cases H;exact p0 T J [0] J
 refine rc T 6 (k [] J M_ H (vG.c ·) (λv3 H=>ro T 8 (dj mix ay (au T J (au T J (au T J ?_))))));obtain⟨c5,H⟩:=az H;refine aN J J J (uZ J J J c5) ?_
 iterate 6 refine au T J ?_
 obtain⟨c6,H⟩:=az H;refine aN J J J (uY J J J c6) ?_
 iterate 5 refine au T J ?_
 refine cR (rx T 2 ?_)
 cases H;exact p0 T J [0] J
def CA.f (w:Int) (h:Int) (s:Int) (l:Int):Option Int:=(zf.f w h s).bind λv1=>(sU.f l 0 (aa ((aa (v1.1*v1.2))-1))).bind λv2=>if(!v2)=true then(some (-1)) else((vG.f w h).bind λv3=>if(¬v3.1=0) then(if(¬v1.1=0) then(if(¬v3.1=0) then(if(¬v1.1=0) then(some (aa ((aa ((aa ((aa ((aa (16*(aa (Int.tdiv s v3.1))))+(aa (Int.tdiv l v1.1))))*w))+(aa (16*(Int.tmod s v3.1)))))+(Int.tmod l v1.1)))) else none) else none) else none) else none)
theorem CA.c (H:CA.f w h s l=some r):
 QU 71 [(ii w),(ii h),(ii s),(ii l)] [] F (ii r):=by
 unfold CA.f at H;refine aB Tryz.func71 J J (λW=>rc T 10 (k [] J S5 H (zf.c ·) (λv1 H=>ro T 15 (k [] J Jt H (sU.c ·) (λv2 H=>ro T 3 (cb J H (λH=>?_) (λH=>?_)))))))
 ·refine rc T 7 ?_
  cases H;exact p0 T J [0] J
 refine rc T 6 (k [] J M_ H (vG.c ·) (λv3 H=>ro T 8 (dj mix ay (au T J (au T J ?_)))));obtain⟨c5,H⟩:=az H;refine aN J J J (uY J J J c5) (au T J (au T J (au T J ?_)));obtain⟨c6,H⟩:=az H;refine aN J J J (uY J J J c6) ?_
 iterate 5 refine au T J ?_
 obtain⟨c7,H⟩:=az H;refine aN J J J (uZ J J J c7) ?_
 iterate 4 refine au T J ?_
 obtain⟨c8,H⟩:=az H;refine aN J J J (uZ J J J c8) (au T J (au T J (cR (rx T 2 ?_))))
 cases H;exact p0 T J [0] J
def nC.l0:Nat->aJ->Int->(Int×Int)->List Int->Int->Option aJ
 |0,_,_,_,_,_=>none
 |k6+1,m,s,v1,x4,x5=>if x5<(aa (v1.1*v1.2)) then((CA.f m.W m.H s x5).bind λv7=>if(0<=v7/\v7<(List.length m.C:Int)) then(if(List.length x4+1<=1099511627776) then(nC.l0 k6 m s v1 (x4++[(rd m.C v7)]) (aa (x5+1))) else none) else none) else(some (aJ.mk v1.1 v1.2 x4))
def nC.f (m:aJ) (s:Int):Option aJ:=(zf.f m.W m.H s).bind λv1=>nC.l0 fuel m s v1 [] 0
def nC.R (r:aJ) (u:Value) (G:List Hp):Prop:= ∃(a0:Option Addr) (n0:Nat) (H0:Hp),aj (Fl.int .u8) 5 r.C a0 n0 H0/\u=(.agg #[(ii r.W),(ii r.H),(ll a0 r.C n0)])/\G=[H0]
theorem nC.c (H:nC.f m s=some r) (sE:aS (Fl.int .u8) m.C oD F) (uM:List.length m.C<=oo):
 QR 76 [(.agg #[(ii m.W),(ii m.H),(ll oD m.C oo)]),(ii s)] [] [] F (nC.R r):=by
 unfold nC.f at H;refine aB Tryz.func76 J J (λW=>rc T 2 (nc T J (λb1=>nc T J (λb2=>ro T 5 (lf T 1 J (ro T 1 (lf T 1 J (ro T 1 (k [] J S5 H (zf.c ·) (λv1 H=>ro T 12 (nc T J (λb3=>sg T 3 J (ro T 9 (br (lq [1,2,4,5,6,7] [0,0,0] (λ(⟨k6,x4,x5,a5,n5,H5⟩:Nat×List Int×Int×Option Addr×Nat×Hp)=>(nC.l0 k6 m s v1 x4 x5=some r/\aj (Fl.int .u8) 5 x4 a5 n5 H5,[(8,(ii x5))],[(cl b3 139 [(ii v1.1),(ii v1.2),(ll a5 x4 n5)]),H5])) J J (fuel,[],0,none,0,[]) [0,0,0,0,0] ⟨H,aj.nil⟩ J J ?_)))))))))))))));rintro k6 ⟨x4,x5,a5,n5,H5⟩ ⟨Z2,s5⟩;rw[nC.l0] at Z2;refine rc T 10 (cd J Z2 (λZ2=>?_) (λZ2=>?_))
 ·refine rc T 4 (fz J (rg [14,16] [0,0,0,0,0] mix (bO bN) (λhg pf=>ha T 16 [0] sz hg pf J (av 1 sz hg pf J (aw T J J J J (aD (j:=3) J J)) (ha T 14 [2] sz hg pf J (av 3 sz hg pf J (aw T J J J J (aD (j:=1) J J)) (ha T 12 [4] sz hg pf J (av 5 sz hg pf J (aw T J J J J (aD (j:=1) J J)) (ha T 10 [6] sz hg pf J (av 7 sz hg pf J (aw T J J J J (aD (j:=1) J J)) (ha T 7 [8,9] sz hg pf J (ao 10 (kh [] J adF Z2 (CA.c ·) (λv7 Z2=>an sz ?_))))))))))))));obtain⟨c5,Z2⟩:=az Z2;obtain⟨q6,o6,e6⟩:=sE.addr c5.1 c5.2;refine av 11 sz hg pf J (cB T J J J J J e6 c5.1 c5.2) (av 12 sz hg pf J (aw T J J J J (gM (k:=(Fl.int .u8)) (rO sE 0) e6 c5 0 J)) (ao 13 (cU (k:=(Fl.int .u8)) T [(rd m.C v7)] J J J J J J J J J (λa7 H7 s7=>an (so [0,0,0,0,0]) (ao 14 ?_)))));obtain⟨c6,Z2⟩:=az Z2;refine dM (k:=(Fl.int .u8)) (xs:=x4) T (g:=4) J J J J J J J J J J s5 (oO s7 5) c6 J (λa8 n8 H8 s8=>an sl (hb T 15 sl hg pf J (ao 16 (sf T 3 J (an sl (ae (rx T 8 (ar (_,_,_,_,_) [0,0,0,0,0] ⟨Z2,s8⟩ J J))))))))
 refine rc T 7 (lm T 3 J (sg T 2 J (ro T 3 ?_)))
 cases Z2;exact pb T J (.cQ (j:=2) [(ii v1.1),(ii v1.2),(ll a5 x4 n5)] J J J J J J J .nil) [4,0] ⟨(_,_),a5,n5,H5,s5,J,J⟩ J J
def iz.l1:Nat->(List Int)->Int->Int->Option Int
 |0,_,_,_=>none
 |tZ+1,ag,x4,bq=>(if(aa (x4+bq))<(List.length ag:Int) then(if(0<=(aa (x4+bq))/\(aa (x4+bq))<(List.length ag:Int)) then(if(0<=x4/\x4<(List.length ag:Int)) then(some ((rd ag (aa (x4+bq)))==(rd ag x4))) else none) else none) else(some false)).bind λbc=>if bc=true then(iz.l1 tZ ag x4 (aa (bq+1))) else(some bq)
def iz.l0:Nat->(List Int)->List Int->Int->Option (List Int)
 |0,_,_,_=>none
 |k5+1,ag,x3,x4=>if x4<(List.length ag:Int) then(((iz.l1 fuel ag x4 1).bind λx9=>if(0<=x4/\x4<(List.length ag:Int)) then(if(List.length x3+2<=1099511627776) then(some ((x3++[(bP (aa (x9-1))),(rd ag x4)]),(aa (x4+x9)))) else none) else none).bind λ(x6,x7)=>iz.l0 k5 ag x6 x7) else(some x3)
def iz.f (ag:(List Int)):Option (List Int):=iz.l0 fuel ag [2] 0
def iz.R (r:(List Int)) (u:Value) (G:List Hp):Prop:= ∃(a0:Option Addr) (n0:Nat) (H0:Hp),aj (Fl.int .u8) 5 r a0 n0 H0/\u=(ll a0 r n0)/\G=[H0]
theorem iz.c (H:iz.f ag=some r) (Ad:aS (Fl.int .u8) ag Lo F) (ZQ:List.length ag<=Oa):
 QR 104 [(ll Lo ag Oa)] [] [] F (iz.R r):=by
 unfold iz.f at H;refine aB Tryz.func104 J J (λW=>rc T 7 (aW (cU (k:=(Fl.int .u8)) T [2] J J J J J J J J J (λa1 H1 s1=>ro T 10 (lq [0] [0] (λ(⟨k5,x3,x4,a3,n3,H3⟩:Nat×List Int×Int×Option Addr×Nat×Hp)=>(iz.l0 k5 ag x3 x4=some r/\aj (Fl.int .u8) 5 x3 a3 n3 H3,[(3,(ll a3 x3 n3)),(4,(ii x4))],[H3])) J J (fuel,[2],0,a1,(List.length [2]),H1) [0,0] ⟨H,s1⟩ J J ?_)))));rintro k5 ⟨x3,x4,a3,n3,H3⟩ ⟨Z1,s3⟩;rw[iz.l0] at Z1;refine rc T 9 (cd J Z1 (λZ1=>?_) (λZ1=>?_))
 ·refine rc T 2 (mn Z1 [0] [0] (λz8 (⟨x6,x7,a4,n4,H4⟩:List Int×Int×Option Addr×Nat×Hp)=>((x6,x7)=z8/\aj (Fl.int .u8) 5 x6 a4 n4 H4,[(3,(ll a4 x6 n4)),(4,(ii x7))],[H4])) J J (λz8 Z3 _=>?_) ?_)
  ·refine rc T 6 (mq Z3 [0,3,4] [0,0] (λnR (x9:Int)=>(x9=nR,[(5,(ii x9))],[])) J J (λnR Z4 _=>?_) ?_)
   ·refine rc T 1 (lq [0,3,4] [0,0] (λ(⟨tZ,bq⟩:Nat×Int)=>(iz.l1 tZ ag x4 bq=some nR,[(5,(ii bq))],[])) J J (fuel,1) [0,0] Z4 J J ?_);rintro tZ bq Z5;replace Z5:iz.l1 (tZ+1) ag x4 bq=some nR:=Z5;rw[iz.l1] at Z5;refine rc T 1 (mq Z5 [0,3,4,5] [0,0] (λH_ (bc:Bool)=>(bc=H_,[(29,(bb bc))],[])) J J (λH_ Z6 _=>?_) ?_)
    ·refine dj mix ay ?_
     iterate 7 refine au T J ?_
     refine qd 17 J Z6 (λZ6=>?_) (λZ6=>?_)
     ·iterate 4 refine au T J ?_
      obtain⟨c8,Z6⟩:=az Z6;obtain⟨q5,o5,e5⟩:=Ad.addr c8.1 c8.2;refine aN J J J (cB T J J J J J e5 c8.1 c8.2) (aN J J J (aw T J J J J (gM (k:=(Fl.int .u8)) (rO Ad 0) e5 c8 0 J)) (au T J (au T J ?_)));obtain⟨c9,Z6⟩:=az Z6;refine aN J J J (cB T J J J J J e5 c9.1 c9.2) (aN J J J (aw T J J J J (gM (k:=(Fl.int .u8)) (rO Ad 0) e5 c9 0 J)) (au T J (au T J (cR (rx T 1 (am _ [0,0] (oi Z6) J J))))))
     iterate 12 refine au T J ?_
     refine cR (rx T 1 (am _ [0,0] (oi Z6) J J))
    rintro _ bc rfl Z5;refine cb J Z5 (λZ5=>?_) (λZ5=>?_)
    ·refine rc T 10 (ar _ [0,0] Z5 J J)
    refine rc T 5 (am _ [0,0] (oi Z5) J J)
   rintro _ x9 rfl Z3;refine rc T 8 ?_;obtain⟨dZ,Z3⟩:=az Z3;obtain⟨q6,o6,e6⟩:=Ad.addr dZ.1 dZ.2;refine ix T J e6 dZ (le T 0 (rO Ad 0) e6 dZ J J (aW (cU (k:=(Fl.int .u8)) T [(bP (aa (x9-1))),(rd ag x4)] J J J J J J J J J (λa7 H7 s7=>?_))));obtain⟨gY,Z3⟩:=az Z3;refine aW (dM (k:=(Fl.int .u8)) (xs:=x3) T (g:=1) J J J J J J J J J J s3 (oO s7 2) gY J (λa8 n8 H8 s8=>ro T 11 (am (_,_,_,_,_) [0,0] ⟨oi Z3,s8⟩ J J)))
  rintro _ ⟨x6,x7,a4,n4,H4⟩ ⟨rfl,s4⟩ Z1;refine rx T 1 (ar (_,_,_,_,_) [0,0] ⟨Z1,s4⟩ J J)
 refine rc T 12 ?_
 cases Z1;exact p1 T J [1,0] ⟨a3,n3,H3,s3,J,J⟩ J
def xw.f (t:aJ):Option (Int×(List Int)):=(iz.f t.C).bind λv1=>if((List.length v1:Int)==3)=true then(if(0<=(0:Int)/\(0:Int)<(List.length t.C:Int)) then(some (0,[0,(rd t.C 0)])) else none) else(if(List.length v1:Int)<(aa (1+(List.length t.C:Int))) then(some (2,v1)) else(if(List.length [1]+List.length t.C<=1099511627776) then(some (1,([1]++t.C))) else none))
def xw.R (r:(Int×(List Int))) (u:Value) (G:List Hp):Prop:= ∃(a0:Option Addr) (n0:Nat) (H0:Hp),aj (Fl.int .u8) 5 r.2 a0 n0 H0/\u=(.tuple #[(ii r.1),(ll a0 r.2 n0)])/\G=[H0]
theorem xw.c (H:xw.f t=some r) (dH:aS (Fl.int .u8) t.C iv F) (ff:List.length t.C<=iy):
 QR 75 [(.agg #[(ii t.W),(ii t.H),(ll iv t.C iy)])] [] [] F (xw.R r):=by
 unfold xw.f at H;refine aB Tryz.func75 J J (λW=>rc T 2 (nc T J (λb1=>ro T 7 (lf T 1 J (kr iz.R [] [] J abN H (iz.c · (rO dH 0) ff) (λv1 H=>?_))))));rintro _ _ ⟨a2,n2,H2,s2,rfl,rfl⟩;refine fz J (ro T 11 (cb J H (λH=>?_) (λH=>?_)))
 ·refine rc T 1 (ke [1] [0,0] J J (fz J (rg [] [0,0] mix (bO bN) (λhg pf=>ha T 6 [0] sz hg pf J (av 1 sz hg pf J (aw T J J J J (aD (j:=1) J J)) ?_)))));obtain⟨c3,H⟩:=az H;obtain⟨q3,o3,e3⟩:=dH.addr c3.1 c3.2;refine av 2 sz hg pf J (cB T J J J J J e3 c3.1 c3.2) (av 3 sz hg pf J (aw T J J J J (gM (k:=(Fl.int .u8)) (rO dH 0) e3 c3 0 J)) (ha T 2 [5] sz hg pf J (ao 4 (cU (k:=(Fl.int .u8)) T [0,(rd t.C 0)] J J J J J J J J J (λa4 H4 s4=>an (so [0,0]) (ha T 0 [6] (so [0,0]) hg pf J (ae (rx T 3 ?_))))))))
  cases H;exact p1 T J [2,0] ⟨a4,(List.length [0,(rd t.C 0)]),H4,s4,J,J⟩ J
 refine rc T 8 (lf T 1 J (ro T 5 (cd J H (λH=>?_) (λH=>?_))))
 ·refine rc T 9 ?_
  cases H;exact p1 T J [2,0] ⟨a2,n2,H2,s2,J,J⟩ J
 refine rc T 4 (aW (cU (k:=(Fl.int .u8)) T [1] J J J J J J J J J (λa5 H5 s5=>ro T 1 (lf T 1 J ?_))));obtain⟨c5,H⟩:=az H;refine aW (dM (k:=(Fl.int .u8)) (xs:=[1]) T (g:=3) J J J J J J J J J J s5 (rO dH 0) c5 J (λa6 n6 H6 s6=>ro T 3 (ke [2,3] [0,2] J J (rx T 2 ?_))))
 cases H;exact p1 T J [1,0] ⟨a6,n6,H6,s6,J,J⟩ J
def kX.l0:Nat->aJ->List Int->Int->Option (List Int)
 |0,_,_,_=>none
 |k5+1,m,x3,x4=>(ui.f m.W m.H).bind λv6=>if x4<v6 then((nC.f m x4).bind λv7=>(xw.f v7).bind λv8=>if(List.length x3+List.length v8.2<=1099511627776) then(kX.l0 k5 m (x3++v8.2) (aa (x4+1))) else none) else(some x3)
def kX.f (m:aJ):Option (List Int):=kX.l0 fuel m [(bP m.W),(bP (Int.fdiv m.W (2^8))),(bP m.H),(bP (Int.fdiv m.H (2^8)))] 0
def kX.R (r:(List Int)) (u:Value) (G:List Hp):Prop:= ∃(a0:Option Addr) (n0:Nat) (H0:Hp),aj (Fl.int .u8) 5 r a0 n0 H0/\u=(ll a0 r n0)/\G=[H0]
theorem kX.c (H:kX.f m=some r) (sE:aS (Fl.int .u8) m.C oD F) (uM:List.length m.C<=oo):
 QR 45 [(.agg #[(ii m.W),(ii m.H),(ll oD m.C oo)])] [] [] F (kX.R r):=by
 unfold kX.f at H;refine aB Tryz.func45 J J (λW=>rc T 2 (nc T J (λb1=>ro T 6 (lf T 1 J (ro T 2 (lf T 1 J (ro T 3 (lf T 1 J (ro T 2 (lf T 1 J (ro T 2 (aW (cU (k:=(Fl.int .u8)) T [(bP m.W),(bP (Int.fdiv m.W (2^8))),(bP m.H),(bP (Int.fdiv m.H (2^8)))] J J J J J J J J J (λa2 H2 s2=>ro T 10 (lq [1] [0,0] (λ(⟨k5,x3,x4,a4,n4,H4⟩:Nat×List Int×Int×Option Addr×Nat×Hp)=>(kX.l0 k5 m x3 x4=some r/\aj (Fl.int .u8) 5 x3 a4 n4 H4,[(3,(ll a4 x3 n4)),(4,(ii x4))],[H4])) J J (fuel,[(bP m.W),(bP (Int.fdiv m.W (2^8))),(bP m.H),(bP (Int.fdiv m.H (2^8)))],0,a2,(List.length [(bP m.W),(bP (Int.fdiv m.W (2^8))),(bP m.H),(bP (Int.fdiv m.H (2^8)))]),H2) [0,0,0] ⟨H,s2⟩ J J ?_)))))))))))))));rintro k5 ⟨x3,x4,a4,n4,H4⟩ ⟨Z1,s4⟩;rw[kX.l0] at Z1;refine rc T 5 (lf T 1 J (ro T 1 (lf T 1 J (k [] J M3 Z1 (ui.c ·) (λv6 Z1=>ro T 3 (cd J Z1 (λZ1=>?_) (λZ1=>?_)))))))
 ·refine rc T 6 (lm T 1 J (ro T 1 (kr nC.R [] [] J adI Z1 (nC.c · (rO sE 0) uM) (λv7 Z1=>?_))));rintro _ _ ⟨a5,n5,H5,s5,rfl,rfl⟩;refine fz J (kr xw.R [] [] J adH Z1 (xw.c · (oO s5 3) s5.bW) (λv8 Z1=>?_));rintro _ _ ⟨a6,n6,H6,s6,rfl,rfl⟩;refine fz J (ro T 10 ?_);obtain⟨c6,Z1⟩:=az Z1;refine aW (dM (k:=(Fl.int .u8)) (xs:=x3) T (g:=2) J J J J J J J J J J s4 (oO s6 4) c6 J (λa7 n7 H7 s7=>ro T 10 (ar (_,_,_,_,_) [0,0,0] ⟨Z1,s7⟩ J J)))
 refine rc T 12 ?_
 cases Z1;exact p1 T J [2,0] ⟨a4,n4,H4,s4,J,J⟩ J
end
noncomputable section
def xx.f (x:sG) (n:Int):Option dn:=((e_.f x.B 1 6).bind λv6=>(e_.f x.A 0 5).bind λv7=>(e_.f x.A 0 9).bind λv8=>some (v6,(aa (n+v7)),v8,([]:List Int))).bind λ(x1,x2,x3,x4)=>if(x1==1)=true then(some (dn.mk x1 0 0 [2,0,1,0,1,(bP x.A),(bP x.B)])) else(if(x1==2)=true then((e_.f x.A 0 (aa (n-1))).bind λdi=>(e_.f x.A 0 1).bind λdU=>some (dn.mk x1 di (aa (dU*255)) x4)) else(if(x1==5)=true then(some (dn.mk x1 x2 0 x4)) else(some (dn.mk x1 x2 x3 x4))))
def xx.R (r:dn) (u:Value) (G:List Hp):Prop:= ∃(a0:Option Addr) (n0:Nat) (H0:Hp),aj (Fl.int .u8) 5 r.Map a0 n0 H0/\u=(.agg #[(ii r.Kind),(ii r.A),(ii r.B),(ll a0 r.Map n0)])/\G=[H0]
theorem xx.c (H:xx.f x n=some r):
 QR 50 [(.agg #[(ii x.Kind),(ii x.A),(ii x.B)]),(ii n)] [] [] F (xx.R r):=by
 unfold xx.f at H;refine aB Tryz.func50 J J (λW=>rc T 2 (nc T J (λb1=>nc T J (λb2=>ro T 2 (mq H [1,2,4] [0,0,0] (λz5 (⟨x1,x2,x3,x4,b3,a4,n4,H4⟩:Int×Int×Int×List Int×Nat×Option Addr×Nat×Hp)=>((x1,x2,x3,x4)=z5/\aj (Fl.int .u8) 5 x4 a4 n4 H4,[(5,(pp b3))],[(cl b3 55 [(ii x1),(ii x2),(ii x3),(ll a4 x4 n4)]),H4])) J J (λz5 Z1 _=>?_) ?_)))))
 ·refine ks [1,2,4] J (fz J (rz [] mix (bO bN) (λhg pf=>ha T 13 [0] sz hg pf J (av 1 sz hg pf J (aw T J J J J (aD (j:=1) J J)) (ha T 10 [3,4] sz hg pf J (av 5 sz hg pf J (aw T J J J J (aD (j:=1) J J)) (ha T 8 [8] sz hg pf J (av 9 sz hg pf J (aw T J J J J (aD (j:=1) J J)) (gw 2 12 ?_ ?_)))))))))
  ·refine kh [] J lA Z1 (e_.c ·) (λv6 Z1=>an sz (gw 6 12 ?_ ?_))
   ·refine kh [] J lA Z1 (e_.c ·) (λv7 Z1=>an sz (ha T 4 [7] sz hg pf J (gw 10 12 ?_ ?_)))
    ·refine kh [] J lA Z1 (e_.c ·) (λv8 Z1=>an sz (ha T 2 [11] sz hg pf J (ao 12 (nw T J (λb5=>an (so [0,0,0]) (ao 13 (sf T 3 J (an (so [0,0,0]) (ae (rx T 1 (br (am (_,_,_,_,_,_,_,_) [0,0,0,0,0] ⟨oi Z1,aj.nil⟩ J J))))))))))))
    refine nw T J (λb6=>an (so [0,0,0]) (ao 10 (kh [] J lA Z1 (e_.c ·) (λv9 Z1=>an (so [0,0,0]) (ha T 1 [11] (so [0,0,0]) hg pf J (ao 13 (sf T 3 J (an (so [0,0,0]) (ae (rx T 1 (br (am (_,_,_,_,_,_,_,_) [0,0,0,0,0] ⟨oi Z1,aj.nil⟩ J J))))))))))))
   refine nw T J (λb7=>an (so [0,0,0]) (ao 6 (kh [] J lA Z1 (e_.c ·) (λv10 Z1=>an (so [0,0,0]) (ha T 3 [7] (so [0,0,0]) hg pf J (ao 10 (kh [] J lA Z1 (e_.c ·) (λv11 Z1=>an (so [0,0,0]) (ha T 1 [11] (so [0,0,0]) hg pf J (ao 13 (sf T 3 J (an (so [0,0,0]) (ae (rx T 1 (br (am (_,_,_,_,_,_,_,_) [0,0,0,0,0] ⟨oi Z1,aj.nil⟩ J J))))))))))))))))
  refine nw T J (λb8=>an (so [0,0,0]) (ao 2 (kh [] J lA Z1 (e_.c ·) (λv12 Z1=>an (so [0,0,0]) (ao 6 (kh [] J lA Z1 (e_.c ·) (λgT Z1=>an (so [0,0,0]) (ha T 3 [7] (so [0,0,0]) hg pf J (ao 10 (kh [] J lA Z1 (e_.c ·) (λbZ Z1=>an (so [0,0,0]) (ha T 1 [11] (so [0,0,0]) hg pf J (ao 13 (sf T 3 J (an (so [0,0,0]) (ae (rx T 1 (br (am (_,_,_,_,_,_,_,_) [0,0,0,0,0] ⟨oi Z1,aj.nil⟩ J J)))))))))))))))))))
 rintro _ ⟨x1,x2,x3,x4,b3,a4,n4,H4⟩ ⟨rfl,s4⟩ H;refine rc T 4 (lf T 3 J (ro T 9 (cb J H (λH=>?_) (λH=>?_))))
 ·refine fz J (rg [12] [0,0,0,1] mix (bO bN) (λhg pf=>ha T 12 [0] (so [0,0,0,1]) hg pf J (av 1 (so [0,0,0,1]) hg pf J (aw T J J J J (aD (j:=1) J J)) (ha T 9 [2,3] (so [0,0,0,1]) hg pf J (av 4 (so [0,0,0,1]) hg pf J (aw T J J J J (aD (j:=1) J J)) (ha T 6 [5,7] (so [0,0,0,1]) hg pf J (gw 6 8 ?_ ?_)))))))
  ·refine cU (k:=(Fl.int .u8)) T [2,0,1,0,1,(bP x.A),(bP x.B)] J J J J J J J J J (λa9 H9 s9=>an (so [0,0,0,1]) (ao 8 (sf T 3 J (an (so [0,0,0,1]) (ha T 3 [9] (so [0,0,0,1]) hg pf J (ao 10 (sf T 3 J (an (so [0,0,0,1]) (ha T 1 [11] (so [0,0,0,1]) hg pf J (ao 12 (sf T 3 J (an sl (ae (rx T 4 (lm T 3 J (sg T 2 J (ro T 3 ?_)))))))))))))))))
   cases H;exact pb T J (.cQ (j:=2) [(ii x1),(ii 0),(ii 0),(ll a9 [2,0,1,0,1,(bP x.A),(bP x.B)] (List.length [2,0,1,0,1,(bP x.A),(bP x.B)]))] J J J J J J J .nil) [5,0] ⟨(_,_),a9,(List.length [2,0,1,0,1,(bP x.A),(bP x.B)]),H9,s9,J,J⟩ J J
  refine sf T 3 J (an (so [0,0,0,1]) (ha T 4 [9] (so [0,0,0,1]) hg pf J (gw 6 10 ?_ ?_)))
  ·refine cU (k:=(Fl.int .u8)) T [2,0,1,0,1,(bP x.A),(bP x.B)] J J J J J J J J J (λcw bV bS=>an (so [0,0,0,1]) (ao 10 (sf T 3 J (an (so [0,0,0,1]) (ha T 1 [11] (so [0,0,0,1]) hg pf J (ao 12 (sf T 3 J (an sl (ae (rx T 4 (lm T 3 J (sg T 2 J (ro T 3 ?_)))))))))))))
   cases H;exact pb T J (.cQ (j:=2) [(ii x1),(ii 0),(ii 0),(ll cw [2,0,1,0,1,(bP x.A),(bP x.B)] (List.length [2,0,1,0,1,(bP x.A),(bP x.B)]))] J J J J J J J .nil) [5,0] ⟨(_,_),cw,(List.length [2,0,1,0,1,(bP x.A),(bP x.B)]),bV,bS,J,J⟩ J J
  refine sf T 3 J (an (so [0,0,0,1]) (ao 6 (cU (k:=(Fl.int .u8)) T [2,0,1,0,1,(bP x.A),(bP x.B)] J J J J J J J J J (λdt cA cS=>an (so [0,0,0,1]) (ha T 1 [11] (so [0,0,0,1]) hg pf J (ao 12 (sf T 3 J (an sl (ae (rx T 4 (lm T 3 J (sg T 2 J (ro T 3 ?_)))))))))))))
  cases H;exact pb T J (.cQ (j:=2) [(ii x1),(ii 0),(ii 0),(ll dt [2,0,1,0,1,(bP x.A),(bP x.B)] (List.length [2,0,1,0,1,(bP x.A),(bP x.B)]))] J J J J J J J .nil) [5,0] ⟨(_,_),dt,(List.length [2,0,1,0,1,(bP x.A),(bP x.B)]),cA,cS,J,J⟩ J J
 refine rc T 6 (cb J H (λH=>?_) (λH=>?_))
 ·refine rc T 3 (lf T 1 J (ro T 2 (k [] J lA H (e_.c ·) (λdi H=>ro T 1 (sg T 3 J (ro T 4 (lf T 1 J (k [] J lA H (e_.c ·) (λdU H=>ro T 2 (sg T 3 J (ro T 5 (lm T 3 J (sg T 2 J (ro T 1 (ke [4] [0,1,2] J J (rx T 1 (rc T 1 ?_)))))))))))))))))
  cases H;exact pb T J (.cQ (j:=1) [(ii x1),(ii di),(ii (aa (dU*255))),(ll a4 x4 n4)] J J J J J J J .nil) [2,0] ⟨(_,_),a4,n4,H4,s4,J,J⟩ J J
 refine rc T 6 (cb J H (λH=>?_) (λH=>?_))
 ·refine rc T 2 (sg T 3 J (ro T 5 (lm T 3 J (sg T 2 J (ro T 3 ?_)))))
  cases H;exact pb T J (.cQ (j:=2) [(ii x1),(ii x2),(ii 0),(ll a4 x4 n4)] J J J J J J J .nil) [4,0] ⟨(_,_),a4,n4,H4,s4,J,J⟩ J J
 refine rc T 5 (lm T 3 J (sg T 2 J (ro T 3 ?_)))
 cases H;exact pb T J (.cQ (j:=2) [(ii x1),(ii x2),(ii x3),(ll a4 x4 n4)] J J J J J J J .nil) [4,0] ⟨(_,_),a4,n4,H4,s4,J,J⟩ J J
def nD.l0:Nat->Int->Int->(List Int)->(List sG)->Int->Int->List Int->List dn->Int->Int->Option (List dn)
 |0,_,_,_,_,_,_,_,_,_,_=>none
 |lC+1,w,h,p2,l,x9,aM,bf,bq,aT,bc=>if((decide (bc<(List.length l:Int)))&&(decide (bc<60)))=true then(if(0<=bc/\bc<(List.length l:Int)) then(((e_.f ((rd l bc).A) 0 (aa (aT-1))).bind λv21=>(e_.f ((rd l bc).B) 0 (aa (aT-1))).bind λv22=>some ((0:Int),v21,v22,([]:List Int))).bind λ(dm,db,dL,b_)=>((e_.f ((rd l bc).Kind) 0 15).bind λv35=>(if(v35==0)=true then(some (v35==0)) else(if(v35==1)=true then(some (v35==1)) else(some (v35==2)))).bind λwh=>if wh=true then(some (x9,aM,bf,aT,(3:Int),db,dL,b_)) else(if(v35==3)=true then((e_.f ((rd l bc).A) 0 9).bind λoA=>some (x9,aM,bf,aT,(4:Int),oA,dL,b_)) else(if(v35==4)=true then((e_.f ((rd l bc).A) 0 9).bind λv39=>some (x9,aM,bf,aT,(5:Int),v39,(0:Int),b_)) else((if(v35==5)=true then(some (v35==5)) else(some (v35==6))).bind λgf=>if gf=true then((vF.f (bP ((rd l bc).B))).bind λKY=>some (x9,aM,bf,aT,(2:Int),db,(aa KY),b_)) else((if(v35==7)=true then(some (v35==7)) else(some (v35==8))).bind λfw=>if fw=true then(some (x9,aM,bf,aT,(6:Int),db,dL,b_)) else(if(v35==9)=true then(some (x9,aM,bf,aT,(8:Int),(0:Int),(0:Int),([]:List Int))) else(if(v35==10)=true then(if((Int.tmod (rd l bc).A 4)==0)=true then((kW.f (aa (w+(aa (Int.tdiv (rd l bc).A 4)))) (aa (h+(rd l bc).B)) p2).bind λv45=>(kX.f v45).bind λv46=>some (v45.W,v45.H,v45.C,(List.length v45.C:Int),(1:Int),(0:Int),(0:Int),v46)) else((e_.f ((rd l bc).B) 0 200).bind λqa=>some (x9,aM,bf,aT,(0:Int),(aa (9+qa)),(0:Int),([]:List Int)))) else(if(v35==11)=true then((xx.f (rd l bc) aT).bind λHI=>some (x9,aM,bf,aT,HI.Kind,HI.A,HI.B,HI.Map)) else(some (x9,aM,bf,aT,(7:Int),(0:Int),(0:Int),([]:List Int))))))))))).bind λ(fv,l6,mN,iV,Bc,Bd,wg,nQ)=>if(List.length bq+1<=1099511627776) then(nD.l0 lC w h p2 l fv l6 mN (bq++[(dn.mk Bc Bd wg nQ)]) iV (aa (bc+1))) else none) else none) else(some bq)
def nD.f (w:Int) (h:Int) (p2:(List Int)) (l:(List sG)):Option (List dn):=(kW.f w h p2).bind λv1=>(kX.f v1).bind λv2=>nD.l0 fuel w h p2 l v1.W v1.H v1.C [(dn.mk 1 0 0 v2)] (List.length v1.C:Int) 0
def nD.R (r:(List dn)) (u:Value) (G:List Hp):Prop:= ∃(a0:Option Addr) (n0:Nat) (H0:Hp),gu GZ 55 r a0 n0 H0/\u=(ll a0 r n0)/\G=[H0]
theorem nD.c (H:nD.f w h p2 l=some r) (FK:aS (Fl.int .u8) p2 Lp F) (LW:List.length p2<=Ob) (dg:aS Gs l iu F) (gn:List.length l<=ic):
 QR 20 [(ii w),(ii h),(ll Lp p2 Ob),(ll iu l ic)] [] [] F (nD.R r):=by
 unfold nD.f at H;refine aB Tryz.func20 J J (λW=>rc T 10 (kr kW.R [] [] J SZ H (kW.c · (rO FK 0) LW) (λv1 H=>?_)));rintro _ _ ⟨a1,n1,H1,s1,rfl,rfl⟩;refine fz J (nc T J (λb2=>sg T 2 J (ro T 4 (lm T 2 J (kr kX.R [] [] J M8 H (kX.c · (oO s1 1) s1.bW) (λv2 H=>?_))))));rintro _ _ ⟨a3,n3,H3,s3,rfl,rfl⟩;refine fz J (ro T 1 (gj [3] J (aW (Ff (kd:=GZ) (E:=55) (q:=3) (c:=[(ii 1),(ii 0),(ii 0),(ll a3 v2 n3)]) T (dn.mk 1 0 0 v2) J J J J J J J J J J ⟨a3,n3,H3,s3,J,J⟩ (λa5 H5 s5=>ro T 6 (lf T 2 J (ro T 11 (lq [0,1,2,3,9] [0] (λ(⟨lC,x9,aM,bf,bq,aT,bc,a8,n8,H8,a9,n9,H9⟩:Nat×Int×Int×List Int×List dn×Int×Int×Option Addr×Nat×Hp×Option Addr×Nat×Hp)=>(nD.l0 lC w h p2 l x9 aM bf bq aT bc=some r/\aj (Fl.int .u8) 5 bf a8 n8 H8/\gu GZ 55 bq a9 n9 H9,[(10,(ll a9 bq n9)),(11,(ii aT)),(12,(ii bc))],[(cl b2 30 [(ii x9),(ii aM),(ll a8 bf n8)]),H8,H9])) J J (fuel,v1.W,v1.H,v1.C,[(dn.mk 1 0 0 v2)],(List.length v1.C:Int),0,a1,n1,H1,a5,(List.length [(dn.mk 1 0 0 v2)]),H5) [0,1,0,1] ⟨H,s1,s5⟩ J J ?_))))))));rintro lC ⟨x9,aM,bf,bq,aT,bc,a8,n8,H8,a9,n9,H9⟩ ⟨Z3,s8,s9⟩;rw[nD.l0] at Z3;refine rc T 8 (ga T [5,6,7] 30 [0,1,2,3,9,10,11,12] 33 J J J J J J J (ro T 2 (cb J Z3 (λZ3=>?_) (λZ3=>?_))))
 ·refine rc T 8 ?_;obtain⟨c5,Z3⟩:=az Z3;obtain⟨Ks,Kj,pL⟩:=dg.addr c5.1 c5.2;refine ix T J pL c5 (bp J (fm T (cs:=[(ii (rd l bc).Kind),(ii (rd l bc).A),(ii (rd l bc).B)]) J J J J J J (gB (k:=Gs) (rO dg 0) pL c5 J)) (nc T J (λjG=>sg T 4 J (ro T 2 (mq Z3 [0,1,2,3,9,10,11,12,13] [0,0,0,0,0] (λz20 (⟨dm,db,dL,b_,ki,dy,n13,eo⟩:Int×Int×Int×List Int×Nat×Option Addr×Nat×Hp)=>((dm,db,dL,b_)=z20/\aj (Fl.int .u8) 5 b_ dy n13 eo,[(14,(pp ki))],[(cl ki 55 [(ii dm),(ii db),(ii dL),(ll dy b_ n13)]),eo])) J J (λz20 Z6 _=>?_) ?_)))))
  ·refine ks [0,1,2,3,9,10,11,12,13] J (fz J (rz [] mix (bO bN) (λhg pf=>ha T 12 [0] sz hg pf J (av 1 sz hg pf J (aw T J J J J (aD (j:=4) J J)) (ha T 8 [2,3,5] sz hg pf J (av 6 sz hg pf J (aw T J J J J (aD (j:=4) J J)) (ha T 5 [7,8] sz hg pf J (gw 4 11 ?_ ?_))))))))
   ·refine kh [] J lA Z6 (e_.c ·) (λv21 Z6=>an sz (gw 9 11 ?_ ?_))
    ·refine kh [] J lA Z6 (e_.c ·) (λv22 Z6=>an sz (ha T 2 [10] sz hg pf J (ao 11 (nw T J (λIK=>an (so [0,0,0,0,0]) (ao 12 (sf T 5 J (an (so [0,0,0,0,0]) (ae (rx T 1 (br (am (_,_,_,_,_,_,_,_) [0,0,0,0,0,0,0] ⟨oi Z6,aj.nil⟩ J J))))))))))))
    refine nw T J (λmX=>an (so [0,0,0,0,0]) (ao 9 (kh [] J lA Z6 (e_.c ·) (λv23 Z6=>an (so [0,0,0,0,0]) (ha T 1 [10] (so [0,0,0,0,0]) hg pf J (ao 12 (sf T 5 J (an (so [0,0,0,0,0]) (ae (rx T 1 (br (am (_,_,_,_,_,_,_,_) [0,0,0,0,0,0,0] ⟨oi Z6,aj.nil⟩ J J))))))))))))
   refine nw T J (λpF=>an (so [0,0,0,0,0]) (ao 4 (kh [] J lA Z6 (e_.c ·) (λv24 Z6=>an (so [0,0,0,0,0]) (ao 9 (kh [] J lA Z6 (e_.c ·) (λv25 Z6=>an (so [0,0,0,0,0]) (ha T 1 [10] (so [0,0,0,0,0]) hg pf J (ao 12 (sf T 5 J (an (so [0,0,0,0,0]) (ae (rx T 1 (br (am (_,_,_,_,_,_,_,_) [0,0,0,0,0,0,0] ⟨oi Z6,aj.nil⟩ J J)))))))))))))))
  rintro _ ⟨dm,db,dL,b_,ki,dy,n13,eo⟩ ⟨rfl,dh⟩ Z3;refine mq Z3 [0,1,2,3,9,10,12,14] [0,2] (λW_ (⟨fv,l6,mN,iV,Bc,Bd,wg,nQ,a17,n17,dV,iY,n18,fb⟩:Int×Int×List Int×Int×Int×Int×Int×List Int×Option Addr×Nat×Hp×Option Addr×Nat×Hp)=>((fv,l6,mN,iV,Bc,Bd,wg,nQ)=W_/\aj (Fl.int .u8) 5 mN a17 n17 dV/\aj (Fl.int .u8) 5 nQ iY n18 fb,[(11,(ii iV))],[(cl b2 30 [(ii fv),(ii l6),(ll a17 mN n17)]),dV,(cl ki 55 [(ii Bc),(ii Bd),(ii wg),(ll iY nQ n18)]),fb])) J J (λW_ bo _=>?_) ?_
  ·refine rc T 3 (lf T 4 J (k [] J lA bo (e_.c ·) (λv35 bo=>ro T 3 (mq bo [0,1,2,3,9,10,11,12,13,14,53] [0,0,0,0,0,0,0] (λz37 (wh:Bool)=>(wh=z37,[(55,(bb wh))],[])) J J (λz37 ck _=>?_) ?_))))
   ·refine rc T 6 (cb J ck (λck=>?_) (λck=>?_))
    ·refine rc T 2 (am _ [0,0,0,0,0,0,0] (oi ck) J J)
    refine rc T 6 (cb J ck (λck=>?_) (λck=>?_))
    ·refine rc T 2 (am _ [0,0,0,0,0,0,0] (oi ck) J J)
    refine rc T 5 (am _ [0,0,0,0,0,0,0] (oi ck) J J)
   rintro _ wh rfl bo;refine cb J bo (λbo=>?_) (λbo=>?_)
   ·refine rc T 2 (sg T 5 J (ro T 3 (am (_,_,_,_,_,_,_,_,_,_,_,_,_,_) [0,2,0,0,1,1] ⟨oi bo,s8,dh⟩ J J)))
   refine rc T 6 (cb J bo (λbo=>?_) (λbo=>?_))
   ·refine rc T 2 (lf T 4 J (k [] J lA bo (e_.c ·) (λoA bo=>ro T 1 (sg T 5 J (ro T 1 (sg T 5 J (ro T 3 (am (_,_,_,_,_,_,_,_,_,_,_,_,_,_) [0,2,0,0,1,1] ⟨oi bo,s8,dh⟩ J J))))))))
   refine rc T 6 (cb J bo (λbo=>?_) (λbo=>?_))
   ·refine rc T 2 (lf T 4 J (k [] J lA bo (e_.c ·) (λv39 bo=>ro T 1 (sg T 5 J (ro T 1 (sg T 5 J (ro T 1 (sg T 5 J (ro T 3 (am (_,_,_,_,_,_,_,_,_,_,_,_,_,_) [0,2,0,0,1,1] ⟨oi bo,s8,dh⟩ J J))))))))))
   refine mq bo [0,1,2,3,9,10,11,12,13,14,53] [0,0,0,0,0,0,0] (λz41 (gf:Bool)=>(gf=z41,[(75,(bb gf))],[])) J J (λz41 mT _=>?_) ?_
   ·refine rc T 6 (cb J mT (λmT=>?_) (λmT=>?_))
    ·refine rc T 2 (am _ [0,0,0,0,0,0,0] (oi mT) J J)
    refine rc T 5 (am _ [0,0,0,0,0,0,0] (oi mT) J J)
   rintro _ gf rfl bo;refine cb J bo (λbo=>?_) (λbo=>?_)
   ·refine rc T 2 (lf T 4 J (ro T 1 (k [] J M9 bo (vF.c ·) (λKY bo=>ro T 2 (sg T 5 J (ro T 1 (sg T 5 J (ro T 3 (am (_,_,_,_,_,_,_,_,_,_,_,_,_,_) [0,2,0,0,1,1] ⟨oi bo,s8,dh⟩ J J)))))))))
   refine mq bo [0,1,2,3,9,10,11,12,13,14,53] [0,0,0,0,0,0,0] (λz44 (fw:Bool)=>(fw=z44,[(85,(bb fw))],[])) J J (λz44 EW _=>?_) ?_
   ·refine rc T 6 (cb J EW (λEW=>?_) (λEW=>?_))
    ·refine rc T 2 (am _ [0,0,0,0,0,0,0] (oi EW) J J)
    refine rc T 5 (am _ [0,0,0,0,0,0,0] (oi EW) J J)
   rintro _ fw rfl bo;refine cb J bo (λbo=>?_) (λbo=>?_)
   ·refine rc T 2 (sg T 5 J (ro T 3 (am (_,_,_,_,_,_,_,_,_,_,_,_,_,_) [0,2,0,0,1,1] ⟨oi bo,s8,dh⟩ J J)))
   refine rc T 6 (cb J bo (λbo=>?_) (λbo=>?_))
   ·refine rc T 2 (sg T 5 J (ro T 3 (br (am (_,_,_,_,_,_,_,_,_,_,_,_,_,_) [0,2,0,0,1,2] ⟨oi bo,s8,aj.nil⟩ J J))))
   refine rc T 6 (cb J bo (λbo=>?_) (λbo=>?_))
   ·refine rc T 3 (lf T 4 J (ro T 4 (cb J bo (λbo=>?_) (λbo=>?_))))
    ·refine rc T 4 (lf T 4 J (ro T 4 (lf T 4 J (ro T 2 (kr kW.R [] [] J SZ bo (kW.c · (rO FK 0) LW) (λv45 bo=>?_))))));rintro _ _ ⟨l9,n19,kF,gQ,rfl,rfl⟩;refine fz J (sg T 1 J (ro T 5 (lf T 1 J (ro T 5 (lm T 1 J (kr kX.R [] [] J M8 bo (kX.c · (oO gQ 7) gQ.bW) (λv46 bo=>?_)))))));rintro _ _ ⟨a20,n20,nS,lT,rfl,rfl⟩;refine fz J (ro T 1 (sg T 5 J (ro T 3 (am (_,_,_,_,_,_,_,_,_,_,_,_,_,_) [0,2,0,4,2,3] ⟨oi bo,gQ,lT⟩ J J))))
    refine rc T 2 (lf T 4 J (k [] J lA bo (e_.c ·) (λqa bo=>ro T 2 (sg T 5 J (ro T 3 (br (am (_,_,_,_,_,_,_,_,_,_,_,_,_,_) [0,2,0,0,1,2] ⟨oi bo,s8,aj.nil⟩ J J)))))))
   refine rc T 6 (cb J bo (λbo=>?_) (λbo=>?_))
   ·refine rc T 1 (lm T 4 J (ro T 1 (kr xx.R [] [] J ady bo (xx.c ·) (λHI bo=>?_))));rintro _ _ ⟨a21,n21,lj,jO,rfl,rfl⟩;refine fz J (sg T 5 J (ro T 3 (am (_,_,_,_,_,_,_,_,_,_,_,_,_,_) [0,2,0,0,1,2] ⟨oi bo,s8,jO⟩ J J)))
   refine rc T 2 (sg T 5 J (ro T 3 (br (am (_,_,_,_,_,_,_,_,_,_,_,_,_,_) [0,2,0,0,1,2] ⟨oi bo,s8,aj.nil⟩ J J))))
  rintro _ ⟨fv,l6,mN,iV,Bc,Bd,wg,nQ,a17,n17,dV,iY,n18,fb⟩ ⟨rfl,fh,fq⟩ Z3;refine rc T 2 (lm T 4 J (gj [5] J (aW (Ff (kd:=GZ) (E:=55) (q:=5) (c:=[(ii Bc),(ii Bd),(ii wg),(ll iY nQ n18)]) T (dn.mk Bc Bd wg nQ) J J J J J J J J J J ⟨iY,n18,fb,fq,J,J⟩ (λa23 jF gR=>?_)))));obtain⟨ZK,Z3⟩:=az Z3;refine aW (Fe (kd:=GZ) (xs:=bq) (ys:=[(dn.mk Bc Bd wg nQ)]) T (g:=1) (q:=6) J J J J J J J J J J s9 J J gR ZK J (λa24 n24 qX lU=>ro T 10 (ar (_,_,_,_,_,_,_,_,_,_,_,_) [0,1,1,0] ⟨Z3,fh,lU⟩ J J)))
 refine rc T 12 ?_
 cases Z3;exact p1 T J [3,0] ⟨a9,n9,H9,s9,J,J⟩ J
end
noncomputable section
def Cg.f (x:Int) (y:Int):Option (Int×Int):=some ((eF ((eF ((eF ((Int.fdiv x (2^32))*(Int.fdiv y (2^32))))+(Int.fdiv (eF ((eF ((Int.fdiv x (2^32))*(eF (BitVec.toNat (BitVec.ofInt (IntKind.bits .u64) y&&&BitVec.ofInt (IntKind.bits .u64) 4294967295)))))+(Int.fdiv (eF ((eF (BitVec.toNat (BitVec.ofInt (IntKind.bits .u64) x&&&BitVec.ofInt (IntKind.bits .u64) 4294967295)))*(eF (BitVec.toNat (BitVec.ofInt (IntKind.bits .u64) y&&&BitVec.ofInt (IntKind.bits .u64) 4294967295))))) (2^32)))) (2^32))))+(Int.fdiv (eF ((eF (BitVec.toNat (BitVec.ofInt (IntKind.bits .u64) (eF ((eF ((Int.fdiv x (2^32))*(eF (BitVec.toNat (BitVec.ofInt (IntKind.bits .u64) y&&&BitVec.ofInt (IntKind.bits .u64) 4294967295)))))+(Int.fdiv (eF ((eF (BitVec.toNat (BitVec.ofInt (IntKind.bits .u64) x&&&BitVec.ofInt (IntKind.bits .u64) 4294967295)))*(eF (BitVec.toNat (BitVec.ofInt (IntKind.bits .u64) y&&&BitVec.ofInt (IntKind.bits .u64) 4294967295))))) (2^32))))&&&BitVec.ofInt (IntKind.bits .u64) 4294967295)))+(eF ((eF (BitVec.toNat (BitVec.ofInt (IntKind.bits .u64) x&&&BitVec.ofInt (IntKind.bits .u64) 4294967295)))*(Int.fdiv y (2^32)))))) (2^32)))),(eF (x*y)))
theorem Cg.c (H:Cg.f x y=some r):
 QU 269 [(uu x),(uu y)] [] F (.tuple #[(uu r.1),(uu r.2)]):=by
 unfold Cg.f at H;refine aB Tryz.func269 J J (λW=>rc T 99 ?_)
 cases H;exact p0 T J [0] J
def sJ.f (x:Int) (y:Int):Option (Int×Int):=(Cg.f x y).bind λv1=>some (v1.1,v1.2)
theorem sJ.c (H:sJ.f x y=some r):
 QU 239 [(uu x),(uu y)] [] F (.tuple #[(uu r.1),(uu r.2)]):=by
 unfold sJ.f at H;refine aB Tryz.func239 J J (λW=>rc T 7 (dW J (rc T 6 (k [] J ac_ H (Cg.c ·) (λv1 H=>ro T 16 ?_)))))
 cases H;exact p0 T J [0] J
def GH.f (x:Int):Option Int:=(if x≥4294967296 then(some ((Int.fdiv x (2^32)),(32:Int))) else(some (x,(0:Int)))).bind λ(x1,x2)=>(if x1≥65536 then(some ((Int.fdiv x1 (2^16)),(aa (x2+16)))) else(some (x1,x2))).bind λ(x4,x5)=>if x4≥256 then(if(0<=(bP (Int.fdiv x4 (2^8)))/\(bP (Int.fdiv x4 (2^8)))<(List.length EA:Int)) then(some (aa ((aa (x5+8))+(aa (rd EA (bP (Int.fdiv x4 (2^8)))))))) else none) else(if(0<=(bP x4)/\(bP x4)<(List.length EA:Int)) then(some (aa (x5+(aa (rd EA (bP x4)))))) else none)
theorem GH.c (H:GH.f x=some r):
 QU 264 [(uu x)] [] F (ii r):=by
 unfold GH.f at H;refine aB Tryz.func264 J J (λW=>rc T 5 (mq H [] [0] (λz3 (⟨x1,x2⟩:Int×Int)=>((x1,x2)=z3,[(0,(uu x1)),(2,(ii x2))],[])) J J (λz3 Z1 _=>?_) ?_))
 ·refine rc T 6 (cd J Z1 (λZ1=>?_) (λZ1=>?_))
  ·refine rc T 11 (am (_,_) [0] (oi Z1) J J)
  refine rc T 2 (am (_,_) [0] (oi Z1) J J)
 rintro _ ⟨x1,x2⟩ rfl H;refine mq H [] [0] (λz6 (⟨x4,x5⟩:Int×Int)=>((x4,x5)=z6,[(0,(uu x4)),(2,(ii x5))],[])) J J (λz6 Z3 _=>?_) ?_
 ·refine rc T 6 (cd J Z3 (λZ3=>?_) (λZ3=>?_))
  ·refine rc T 13 (am (_,_) [0] (oi Z3) J J)
  refine rc T 2 (am (_,_) [0] (oi Z3) J J)
 rintro _ ⟨x4,x5⟩ rfl H;refine rc T 7 (cd J H (λH=>?_) (λH=>?_))
 ·refine rc T 18 ?_;obtain⟨c6,H⟩:=az H;refine bp J (RA T EA J J J J J c6) (ro T 6 ?_)
  cases H;exact p0 T J [0] J
 refine rc T 7 ?_;obtain⟨c7,H⟩:=az H;refine bp J (RA T EA J J J J J c7) (ro T 6 ?_)
 cases H;exact p0 T J [0] J
def GG.f (x:Int):Option Int:=(GH.f x).bind λv1=>some v1
theorem GG.c (H:GG.f x=some r):
 QU 235 [(uu x)] [] F (ii r):=by
 unfold GG.f at H;refine aB Tryz.func235 J J (λW=>rc T 6 (dW J (rc T 5 (k [] J ac7 H (GH.c ·) (λv1 H=>ro T 4 ?_)))))
 cases H;exact p0 T J [0] J
end
noncomputable section
def ly.l0:Nat->(Int×Int)->Int->List Int->Int->Option (List Int)
 |0,_,_,_,_=>none
 |yS+1,v1,x2,x9,aM=>if aM<(aa v1.2) then(if(0<=aM/\aM<=(List.length x9:Int)/\(List.length x9:Int)<=(List.length x9:Int)) then(if(0<=(0:Int)/\(0:Int)<=(if x2<aM then x2 else aM)/\(if x2<aM then x2 else aM)<=(List.length x9:Int)) then(ly.l0 yS v1 x2 (cj x9 (Int.toNat aM) (min (List.length (aA x9 0 (if x2<aM then x2 else aM))) (List.length (aA x9 aM (List.length x9:Int)))) (aA x9 0 (if x2<aM then x2 else aM))) (aa (aM+(((min (List.length (aA x9 0 (if x2<aM then x2 else aM))) (List.length (aA x9 aM (List.length x9:Int)))):Nat):Int)))) else none) else none) else(some x9)
def ly.f (b:(List Int)) (count:Int):Option (List Int):=if(count==0)=true then(some ([]:List Int)) else(if count<0 then(none) else((sJ.f (eF (List.length b:Int)) (eF count)).bind λv1=>if((decide (v1.1>0))||(decide (v1.2>9223372036854775807)))=true then(none) else(if((List.length b:Int)==0)=true then(some ([]:List Int)) else((if(aa v1.2)>8192 then(if(¬(List.length b:Int)=0) then(if((aa ((aa (Int.tdiv 8192 (List.length b:Int)))*(List.length b:Int)))==0)=true then(some (List.length b:Int)) else(some (aa ((aa (Int.tdiv 8192 (List.length b:Int)))*(List.length b:Int))))) else none) else(some (aa v1.2))).bind λx2=>if(0<=(aa v1.2)/\(aa v1.2)<=1099511627776) then(E_ (Ki (aa v1.2)) (λx4=>if((aa v1.2)=(List.length x4:Int)) then((ly.l0 fuel v1 x2 (cj x4 0 (min (List.length b) (List.length x4)) b) (((min (List.length b) (List.length x4)):Nat):Int)).bind λx5=>some x5) else none)) else none))))
def ly.R (r:(List Int)) (u:Value) (G:List Hp):Prop:= ∃(a0:Option Addr) (n0:Nat) (H0:Hp),aj (Fl.int .u8) 5 r a0 n0 H0/\u=(ll a0 r n0)/\G=[H0]
theorem ly.c (H:ly.f b count=some r) (hJ:aS (Fl.int .u8) b jV F) (gm:List.length b<=jK):
 QR 280 [(ll jV b jK),(ii count)] [] [] F (ly.R r):=by
 unfold ly.f at H;refine aB Tryz.func280 J J (λW=>rc T 12 (cb J H (λH=>?_) (λH=>?_)))
 ·refine rc T 2 (aW (cU (k:=(Fl.int .u8)) T ([]:List Int) J J J J J J J J J (λa1 H1 s1=>ro T 5 ?_)))
  cases H;exact p1 T J [1,0] ⟨a1,(List.length ([]:List Int)),H1,s1,J,J⟩ J
 refine rc T 9 (cd J H (λH=>?_) (λH=>?_))
 ·cases H
 refine rc T 9 (k [] J M0 H (sJ.c ·) (λv1 H=>ro T 13 (go T [3,4,5] 29 [0,6] 32 J J J J J J J (ro T 2 (cb J H (λH=>?_) (λH=>?_))))))
 ·cases H
 refine rc T 17 (cb J H (λH=>?_) (λH=>?_))
 ·refine rc T 2 (aW (cU (k:=(Fl.int .u8)) T ([]:List Int) J J J J J J J J J (λa2 H2 s2=>ro T 5 ?_)))
  cases H;exact p1 T J [1,0] ⟨a2,(List.length ([]:List Int)),H2,s2,J,J⟩ J
 refine rc T 8 (mq H [0,7] [0] (λz3 (x2:Int)=>(x2=z3,[(8,(ii x2))],[])) J J (λz3 Z6 _=>?_) ?_)
 ·refine rc T 6 (cd J Z6 (λZ6=>?_) (λZ6=>?_))
  ·refine rc T 4 ?_;obtain⟨c8,Z6⟩:=az Z6;refine bp J (uY J J J c8) (ro T 12 (cb J Z6 (λZ6=>?_) (λZ6=>?_)))
   ·refine rc T 6 (am _ [0] (oi Z6) J J)
   refine rc T 2 (am _ [0] (oi Z6) J J)
  refine rc T 2 (am _ [0] (oi Z6) J J)
 rintro _ x2 rfl H;refine rc T 3 ?_;obtain⟨gk,H⟩:=az H;refine aW (YO T J J J J aeC J gk (λx4 a3 n3 H3 p3_ s3=>?_));replace H:=X5 H p3_;refine ro T 2 ?_;obtain⟨dZ,H⟩:=az H;refine bp J (abt T J J J J J J dZ s3.bW) (ro T 7 ?_);have PD:0+(List.length x4)<=List.length x4:=(Mr _);refine aW (Bv (k:=(Fl.int .u8)) (xs:=x4) (ys:=b) (lo:=0) (g:=1) T J J J J J J J J (aj.trim s3 (Nat.le_refl _) s3.bW) (rO hJ 0) (.inl ⟨J,J⟩) PD (λH4 s4=>kf [7,8,60] [0,0] [(9,(ll a3 (cj x4 0 (min (List.length b) (List.length x4)) b) (List.length x4)))] J J ⟨(by first |rfl |(simp only[ll,lM PD];rfl)),trivial⟩ (ro T 3 ?_)))
 refine mq H [] [0] (λz6 (⟨x5,a5,n5,H5⟩:List Int×Option Addr×Nat×Hp)=>(x5=z6/\aj (Fl.int .u8) 5 x5 a5 n5 H5,[(9,(ll a5 x5 n5))],[H5])) J J (λz6 mS _=>?_) ?_
 ·refine rc T 1 (lq [7,8] [0] (λ(⟨yS,x9,aM,a7,n7,H7⟩:Nat×List Int×Int×Option Addr×Nat×Hp)=>(ly.l0 yS v1 x2 x9 aM=some z6/\aj (Fl.int .u8) 5 x9 a7 n7 H7,[(9,(ll a7 x9 n7)),(10,(ii aM))],[H7])) J J (fuel,(cj x4 0 (min (List.length b) (List.length x4)) b),(((min (List.length b) (List.length x4)):Nat):Int),a3,(List.length x4),H4) [0,0] ⟨mS,s4⟩ J J ?_);rintro yS ⟨x9,aM,a7,n7,H7⟩ ⟨ck,s7⟩;rw[ly.l0] at ck;refine rc T 8 (cd J ck (λck=>?_) (λck=>?_))
  ·refine rc T 11 (fz J (rz [7] mix (bO bN) (λhg pf=>ha T 7 [0,1,2] sz hg pf J ?_)));obtain⟨pG,ck⟩:=az ck;refine av 3 sz hg pf J (kn T J J J J J J pG s7.bW) (ha T 4 [4,5] sz hg pf J ?_);obtain⟨jc,ck⟩:=az ck;refine av 6 sz hg pf J (kn T J J J J J J jc s7.bW) (ao 7 ?_);have Df:(Int.toNat aM)+(List.length (aA x9 aM (List.length x9:Int)))<=List.length x9:=(HC pG);refine Bv (k:=(Fl.int .u8)) (xs:=x9) (ys:=(aA x9 0 (if x2<aM then x2 else aM))) (lo:=(Int.toNat aM)) (g:=1) T J J J J J J J J s7 (mL (oO s7 1) jc s7.bW) (.inr J) Df (λH8 s8=>?_)
   have It:(0<=aM/\aM<=(List.length x9:Int)/\(List.length x9:Int)<=(List.length (cj x9 (Int.toNat aM) (min (List.length (aA x9 0 (if x2<aM then x2 else aM))) (List.length (aA x9 aM (List.length x9:Int)))) (aA x9 0 (if x2<aM then x2 else aM))):Int)):=by simp only[lM Df];exact pG
   have XI:(0<=(0:Int)/\(0:Int)<=(if x2<aM then x2 else aM)/\(if x2<aM then x2 else aM)<=(List.length (cj x9 (Int.toNat aM) (min (List.length (aA x9 0 (if x2<aM then x2 else aM))) (List.length (aA x9 aM (List.length x9:Int)))) (aA x9 0 (if x2<aM then x2 else aM))):Int)):=by simp only[lM Df];exact jc
   refine kf [7,8,10,11,67,69,72,74] [0,0] [(9,(ll a7 (cj x9 (Int.toNat aM) (min (List.length (aA x9 0 (if x2<aM then x2 else aM))) (List.length (aA x9 aM (List.length x9:Int)))) (aA x9 0 (if x2<aM then x2 else aM))) n7)),(68,(ll a7 (cj x9 (Int.toNat aM) (min (List.length (aA x9 0 (if x2<aM then x2 else aM))) (List.length (aA x9 aM (List.length x9:Int)))) (aA x9 0 (if x2<aM then x2 else aM))) n7)),(70,(ll (fS a7 n7 (Int.toNat aM) 1) (aA (cj x9 (Int.toNat aM) (min (List.length (aA x9 0 (if x2<aM then x2 else aM))) (List.length (aA x9 aM (List.length x9:Int)))) (aA x9 0 (if x2<aM then x2 else aM))) aM (List.length x9:Int)) (n7-Int.toNat aM))),(71,(ll a7 (cj x9 (Int.toNat aM) (min (List.length (aA x9 0 (if x2<aM then x2 else aM))) (List.length (aA x9 aM (List.length x9:Int)))) (aA x9 0 (if x2<aM then x2 else aM))) n7)),(73,(ll (fS a7 n7 (Int.toNat 0) 1) (aA (cj x9 (Int.toNat aM) (min (List.length (aA x9 0 (if x2<aM then x2 else aM))) (List.length (aA x9 aM (List.length x9:Int)))) (aA x9 0 (if x2<aM then x2 else aM))) 0 (if x2<aM then x2 else aM)) (n7-Int.toNat 0)))] J J ⟨(by first |rfl |(simp only[ll,lM Df];rfl)),(by first |rfl |(simp only[ll,lM Df];rfl)),(by simp only[ll];rw[iJ It,<-iJ pG];rfl),(by first |rfl |(simp only[ll,lM Df];rfl)),(by simp only[ll];rw[iJ XI,<-iJ jc];rfl),trivial⟩ (an sl (hb T 8 sl hg pf J (hb T 9 sl hg pf J (ae (rx T 2 ?_)))))
   exact ar (_,_,_,_,_) [0,0] ⟨ck,s8⟩ J J
  refine rc T 5 (am (_,_,_,_) [0,0] ⟨oi ck,s7⟩ J J)
 rintro _ ⟨x5,a5,n5,H5⟩ ⟨rfl,s5⟩ H;refine rc T 7 ?_
 cases H;exact p1 T J [1,0] ⟨a5,n5,H5,s5,J,J⟩ J
def Ds.f (a:(List Int)) (b:(List Int)):Option Bool:=some (HB a b)
theorem Ds.c (H:Ds.f a b=some r) (DH:aS (Fl.int .u8) a E5 F) (LU:List.length a<=GQ) (hJ:aS (Fl.int .u8) b jV F) (gm:List.length b<=jK):
 QU 254 [(ll E5 a GQ),(ll jV b jK)] [] F (bb r):=by
 unfold Ds.f at H;refine aB Tryz.func254 J J (λW=>rc T 8 (bp J (RC T J J J J J (rO DH 0)) (ro T 1 (bp J (RC T J J J J J (rO hJ 0)) (bp J (abr J J J) (ro T 4 ?_))))))
 cases H;exact p0 T J [0] J
end
noncomputable section
def cmp_isNaN_int.f (x:Int):Option Bool:=some (x !=x)
theorem cmp_isNaN_int.c (H:cmp_isNaN_int.f x=some r):
 QU 265 [(ii x)] [] F (bb r):=by
 unfold cmp_isNaN_int.f at H;refine aB Tryz.func265 J J (λW=>rc T 14 ?_)
 cases H;exact p0 T J [0] J
def ss.f (x:Int) (y:Int):Option Int:=(cmp_isNaN_int.f x).bind λv1=>(cmp_isNaN_int.f y).bind λv2=>if v1=true then(if v2=true then(some 0) else(some (-1))) else(if v2=true then(some 1) else(if x<y then(some (-1)) else(if x>y then(some 1) else(some 0))))
theorem ss.c (H:ss.f x y=some r):
 QU 237 [(ii x),(ii y)] [] F (ii r):=by
 unfold ss.f at H;refine aB Tryz.func237 J J (λW=>rc T 8 (k [] J Jr H (cmp_isNaN_int.c ·) (λv1 H=>ro T 6 (k [] J Jr H (cmp_isNaN_int.c ·) (λv2 H=>ro T 9 (cb J H (λH=>?_) (λH=>?_)))))))
 ·refine rc T 6 (cb J H (λH=>?_) (λH=>?_))
  ·refine rc T 8 ?_
   cases H;exact p0 T J [0] J
  refine rc T 9 ?_
  cases H;exact p0 T J [0] J
 refine rc T 8 (cb J H (λH=>?_) (λH=>?_))
 ·refine rc T 7 ?_
  cases H;exact p0 T J [0] J
 refine rc T 10 (cd J H (λH=>?_) (λH=>?_))
 ·refine rc T 7 ?_
  cases H;exact p0 T J [0] J
 refine rc T 10 (cd J H (λH=>?_) (λH=>?_))
 ·refine rc T 7 ?_
  cases H;exact p0 T J [0] J
 refine rc T 8 ?_
 cases H;exact p0 T J [0] J
def mr.l0:Nat->(List Int)->Int->Option Int
 |0,_,_=>none
 |k3+1,tu,x2=>if x2<(List.length tu:Int) then(if(0<=x2/\x2<(List.length tu:Int)) then(if((rd tu x2)!=0)=true then(some (rd tu x2)) else(mr.l0 k3 tu (aa (x2+1)))) else none) else(some 0)
def mr.f (tu:(List Int)):Option Int:=mr.l0 fuel tu 0
theorem mr.c (H:mr.f tu=some r) (R_:aS (Fl.int .i64) tu XR F) (ajp:List.length tu<=afX):
 QU 236 [(ll XR tu afX)] [] F (ii r):=by
 unfold mr.f at H;refine aB Tryz.func236 J J (λW=>rc T 19 (lq [3,6,7] [0] (λ(⟨k3,x2⟩:Nat×Int)=>(mr.l0 k3 tu x2=some r,[(8,(ii x2))],[])) J J (fuel,0) [0] H J J ?_));rintro k3 x2 Z1;replace Z1:mr.l0 (k3+1) tu x2=some r:=Z1;rw[mr.l0] at Z1;refine rc T 6 (cd J Z1 (λZ1=>?_) (λZ1=>?_))
 ·refine rc T 6 ?_;obtain⟨c3,Z1⟩:=az Z1;obtain⟨q1,o1,e1⟩:=R_.addr c3.1 c3.2;refine ix T J e1 c3 (le T 0 (rO R_ 0) e1 c3 J J (ro T 10 (cb J Z1 (λZ1=>?_) (λZ1=>?_))))
  ·refine rc T 12 ?_
   cases Z1;exact p0 T J [0] J
  refine rc T 8 (ar _ [0] Z1 J J)
 refine rc T 12 ?_
 cases Z1;exact p0 T J [0] J
def cmp_Less_int.f (x:Int) (y:Int):Option Bool:=((cmp_isNaN_int.f x).bind λv3=>if v3=true then((cmp_isNaN_int.f y).bind λv4=>some ((!v4)||(decide (x<y)))) else(some (decide (x<y)))).bind λx1=>some x1
theorem cmp_Less_int.c (H:cmp_Less_int.f x y=some r):
 QU 300 [(ii x),(ii y)] [] F (bb r):=by
 unfold cmp_Less_int.f at H;refine aB Tryz.func300 J J (λW=>rc T 5 (mq H [] [0] (λz2 (x1:Bool)=>(x1=z2,[(4,(bb x1))],[])) J J (λz2 Z1 _=>?_) ?_))
 ·refine rc T 2 (k [] J Jr Z1 (cmp_isNaN_int.c ·) (λv3 Z1=>ro T 1 (ab 7 J Z1 (λZ1=>?_) (λZ1=>?_))))
  ·refine ro T 1 (k [] J Jr Z1 (cmp_isNaN_int.c ·) (λv4 Z1=>ro T 3 (go T [8,9,10,11] 12 [] 16 J J J J J J J (ro T 3 (am _ [0] (oi Z1) J J)))))
  refine ro T 12 (am _ [0] (oi Z1) J J)
 rintro _ x1 rfl H;refine rc T 1 ?_
 cases H;exact p0 T J [0] J
end
noncomputable section
def qO.l0:Nat->(List Int)->Int->Int->Option Int
 |0,_,_,_=>none
 |k3+1,s,v,x2=>if x2<(List.length s:Int) then(if(0<=x2/\x2<(List.length s:Int)) then(if(v==(rd s x2))=true then(some x2) else(qO.l0 k3 s v (aa (x2+1)))) else none) else(some (-1))
def qO.f (s:(List Int)) (v:Int):Option Int:=qO.l0 fuel s v 0
theorem qO.c (H:qO.f s v=some r) (jv:aS (Fl.int .u8) s iN F) (rl:List.length s<=iR):
 QU 231 [(ll iN s iR),(.int .u8 v)] [] F (ii r):=by
 unfold qO.f at H;refine aB Tryz.func231 J J (λW=>rc T 14 (lq [0,1,7] [0] (λ(⟨k3,x2⟩:Nat×Int)=>(qO.l0 k3 s v x2=some r,[(8,(ii x2))],[])) J J (fuel,0) [0] H J J ?_));rintro k3 x2 Z1;replace Z1:qO.l0 (k3+1) s v x2=some r:=Z1;rw[qO.l0] at Z1;refine rc T 6 (cd J Z1 (λZ1=>?_) (λZ1=>?_))
 ·refine rc T 15 ?_;obtain⟨c3,Z1⟩:=az Z1;obtain⟨q1,o1,e1⟩:=jv.addr c3.1 c3.2;refine ix T J e1 c3 (le T 0 (rO jv 0) e1 c3 J J (ro T 3 (cb J Z1 (λZ1=>?_) (λZ1=>?_))))
  ·refine rc T 12 ?_
   cases Z1;exact p0 T J [0] J
  refine rc T 8 (ar _ [0] Z1 J J)
 refine rc T 11 ?_
 cases Z1;exact p0 T J [0] J
def vV.f (s:(List Int)) (v:Int):Option Bool:=(qO.f s v).bind λv1=>some (decide (v1≥0))
theorem vV.c (H:vV.f s v=some r) (jv:aS (Fl.int .u8) s iN F) (rl:List.length s<=iR):
 QU 194 [(ll iN s iR),(.int .u8 v)] [] F (bb r):=by
 unfold vV.f at H;refine aB Tryz.func194 J J (λW=>rc T 9 (k [] J acP H (qO.c · (rO jv 0) rl) (λv1 H=>ro T 5 ?_)))
 cases H;exact p0 T J [0] J
def nJ.f (s:(List Int)):Option (List Int):=if(List.length ([]:List Int)+List.length s<=1099511627776) then(some (([]:List Int)++s)) else none
def nJ.R (r:(List Int)) (u:Value) (G:List Hp):Prop:= ∃(a0:Option Addr) (n0:Nat) (H0:Hp),aj (Fl.int .u8) 5 r a0 n0 H0/\u=(ll a0 r n0)/\G=[H0]
theorem nJ.c (H:nJ.f s=some r) (jv:aS (Fl.int .u8) s iN F) (rl:List.length s<=iR):
 QR 103 [(ll iN s iR)] [] [] F (nJ.R r):=by
 unfold nJ.f at H;refine aB Tryz.func103 J J (λW=>rc T 12 (Bu J (λc1=>?_) (λc1=>?_)))
 ·have hx:s=[]:=Of jv c1;replace H:some []=some r:=by simpa[hx] using H
  refine rc T 7 ?_
  cases H;refine br (p1 T J [1,0] ⟨none,0,[],aj.nil,J,J⟩ J)
 refine rc T 4 (aW (cU (k:=(Fl.int .u8)) T ([]:List Int) J J J J J J J J J (λa2 H2 s2=>ro T 1 ?_)));obtain⟨c2,H⟩:=az H;refine aW (dM (k:=(Fl.int .u8)) (xs:=([]:List Int)) T (g:=1) J J J J J J J J J J s2 (rO jv 0) c2 J (λa3 n3 H3 s3=>ro T 4 ?_))
 cases H;exact p1 T J [1,0] ⟨a3,n3,H3,s3,J,J⟩ J
def rP.f (s:(List aZ)):Option (List aZ):=if(List.length ([]:List aZ)+List.length s<=1099511627776) then(some (([]:List aZ)++s)) else none
def rP.R (r:(List aZ)) (u:Value) (G:List Hp):Prop:= ∃(a0:Option Addr) (n0:Nat) (H0:Hp),aj cI 285 r a0 n0 H0/\u=(ll a0 r n0)/\G=[H0]
theorem rP.c (H:rP.f s=some r) (jv:aS cI s iN F) (rl:List.length s<=iR):
 QR 189 [(ll iN s iR)] [] [] F (rP.R r):=by
 unfold rP.f at H;refine aB Tryz.func189 J J (λW=>rc T 12 (Bu J (λc1=>?_) (λc1=>?_)))
 ·have hx:s=[]:=Of jv c1;replace H:some []=some r:=by simpa[hx] using H
  refine rc T 7 ?_
  cases H;refine br (p1 T J [1,0] ⟨none,0,[],aj.nil,J,J⟩ J)
 refine rc T 4 (aW (cU (k:=cI) T ([]:List aZ) J J J J J J J J J (λa2 H2 s2=>ro T 1 ?_)));obtain⟨c2,H⟩:=az H;refine aW (dM (k:=cI) (xs:=([]:List aZ)) T (g:=1) J J J J J J J J J J s2 (rO jv 0) c2 J (λa3 n3 H3 s3=>ro T 4 ?_))
 cases H;exact p1 T J [1,0] ⟨a3,n3,H3,s3,J,J⟩ J
def jD.l1:Nat->(List aZ)->Int->List aZ->Int->Int->Option (List aZ)
 |0,_,_,_,_,_=>none
 |wY+1,s,x2,x7,x8,x9=>if x9<(List.length (aA x7 x2 (List.length s:Int)):Int) then(if(0<=x9/\x9<(List.length (aA x7 x2 (List.length s:Int)):Int)) then(if(0<=(aa (x9-1))/\(aa (x9-1))<(List.length (aA x7 x2 (List.length s:Int)):Int)) then(if(!(((rd (aA x7 x2 (List.length s:Int)) x9).Cell==(rd (aA x7 x2 (List.length s:Int)) (aa (x9-1))).Cell)&&(((rd (aA x7 x2 (List.length s:Int)) x9).cM==(rd (aA x7 x2 (List.length s:Int)) (aa (x9-1))).cM)&&(((rd (aA x7 x2 (List.length s:Int)) x9).Key==(rd (aA x7 x2 (List.length s:Int)) (aa (x9-1))).Key)&&true))))=true then(if(0<=x8/\x8<(List.length x7:Int)) then(jD.l1 wY s x2 (List.set x7 (Int.toNat x8) (rd (aA x7 x2 (List.length s:Int)) x9)) (aa (x8+1)) (aa (x9+1))) else none) else(jD.l1 wY s x2 x7 x8 (aa (x9+1)))) else none) else none) else(if(0<=x8/\x8<=(List.length x7:Int)/\(List.length x7:Int)<=(List.length x7:Int)) then(if(0<=(0:Int)/\(0:Int)<=x8/\x8<=(List.length (cj x7 (Int.toNat x8) (List.length (aA x7 x8 (List.length x7:Int))) (List.replicate (List.length (aA x7 x8 (List.length x7:Int))) (default:aZ))):Int)) then(some (aA (cj x7 (Int.toNat x8) (List.length (aA x7 x8 (List.length x7:Int))) (List.replicate (List.length (aA x7 x8 (List.length x7:Int))) (default:aZ))) 0 x8)) else none) else none)
def jD.l0:Nat->(List aZ)->Int->Option (List aZ)
 |0,_,_=>none
 |k3+1,s,x2=>if x2<(List.length s:Int) then(if(0<=x2/\x2<(List.length s:Int)) then(if(0<=(aa (x2-1))/\(aa (x2-1))<(List.length s:Int)) then(if(((rd s x2).Cell==(rd s (aa (x2-1))).Cell)&&(((rd s x2).cM==(rd s (aa (x2-1))).cM)&&(((rd s x2).Key==(rd s (aa (x2-1))).Key)&&true)))=true then(if(0<=x2/\x2<=(List.length s:Int)/\(List.length s:Int)<=(List.length s:Int)) then(jD.l1 fuel s x2 s x2 1) else none) else(jD.l0 k3 s (aa (x2+1)))) else none) else none) else(some s)
def jD.f (s:(List aZ)):Option (List aZ):=if(List.length s:Int)<2 then(some s) else(jD.l0 fuel s 1)
def jD.R (r:(List aZ)) (u:Value) (G:List Hp):Prop:= ∃(a0:Option Addr) (n0:Nat) (H0:Hp),aj cI 285 r a0 n0 H0/\u=(ll a0 r n0)/\G=[H0]
theorem jD.c (H:jD.f s=some r) (cF:aj cI 285 s iN iR dr):
 QR 210 [(ll iN s iR)] [dr] [] F (jD.R r):=by
 unfold jD.f at H;refine aB Tryz.func210 J J (λW=>rc T 13 (cd J H (λH=>?_) (λH=>?_)))
 ·refine rc T 8 ?_
  cases H;exact p1 T J [0,0] ⟨iN,iR,dr,cF,J,J⟩ J
 refine rc T 9 (lq [0] [1,0] (λ(⟨k3,x2⟩:Nat×Int)=>(jD.l0 k3 s x2=some r,[(3,(ii x2))],[])) J J (fuel,1) [1,0] H J J ?_);rintro k3 x2 Z2;replace Z2:jD.l0 (k3+1) s x2=some r:=Z2;rw[jD.l0] at Z2;refine rc T 9 (cd J Z2 (λZ2=>?_) (λZ2=>?_))
 ·refine rc T 5 (dj mix ay (au T J (au T J ?_)));obtain⟨c4,Z2⟩:=az Z2;obtain⟨q2,o2,e2⟩:=cF.r.addr c4.1 c4.2;refine aN J J J (cB T J J J J J e2 c4.1 c4.2) (aN J J J (fm T (cs:=[(ii (rd s x2).Cell),(ii (rd s x2).cM),(ii (rd s x2).Key)]) J J J J J J (gB (k:=cI) (oO cF 1) e2 c4 J)) (au T J (au T J (au T J ?_))));obtain⟨c5,Z2⟩:=az Z2;refine aN J J J (cB T J J J J J e2 c5.1 c5.2) (aN J J J (fm T (cs:=[(ii (rd s (aa (x2-1))).Cell),(ii (rd s (aa (x2-1))).cM),(ii (rd s (aa (x2-1))).Key)]) J J J J J J (gB (k:=cI) (oO cF 1) e2 c5 J)) (aN J J J (abl T (((rd s x2).Cell==(rd s (aa (x2-1))).Cell)&&(((rd s x2).cM==(rd s (aa (x2-1))).cM)&&(((rd s x2).Key==(rd s (aa (x2-1))).Key)&&true))) J J J J O_ ay J) (cR (rx T 1 (cb J Z2 (λZ2=>?_) (λZ2=>?_))))))
  ·refine rc T 4 ?_;obtain⟨c7,Z2⟩:=az Z2;refine bp J (kn T J J J J J J c7 cF.bW) (ro T 10 (lq [] [0] (λ(⟨wY,x7,x8,x9,a5,n5,H5⟩:Nat×List aZ×Int×Int×Option Addr×Nat×Hp)=>(jD.l1 wY s x2 x7 x8 x9=some r/\aj cI 285 x7 a5 n5 H5/\(0<=x2/\x2<=(List.length s:Int)/\(List.length s:Int)<=(List.length x7:Int)),[(0,(ll a5 x7 n5)),(3,(ii x8)),(4,(ll (fS a5 n5 (Int.toNat x2) 3) (aA x7 x2 (List.length s:Int)) (n5-Int.toNat x2))),(5,(ii x9))],[H5])) J J (fuel,s,x2,1,iN,iR,dr) [0,0] ⟨Z2,cF,c7⟩ J J ?_));rintro wY ⟨x7,x8,x9,a5,n5,H5⟩ ⟨Z8,s5,zx⟩;rw[jD.l1] at Z8;refine rc T 9 (cd J Z8 (λZ8=>?_) (λZ8=>?_))
   ·refine rc T 5 (dj mix ay (au T J (au T J ?_)));obtain⟨gk,Z8⟩:=az Z8;obtain⟨q7,o7,e7⟩:=(mL s5.r zx s5.bW).addr gk.1 gk.2;refine aN J J J (cB T J J J J J e7 gk.1 gk.2) (aN J J J (fm T (cs:=[(ii (rd (aA x7 x2 (List.length s:Int)) x9).Cell),(ii (rd (aA x7 x2 (List.length s:Int)) x9).cM),(ii (rd (aA x7 x2 (List.length s:Int)) x9).Key)]) J J J J J J (gB (k:=cI) (mL (oO s5 1) zx s5.bW) e7 gk J)) (au T J (au T J (au T J ?_))));obtain⟨dZ,Z8⟩:=az Z8;refine aN J J J (cB T J J J J J e7 dZ.1 dZ.2) (aN J J J (fm T (cs:=[(ii (rd (aA x7 x2 (List.length s:Int)) (aa (x9-1))).Cell),(ii (rd (aA x7 x2 (List.length s:Int)) (aa (x9-1))).cM),(ii (rd (aA x7 x2 (List.length s:Int)) (aa (x9-1))).Key)]) J J J J J J (gB (k:=cI) (mL (oO s5 1) zx s5.bW) e7 dZ J)) (aN J J J (Ms T (((rd (aA x7 x2 (List.length s:Int)) x9).Cell==(rd (aA x7 x2 (List.length s:Int)) (aa (x9-1))).Cell)&&(((rd (aA x7 x2 (List.length s:Int)) x9).cM==(rd (aA x7 x2 (List.length s:Int)) (aa (x9-1))).cM)&&(((rd (aA x7 x2 (List.length s:Int)) x9).Key==(rd (aA x7 x2 (List.length s:Int)) (aa (x9-1))).Key)&&true))) J J J J O_ ay J) (cR (rx T 1 (cb J Z8 (λZ8=>?_) (λZ8=>?_))))))
    ·refine rc T 6 (ix T J e7 gk (bp J (fm T (cs:=[(ii (rd (aA x7 x2 (List.length s:Int)) x9).Cell),(ii (rd (aA x7 x2 (List.length s:Int)) x9).cM),(ii (rd (aA x7 x2 (List.length s:Int)) x9).Key)]) J J J J J J (gB (k:=cI) (mL (oO s5 1) zx s5.bW) e7 gk J)) ?_));obtain⟨ja,Z8⟩:=az Z8;obtain⟨q8,o8,e8⟩:=s5.r.addr ja.1 ja.2;refine ix T J e8 ja (aW (kI (k:=cI) T 1 0 (rd (aA x7 x2 (List.length s:Int)) x9) J J J J J J s5 e8 ja J J J (λH9 s9=>?_)));have PG:(0<=x2/\x2<=(List.length s:Int)/\(List.length s:Int)<=(List.length (List.set x7 (Int.toNat x8) (rd (aA x7 x2 (List.length s:Int)) x9)):Int)):=by simp only[List.length_set];exact zx
     have PH:(0<=x2/\x2<=(List.length s:Int)/\(List.length s:Int)<=(List.length (List.set x7 (Int.toNat x8) (rd (aA x7 x2 (List.length s:Int)) x9)):Int)):=by simp only[List.length_set];exact zx
     refine kf [3,5] [0,0] [(0,(ll a5 (List.set x7 (Int.toNat x8) (rd (aA x7 x2 (List.length s:Int)) x9)) n5)),(4,(ll (fS a5 n5 (Int.toNat x2) 3) (aA (List.set x7 (Int.toNat x8) (rd (aA x7 x2 (List.length s:Int)) x9)) x2 (List.length s:Int)) (n5-Int.toNat x2)))] J J ⟨(by first |rfl |(simp only[ll,List.length_set];rfl)),(by simp only[ll];rw[iJ PG,<-iJ zx];rfl),trivial⟩ (ro T 15 ?_)
     exact ar (_,_,_,_,_,_) [0,0] ⟨Z8,s9,PG⟩ J J
    refine rc T 9 (ar (_,_,_,_,_,_) [0,0] ⟨Z8,s5,zx⟩ J J)
   refine rc T 9 ?_;obtain⟨pG,Z8⟩:=az Z8;refine bp J (kn T J J J J J J pG s5.bW) ?_;have Ir:(Int.toNat x8)+(List.length (aA x7 x8 (List.length x7:Int)))<=List.length x7:=(HC pG);refine aW (YC (k:=cI) (xs:=x7) (lo:=(Int.toNat x8)) (g:=1) T (default:aZ) J J J J J J J J s5 (.inr J) Ir (λbV bS=>?_));have PJ:(0<=x2/\x2<=(List.length s:Int)/\(List.length s:Int)<=(List.length (cj x7 (Int.toNat x8) (List.length (aA x7 x8 (List.length x7:Int))) (List.replicate (List.length (aA x7 x8 (List.length x7:Int))) (default:aZ))):Int)):=by simp only[L0 Ir];exact zx
   have It:(0<=x8/\x8<=(List.length x7:Int)/\(List.length x7:Int)<=(List.length (cj x7 (Int.toNat x8) (List.length (aA x7 x8 (List.length x7:Int))) (List.replicate (List.length (aA x7 x8 (List.length x7:Int))) (default:aZ))):Int)):=by simp only[L0 Ir];exact pG
   refine kf [3] [0,0] [(0,(ll a5 (cj x7 (Int.toNat x8) (List.length (aA x7 x8 (List.length x7:Int))) (List.replicate (List.length (aA x7 x8 (List.length x7:Int))) (default:aZ))) n5))] J J ⟨(by first |rfl |(simp only[ll,L0 Ir];rfl)),trivial⟩ (ro T 6 ?_)
   obtain⟨Fp,Z8⟩:=az Z8;refine bp J (kn T J J J J J J Fp bS.bW) (ro T 9 ?_)
   cases Z8;exact p1 T J [1,0] ⟨(fS a5 n5 (Int.toNat 0) 3),(n5-Int.toNat 0),bV,(aj.pre bS Fp),J,J⟩ J
  refine rc T 9 (ar _ [0,0] Z2 J J)
 refine rc T 12 ?_
 cases Z2;exact p1 T J [1,0] ⟨iN,iR,dr,cF,J,J⟩ J
def j6.l0:Nat->List Int->Int->Option (List Int)
 |0,_,_=>none
 |k8+1,x6,x7=>if x7<(List.length x6:Int) then(if(0<=x7/\x7<=(List.length x6:Int)/\(List.length x6:Int)<=(List.length x6:Int)) then(if(0<=(0:Int)/\(0:Int)<=x7/\x7<=(List.length x6:Int)) then(j6.l0 k8 (cj x6 (Int.toNat x7) (min (List.length (aA x6 0 x7)) (List.length (aA x6 x7 (List.length x6:Int)))) (aA x6 0 x7)) (aa (x7+(((min (List.length (aA x6 0 x7)) (List.length (aA x6 x7 (List.length x6:Int)))):Nat):Int)))) else none) else none) else(some x6)
def j6.f (x:(List Int)) (count:Int):Option (List Int):=if count<0 then(none) else((sJ.f (eF (List.length x:Int)) (eF count)).bind λv1=>if((decide (v1.1>0))||(decide (v1.2>9223372036854775807)))=true then(none) else(if(0<=(aa v1.2)/\(aa v1.2)<=1099511627776) then((j6.l0 fuel (cj (List.replicate (Int.toNat (aa v1.2)) (0:Int)) 0 (min (List.length x) (List.length (List.replicate (Int.toNat (aa v1.2)) (0:Int)))) x) (((min (List.length x) (List.length (List.replicate (Int.toNat (aa v1.2)) (0:Int)))):Nat):Int)).bind λx2=>some x2) else none))
def j6.R (r:(List Int)) (u:Value) (G:List Hp):Prop:= ∃(a0:Option Addr) (n0:Nat) (H0:Hp),aj (Fl.int .i64) 3 r a0 n0 H0/\u=(ll a0 r n0)/\G=[H0]
theorem j6.c (H:j6.f x count=some r) (yE:aS (Fl.int .i64) x E6 F) (QC:List.length x<=GR):
 QR 248 [(ll E6 x GR),(ii count)] [] [] F (j6.R r):=by
 unfold j6.f at H;refine aB Tryz.func248 J J (λW=>rc T 12 (cd J H (λH=>?_) (λH=>?_)))
 ·cases H
 refine rc T 9 (k [] J M0 H (sJ.c ·) (λv1 H=>ro T 13 (go T [3,4,5] 23 [0,6] 26 J J J J J J J (ro T 2 (cb J H (λH=>?_) (λH=>?_))))))
 ·cases H
 refine rc T 6 ?_;obtain⟨c4,H⟩:=az H;refine aW (yj (k:=(Fl.int .i64)) T (0:Int) J J J J J J J J c4 J (λa1 n1 H1 s1=>ro T 7 ?_));have L5:0+(List.length (List.replicate (Int.toNat (aa v1.2)) (0:Int)))<=List.length (List.replicate (Int.toNat (aa v1.2)) (0:Int)):=(Mr _);refine aW (Bv (k:=(Fl.int .i64)) (xs:=(List.replicate (Int.toNat (aa v1.2)) (0:Int))) (ys:=x) (lo:=0) (g:=1) T J J J J J J J J s1 (rO yE 0) (.inl ⟨J,J⟩) L5 (λH2 s2=>kf [33] [0,0] [(7,(ll a1 (cj (List.replicate (Int.toNat (aa v1.2)) (0:Int)) 0 (min (List.length x) (List.length (List.replicate (Int.toNat (aa v1.2)) (0:Int)))) x) n1))] J J ⟨(by first |rfl |(simp only[ll,lM L5];rfl)),trivial⟩ (ro T 3 ?_)))
 refine mq H [] [0] (λz3 (⟨x2,a3,n3,H3⟩:List Int×Option Addr×Nat×Hp)=>(x2=z3/\aj (Fl.int .i64) 3 x2 a3 n3 H3,[(7,(ll a3 x2 n3))],[H3])) J J (λz3 Z6 _=>?_) ?_
 ·refine rc T 1 (lq [] [0] (λ(⟨k8,x6,x7,a5,n5,H5⟩:Nat×List Int×Int×Option Addr×Nat×Hp)=>(j6.l0 k8 x6 x7=some z3/\aj (Fl.int .i64) 3 x6 a5 n5 H5,[(7,(ll a5 x6 n5)),(8,(ii x7))],[H5])) J J (fuel,(cj (List.replicate (Int.toNat (aa v1.2)) (0:Int)) 0 (min (List.length x) (List.length (List.replicate (Int.toNat (aa v1.2)) (0:Int)))) x),(((min (List.length x) (List.length (List.replicate (Int.toNat (aa v1.2)) (0:Int)))):Nat):Int),a1,n1,H2) [0,0] ⟨Z6,s2⟩ J J ?_);rintro k8 ⟨x6,x7,a5,n5,H5⟩ ⟨Z7,s5⟩;rw[j6.l0] at Z7;refine rc T 9 (cd J Z7 (λZ7=>?_) (λZ7=>?_))
  ·refine rc T 3 (fz J (rz [7] mix (bO bN) (λhg pf=>ha T 7 [0,1,2] sz hg pf J ?_)));obtain⟨c9,Z7⟩:=az Z7;refine av 3 sz hg pf J (kn T J J J J J J c9 s5.bW) (ha T 4 [4,5] sz hg pf J ?_);obtain⟨gk,Z7⟩:=az Z7;refine av 6 sz hg pf J (kn T J J J J J J gk s5.bW) (ao 7 ?_);have rX:(Int.toNat x7)+(List.length (aA x6 x7 (List.length x6:Int)))<=List.length x6:=(HC c9);refine Bv (k:=(Fl.int .i64)) (xs:=x6) (ys:=(aA x6 0 x7)) (lo:=(Int.toNat x7)) (g:=1) T J J J J J J J J s5 (mL (oO s5 1) gk s5.bW) (.inr J) rX (λH6 s6=>?_);have Lf:(0<=x7/\x7<=(List.length x6:Int)/\(List.length x6:Int)<=(List.length (cj x6 (Int.toNat x7) (min (List.length (aA x6 0 x7)) (List.length (aA x6 x7 (List.length x6:Int)))) (aA x6 0 x7)):Int)):=by simp only[lM rX];exact c9
   have Lg:(0<=(0:Int)/\(0:Int)<=x7/\x7<=(List.length (cj x6 (Int.toNat x7) (min (List.length (aA x6 0 x7)) (List.length (aA x6 x7 (List.length x6:Int)))) (aA x6 0 x7)):Int)):=by simp only[lM rX];exact gk
   refine kf [8,37,38,40,43,45] [0,0] [(7,(ll a5 (cj x6 (Int.toNat x7) (min (List.length (aA x6 0 x7)) (List.length (aA x6 x7 (List.length x6:Int)))) (aA x6 0 x7)) n5)),(39,(ll a5 (cj x6 (Int.toNat x7) (min (List.length (aA x6 0 x7)) (List.length (aA x6 x7 (List.length x6:Int)))) (aA x6 0 x7)) n5)),(41,(ll (fS a5 n5 (Int.toNat x7) 1) (aA (cj x6 (Int.toNat x7) (min (List.length (aA x6 0 x7)) (List.length (aA x6 x7 (List.length x6:Int)))) (aA x6 0 x7)) x7 (List.length x6:Int)) (n5-Int.toNat x7))),(42,(ll a5 (cj x6 (Int.toNat x7) (min (List.length (aA x6 0 x7)) (List.length (aA x6 x7 (List.length x6:Int)))) (aA x6 0 x7)) n5)),(44,(ll (fS a5 n5 (Int.toNat 0) 1) (aA (cj x6 (Int.toNat x7) (min (List.length (aA x6 0 x7)) (List.length (aA x6 x7 (List.length x6:Int)))) (aA x6 0 x7)) 0 x7) (n5-Int.toNat 0)))] J J ⟨(by first |rfl |(simp only[ll,lM rX];rfl)),(by first |rfl |(simp only[ll,lM rX];rfl)),(by simp only[ll];rw[iJ Lf,<-iJ c9];rfl),(by first |rfl |(simp only[ll,lM rX];rfl)),(by simp only[ll];rw[iJ Lg,<-iJ gk];rfl),trivial⟩ (an sl (hb T 8 sl hg pf J (hb T 9 sl hg pf J (ae (rx T 2 ?_)))))
   exact ar (_,_,_,_,_) [0,0] ⟨Z7,s6⟩ J J
  refine rc T 5 (am (_,_,_,_) [0,0] ⟨oi Z7,s5⟩ J J)
 rintro _ ⟨x2,a3,n3,H3⟩ ⟨rfl,s3⟩ H;refine rc T 7 ?_
 cases H;exact p1 T J [1,0] ⟨a3,n3,H3,s3,J,J⟩ J
def px.l0:Nat->List Int->Int->Option (List Int)
 |0,_,_=>none
 |k8+1,x6,x7=>if x7<(List.length x6:Int) then(if(0<=x7/\x7<=(List.length x6:Int)/\(List.length x6:Int)<=(List.length x6:Int)) then(if(0<=(0:Int)/\(0:Int)<=x7/\x7<=(List.length x6:Int)) then(px.l0 k8 (cj x6 (Int.toNat x7) (min (List.length (aA x6 0 x7)) (List.length (aA x6 x7 (List.length x6:Int)))) (aA x6 0 x7)) (aa (x7+(((min (List.length (aA x6 0 x7)) (List.length (aA x6 x7 (List.length x6:Int)))):Nat):Int)))) else none) else none) else(some x6)
def px.f (x:(List Int)) (count:Int):Option (List Int):=if count<0 then(none) else((sJ.f (eF (List.length x:Int)) (eF count)).bind λv1=>if((decide (v1.1>0))||(decide (v1.2>9223372036854775807)))=true then(none) else(if(0<=(aa v1.2)/\(aa v1.2)<=1099511627776) then((px.l0 fuel (cj (List.replicate (Int.toNat (aa v1.2)) (0:Int)) 0 (min (List.length x) (List.length (List.replicate (Int.toNat (aa v1.2)) (0:Int)))) x) (((min (List.length x) (List.length (List.replicate (Int.toNat (aa v1.2)) (0:Int)))):Nat):Int)).bind λx2=>some x2) else none))
def px.R (r:(List Int)) (u:Value) (G:List Hp):Prop:= ∃(a0:Option Addr) (n0:Nat) (H0:Hp),aj (Fl.int .i32) 21 r a0 n0 H0/\u=(ll a0 r n0)/\G=[H0]
theorem px.c (H:px.f x count=some r) (yE:aS (Fl.int .i32) x E6 F) (QC:List.length x<=GR):
 QR 212 [(ll E6 x GR),(ii count)] [] [] F (px.R r):=by
 unfold px.f at H;refine aB Tryz.func212 J J (λW=>rc T 12 (cd J H (λH=>?_) (λH=>?_)))
 ·cases H
 refine rc T 9 (k [] J M0 H (sJ.c ·) (λv1 H=>ro T 13 (go T [3,4,5] 23 [0,6] 26 J J J J J J J (ro T 2 (cb J H (λH=>?_) (λH=>?_))))))
 ·cases H
 refine rc T 6 ?_;obtain⟨c4,H⟩:=az H;refine aW (yj (k:=(Fl.int .i32)) T (0:Int) J J J J J J J J c4 J (λa1 n1 H1 s1=>ro T 7 ?_));have L5:0+(List.length (List.replicate (Int.toNat (aa v1.2)) (0:Int)))<=List.length (List.replicate (Int.toNat (aa v1.2)) (0:Int)):=(Mr _);refine aW (Bv (k:=(Fl.int .i32)) (xs:=(List.replicate (Int.toNat (aa v1.2)) (0:Int))) (ys:=x) (lo:=0) (g:=1) T J J J J J J J J s1 (rO yE 0) (.inl ⟨J,J⟩) L5 (λH2 s2=>kf [33] [0,0] [(7,(ll a1 (cj (List.replicate (Int.toNat (aa v1.2)) (0:Int)) 0 (min (List.length x) (List.length (List.replicate (Int.toNat (aa v1.2)) (0:Int)))) x) n1))] J J ⟨(by first |rfl |(simp only[ll,lM L5];rfl)),trivial⟩ (ro T 3 ?_)))
 refine mq H [] [0] (λz3 (⟨x2,a3,n3,H3⟩:List Int×Option Addr×Nat×Hp)=>(x2=z3/\aj (Fl.int .i32) 21 x2 a3 n3 H3,[(7,(ll a3 x2 n3))],[H3])) J J (λz3 Z6 _=>?_) ?_
 ·refine rc T 1 (lq [] [0] (λ(⟨k8,x6,x7,a5,n5,H5⟩:Nat×List Int×Int×Option Addr×Nat×Hp)=>(px.l0 k8 x6 x7=some z3/\aj (Fl.int .i32) 21 x6 a5 n5 H5,[(7,(ll a5 x6 n5)),(8,(ii x7))],[H5])) J J (fuel,(cj (List.replicate (Int.toNat (aa v1.2)) (0:Int)) 0 (min (List.length x) (List.length (List.replicate (Int.toNat (aa v1.2)) (0:Int)))) x),(((min (List.length x) (List.length (List.replicate (Int.toNat (aa v1.2)) (0:Int)))):Nat):Int),a1,n1,H2) [0,0] ⟨Z6,s2⟩ J J ?_);rintro k8 ⟨x6,x7,a5,n5,H5⟩ ⟨Z7,s5⟩;rw[px.l0] at Z7;refine rc T 9 (cd J Z7 (λZ7=>?_) (λZ7=>?_))
  ·refine rc T 3 (fz J (rz [7] mix (bO bN) (λhg pf=>ha T 7 [0,1,2] sz hg pf J ?_)));obtain⟨c9,Z7⟩:=az Z7;refine av 3 sz hg pf J (kn T J J J J J J c9 s5.bW) (ha T 4 [4,5] sz hg pf J ?_);obtain⟨gk,Z7⟩:=az Z7;refine av 6 sz hg pf J (kn T J J J J J J gk s5.bW) (ao 7 ?_);have rX:(Int.toNat x7)+(List.length (aA x6 x7 (List.length x6:Int)))<=List.length x6:=(HC c9);refine Bv (k:=(Fl.int .i32)) (xs:=x6) (ys:=(aA x6 0 x7)) (lo:=(Int.toNat x7)) (g:=1) T J J J J J J J J s5 (mL (oO s5 1) gk s5.bW) (.inr J) rX (λH6 s6=>?_);have Lf:(0<=x7/\x7<=(List.length x6:Int)/\(List.length x6:Int)<=(List.length (cj x6 (Int.toNat x7) (min (List.length (aA x6 0 x7)) (List.length (aA x6 x7 (List.length x6:Int)))) (aA x6 0 x7)):Int)):=by simp only[lM rX];exact c9
   have Lg:(0<=(0:Int)/\(0:Int)<=x7/\x7<=(List.length (cj x6 (Int.toNat x7) (min (List.length (aA x6 0 x7)) (List.length (aA x6 x7 (List.length x6:Int)))) (aA x6 0 x7)):Int)):=by simp only[lM rX];exact gk
   refine kf [8,37,38,40,43,45] [0,0] [(7,(ll a5 (cj x6 (Int.toNat x7) (min (List.length (aA x6 0 x7)) (List.length (aA x6 x7 (List.length x6:Int)))) (aA x6 0 x7)) n5)),(39,(ll a5 (cj x6 (Int.toNat x7) (min (List.length (aA x6 0 x7)) (List.length (aA x6 x7 (List.length x6:Int)))) (aA x6 0 x7)) n5)),(41,(ll (fS a5 n5 (Int.toNat x7) 1) (aA (cj x6 (Int.toNat x7) (min (List.length (aA x6 0 x7)) (List.length (aA x6 x7 (List.length x6:Int)))) (aA x6 0 x7)) x7 (List.length x6:Int)) (n5-Int.toNat x7))),(42,(ll a5 (cj x6 (Int.toNat x7) (min (List.length (aA x6 0 x7)) (List.length (aA x6 x7 (List.length x6:Int)))) (aA x6 0 x7)) n5)),(44,(ll (fS a5 n5 (Int.toNat 0) 1) (aA (cj x6 (Int.toNat x7) (min (List.length (aA x6 0 x7)) (List.length (aA x6 x7 (List.length x6:Int)))) (aA x6 0 x7)) 0 x7) (n5-Int.toNat 0)))] J J ⟨(by first |rfl |(simp only[ll,lM rX];rfl)),(by first |rfl |(simp only[ll,lM rX];rfl)),(by simp only[ll];rw[iJ Lf,<-iJ c9];rfl),(by first |rfl |(simp only[ll,lM rX];rfl)),(by simp only[ll];rw[iJ Lg,<-iJ gk];rfl),trivial⟩ (an sl (hb T 8 sl hg pf J (hb T 9 sl hg pf J (ae (rx T 2 ?_)))))
   exact ar (_,_,_,_,_) [0,0] ⟨Z7,s6⟩ J J
  refine rc T 5 (am (_,_,_,_) [0,0] ⟨oi Z7,s5⟩ J J)
 rintro _ ⟨x2,a3,n3,H3⟩ ⟨rfl,s3⟩ H;refine rc T 7 ?_
 cases H;exact p1 T J [1,0] ⟨a3,n3,H3,s3,J,J⟩ J
def p8.f (s:(List Int)):Option (List Int):=if(List.length ([]:List Int)+List.length s<=1099511627776) then(some (([]:List Int)++s)) else none
def p8.R (r:(List Int)) (u:Value) (G:List Hp):Prop:= ∃(a0:Option Addr) (n0:Nat) (H0:Hp),aj (Fl.int .i64) 3 r a0 n0 H0/\u=(ll a0 r n0)/\G=[H0]
theorem p8.c (H:p8.f s=some r) (jv:aS (Fl.int .i64) s iN F) (rl:List.length s<=iR):
 QR 227 [(ll iN s iR)] [] [] F (p8.R r):=by
 unfold p8.f at H;refine aB Tryz.func227 J J (λW=>rc T 12 (Bu J (λc1=>?_) (λc1=>?_)))
 ·have hx:s=[]:=Of jv c1;replace H:some []=some r:=by simpa[hx] using H
  refine rc T 7 ?_
  cases H;refine br (p1 T J [1,0] ⟨none,0,[],aj.nil,J,J⟩ J)
 refine rc T 4 (aW (cU (k:=(Fl.int .i64)) T ([]:List Int) J J J J J J J J J (λa2 H2 s2=>ro T 1 ?_)));obtain⟨c2,H⟩:=az H;refine aW (dM (k:=(Fl.int .i64)) (xs:=([]:List Int)) T (g:=1) J J J J J J J J J J s2 (rO jv 0) c2 J (λa3 n3 H3 s3=>ro T 4 ?_))
 cases H;exact p1 T J [1,0] ⟨a3,n3,H3,s3,J,J⟩ J
def AX.f (x:Int):Option Bool:=some (x !=x)
theorem AX.c (H:AX.f x=some r):
 QU 301 [(ii x)] [] F (bb r):=by
 unfold AX.f at H;refine aB Tryz.func301 J J (λW=>rc T 14 ?_)
 cases H;exact p0 T J [0] J
def ov.l0:Nat->(List Int)->Int->Int->Int->Option Int
 |0,_,_,_,_=>none
 |k7+1,x,target,x5,x6=>if x5<x6 then(if(0<=(aa (Int.fdiv (eF (aa (x5+x6))) (2^1)))/\(aa (Int.fdiv (eF (aa (x5+x6))) (2^1)))<(List.length x:Int)) then((cmp_Less_int.f (rd x (aa (Int.fdiv (eF (aa (x5+x6))) (2^1)))) target).bind λv8=>if v8=true then(ov.l0 k7 x target (aa ((aa (Int.fdiv (eF (aa (x5+x6))) (2^1)))+1)) x6) else(ov.l0 k7 x target x5 (aa (Int.fdiv (eF (aa (x5+x6))) (2^1))))) else none) else(some x5)
def ov.f (x:(List Int)) (target:Int):Option (Int×Bool):=(ov.l0 fuel x target 0 (List.length x:Int)).bind λx1=>(if x1<(List.length x:Int) then(if(0<=x1/\x1<(List.length x:Int)) then(if((rd x x1)==target)=true then(some true) else((AX.f (rd x x1)).bind λv11=>if v11=true then((AX.f target).bind λv12=>some v12) else(some false))) else none) else(some false)).bind λx9=>some (x1,x9)
theorem ov.c (H:ov.f x target=some r) (yE:aS (Fl.int .i64) x E6 F) (QC:List.length x<=GR):
 QU 289 [(ll E6 x GR),(ii target)] [] F (.tuple #[(ii r.1),(bb r.2)]):=by
 unfold ov.f at H;refine aB Tryz.func289 J J (λW=>rc T 20 (mq H [0,1,6] [0] (λz2 (x1:Int)=>(x1=z2,[(7,(ii x1))],[])) J J (λz2 Z1 _=>?_) ?_))
 ·refine rc T 1 (lq [0,1,6] [0] (λ(⟨k7,x5,x6⟩:Nat×Int×Int)=>(ov.l0 k7 x target x5 x6=some z2,[(7,(ii x5)),(8,(ii x6))],[])) J J (fuel,0,(List.length x:Int)) [0] Z1 J J ?_);rintro k7 ⟨x5,x6⟩ Z2;replace Z2:ov.l0 (k7+1) x target x5 x6=some z2:=Z2;rw[ov.l0] at Z2;refine rc T 8 (cd J Z2 (λZ2=>?_) (λZ2=>?_))
  ·refine rc T 18 ?_;obtain⟨c4,Z2⟩:=az Z2;obtain⟨q1,o1,e1⟩:=yE.addr c4.1 c4.2;refine ix T J e1 c4 (le T 0 (rO yE 0) e1 c4 J J (ro T 1 (k [] J adp Z2 (cmp_Less_int.c ·) (λv8 Z2=>ro T 2 (cb J Z2 (λZ2=>?_) (λZ2=>?_))))))
   ·refine rc T 7 (ar (_,_) [0] Z2 J J)
   refine rc T 6 (ar (_,_) [0] Z2 J J)
  refine rc T 5 (am _ [0] (oi Z2) J J)
 rintro _ x1 rfl H;refine mq H [] [0] (λnR (x9:Bool)=>(x9=nR,[(4,(ii x1)),(5,(bb x9))],[])) J J (λnR Z7 _=>?_) ?_
 ·refine rc T 6 (ad 35 J Z7 (λZ7=>?_) (λZ7=>?_))
  ·refine ro T 2 ?_;obtain⟨c9,Z7⟩:=az Z7;obtain⟨q2,o2,e2⟩:=yE.addr c9.1 c9.2;refine ix T J e2 c9 (le T 0 (rO yE 0) e2 c9 J J (ro T 3 (ab 42 J Z7 (λZ7=>?_) (λZ7=>?_))))
   ·refine ro T 15 (am _ [0] (oi Z7) J J)
   refine ro T 2 (ix T J e2 c9 (le T 0 (rO yE 0) e2 c9 J J (k [] J SY Z7 (AX.c ·) (λv11 Z7=>ro T 1 (ab 48 J Z7 (λZ7=>?_) (λZ7=>?_))))))
   ·refine ro T 1 (k [] J SY Z7 (AX.c ·) (λv12 Z7=>ro T 7 (am _ [0] (oi Z7) J J)))
   refine ro T 9 (am _ [0] (oi Z7) J J)
  refine ro T 22 (am _ [0] (oi Z7) J J)
 rintro _ x9 rfl H;refine rc T 1 ?_
 cases H;exact p0 T J [0] J
def qK.l0:Nat->(List aZ)->(List aZ)->Int->Option Bool
 |0,_,_,_=>none
 |k3+1,ag,ai,x2=>if x2<(List.length ag:Int) then(if(0<=x2/\x2<(List.length ag:Int)) then(if(0<=x2/\x2<(List.length ai:Int)) then(if(!(((rd ag x2).Cell==(rd ai x2).Cell)&&(((rd ag x2).cM==(rd ai x2).cM)&&(((rd ag x2).Key==(rd ai x2).Key)&&true))))=true then(some false) else(qK.l0 k3 ag ai (aa (x2+1)))) else none) else none) else(some true)
def qK.f (ag:(List aZ)) (ai:(List aZ)):Option Bool:=if((List.length ag:Int)!=(List.length ai:Int))=true then(some false) else(qK.l0 fuel ag ai 0)
theorem qK.c (H:qK.f ag ai=some r) (Ad:aS cI ag Lo F) (ZQ:List.length ag<=Oa) (R8:aS cI ai XP F) (ajo:List.length ai<=afV):
 QU 226 [(ll Lo ag Oa),(ll XP ai afV)] [] F (bb r):=by
 unfold qK.f at H;refine aB Tryz.func226 J J (λW=>rc T 15 (cb J H (λH=>?_) (λH=>?_)))
 ·refine rc T 7 ?_
  cases H;exact p0 T J [0] J
 refine rc T 11 (lq [0,1,12] [0] (λ(⟨k3,x2⟩:Nat×Int)=>(qK.l0 k3 ag ai x2=some r,[(13,(ii x2))],[])) J J (fuel,0) [0] H J J ?_);rintro k3 x2 Z2;replace Z2:qK.l0 (k3+1) ag ai x2=some r:=Z2;rw[qK.l0] at Z2;refine rc T 6 (cd J Z2 (λZ2=>?_) (λZ2=>?_))
 ·refine rc T 11 (dj mix ay (au T J (au T J ?_)));obtain⟨c4,Z2⟩:=az Z2;obtain⟨q1,o1,e1⟩:=Ad.addr c4.1 c4.2;refine aN J J J (cB T J J J J J e1 c4.1 c4.2) (aN J J J (fm T (cs:=[(ii (rd ag x2).Cell),(ii (rd ag x2).cM),(ii (rd ag x2).Key)]) J J J J J J (gB (k:=cI) (rO Ad 0) e1 c4 J)) (au T J (au T J ?_)));obtain⟨c5,Z2⟩:=az Z2;obtain⟨q2,o2,e2⟩:=R8.addr c5.1 c5.2;refine aN J J J (cB T J J J J J e2 c5.1 c5.2) (aN J J J (fm T (cs:=[(ii (rd ai x2).Cell),(ii (rd ai x2).cM),(ii (rd ai x2).Key)]) J J J J J J (gB (k:=cI) (rO R8 0) e2 c5 J)) (aN J J J (Ms T (((rd ag x2).Cell==(rd ai x2).Cell)&&(((rd ag x2).cM==(rd ai x2).cM)&&(((rd ag x2).Key==(rd ai x2).Key)&&true))) J J J J O_ ay J) (cR (rx T 1 (cb J Z2 (λZ2=>?_) (λZ2=>?_))))))
  ·refine rc T 11 ?_
   cases Z2;exact p0 T J [0] J
  refine rc T 8 (ar _ [0] Z2 J J)
 refine rc T 11 ?_
 cases Z2;exact p0 T J [0] J
end
noncomputable section
def A7.f (n:Int):Option Bool:=some ((decide (n≥1))&&(decide (n<=16)))
theorem A7.c (H:A7.f n=some r):
 QU 245 [(ii n)] [] F (bb r):=by
 unfold A7.f at H;refine aB Tryz.func245 J J (λW=>rc T 10 (ga T [3,4,5] 5 [] 8 J J J J J J J (ro T 4 ?_)))
 cases H;exact p0 T J [0] J
def tq.f (t:aJ):Option Bool:=((A7.f t.W).bind λv3=>if v3=true then((A7.f t.H).bind λv4=>if v4=true then(if((List.length t.C:Int)==(aa (t.W*t.H)))=true then((vV.f t.C 0).bind λv5=>some (!v5)) else(some false)) else(some false)) else(some false)).bind λx1=>some x1
theorem tq.c (H:tq.f t=some r) (dH:aS (Fl.int .u8) t.C iv F) (ff:List.length t.C<=iy):
 QU 220 [(.agg #[(ii t.W),(ii t.H),(ll iv t.C iy)])] [] F (bb r):=by
 unfold tq.f at H;refine aB Tryz.func220 J J (λW=>rc T 2 (nc T J (λb1=>ro T 3 (mq H [] [0] (λz2 (x1:Bool)=>(x1=z2,[(2,(bb x1))],[])) J J (λz2 Z1 _=>?_) ?_))))
 ·refine rc T 2 (lf T 1 J (k [] J SN Z1 (A7.c ·) (λv3 Z1=>ro T 1 (ab 6 J Z1 (λZ1=>?_) (λZ1=>?_)))))
  ·refine ro T 1 (lf T 1 J (k [] J SN Z1 (A7.c ·) (λv4 Z1=>ro T 2 (ab 11 J Z1 (λZ1=>?_) (λZ1=>?_)))))
   ·refine ro T 1 (lf T 1 J (ro T 2 (lf T 1 J (ro T 1 (lf T 1 J (ro T 4 (ab 22 J Z1 (λZ1=>?_) (λZ1=>?_))))))))
    ·refine ro T 1 (lf T 1 J (k [] J MW Z1 (vV.c · (rO dH 0) ff) (λv5 Z1=>ro T 5 (am _ [0] (oi Z1) J J))))
    refine ro T 8 (am _ [0] (oi Z1) J J)
   refine ro T 19 (am _ [0] (oi Z1) J J)
  refine ro T 24 (am _ [0] (oi Z1) J J)
 rintro _ x1 rfl H;refine rc T 1 ?_
 cases H;exact p0 T J [0] J
def EC.f (t:aJ) (ai:Int):Option Bool:=(if ai≥0 then(if ai<(List.length t.C:Int) then((tq.f t).bind λv3=>some v3) else(some false)) else(some false)).bind λx1=>some x1
theorem EC.c (H:EC.f t ai=some r) (dH:aS (Fl.int .u8) t.C iv F) (ff:List.length t.C<=iy):
 QU 299 [(.agg #[(ii t.W),(ii t.H),(ll iv t.C iy)]),(ii ai)] [] F (bb r):=by
 unfold EC.f at H;refine aB Tryz.func299 J J (λW=>rc T 2 (nc T J (λb1=>ro T 3 (mq H [] [0] (λz2 (x1:Bool)=>(x1=z2,[(4,(bb x1))],[])) J J (λz2 Z1 _=>?_) ?_))))
 ·refine rc T 4 (ad 7 J Z1 (λZ1=>?_) (λZ1=>?_))
  ·refine ro T 2 (lf T 1 J (ro T 4 (ad 14 J Z1 (λZ1=>?_) (λZ1=>?_))))
   ·refine lm T 1 J (k [] J Jq Z1 (tq.c · (rO dH 0) ff) (λv3 Z1=>ro T 4 (am _ [0] (oi Z1) J J)))
   refine ro T 6 (am _ [0] (oi Z1) J J)
  refine ro T 13 (am _ [0] (oi Z1) J J)
 rintro _ x1 rfl H;refine rc T 1 ?_
 cases H;exact p0 T J [0] J
def A6.f (t:aJ) (ai:Int):Option Int:=(EC.f t ai).bind λv1=>if(!v1)=true then(some 0) else(if(0<=ai/\ai<(List.length t.C:Int)) then(some (aa (rd t.C ai))) else none)
theorem A6.c (H:A6.f t ai=some r) (dH:aS (Fl.int .u8) t.C iv F) (ff:List.length t.C<=iy):
 QU 288 [(.agg #[(ii t.W),(ii t.H),(ll iv t.C iy)]),(ii ai)] [] F (ii r):=by
 unfold A6.f at H;refine aB Tryz.func288 J J (λW=>rc T 2 (nc T J (λb1=>ro T 6 (lm T 1 J (ro T 1 (k [] J ado H (EC.c · (rO dH 0) ff) (λv1 H=>ro T 3 (cb J H (λH=>?_) (λH=>?_)))))))))
 ·refine rc T 7 ?_
  cases H;exact p0 T J [0] J
 refine rc T 5 (lf T 1 J (ro T 1 ?_));obtain⟨c3,H⟩:=az H;obtain⟨q2,o2,e2⟩:=dH.addr c3.1 c3.2;refine ix T J e2 c3 (le T 0 (rO dH 0) e2 c3 J J (ro T 5 ?_))
 cases H;exact p0 T J [0] J
end
end Go.Proofs.YthodkonhneebbaaGreatDoor
