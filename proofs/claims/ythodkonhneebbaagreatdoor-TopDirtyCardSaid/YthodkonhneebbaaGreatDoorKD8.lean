/- What the functions of some packages compute, each as a function of plain Lean, with its contract. No condition. -/
import Derived.Test.YthodkonhneebbaaGreatDoorKDT
namespace Go.Proofs.YthodkonhneebbaaGreatDoor
open Go.Hx
set_option maxRecDepth 100000
set_option linter.unusedSimpArgs false
set_option linter.unusedVariables false
set_option maxHeartbeats 4000000
set_option autoImplicit true
set_option relaxedAutoImplicit true
noncomputable section
def vy.f:Option (Option eO):=some (some (eO.mk []))
def vy.R (r:(Option eO)) (u:Value) (G:List Hp):Prop:= ∃(u0:Value) (G0:List Hp),XZ r u0 G0/\u=u0/\G=G0
theorem vy.c (H:vy.f=some r):
 QR 213 [] [] [] F (vy.R r):=by
 unfold vy.f at H;refine aD Tryz.func213 J J (λW=>rc T 8 (nc T J (λb1=>ro T 4 ?_)))
 cases H;refine bw (p1 T J [1,1,0] ⟨_,_,⟨b1,none,0,[],aj.nil,J,J⟩,J,J⟩ J)
def yT.f (ag:dI) (o:dI):Option Bool:=(if ag.key<o.key then(some true) else(if(ag.key==o.key)=true then(some (decide (ag.item<o.item))) else(some false))).bind λx1=>some x1
theorem yT.c (H:yT.f ag o=some r):
 QU 270 [(.agg #[(ii ag.key),(ii ag.item)]),(.agg #[(ii o.key),(ii o.item)])] [] F (bb r):=by
 unfold yT.f at H;refine aD Tryz.func270 J J (λW=>rc T 2 (nc T J (λb1=>nc T J (λb2=>ro T 3 (mq H [] [0] (λz2 (x1:Bool)=>(x1=z2,[(4,(bb x1))],[])) J J (λz2 Z1 _=>?_) ?_)))))
 ·refine rc T 2 (lf T 1 J (ro T 1 (lf T 2 J (ro T 2 (ad 10 J Z1 (λZ1=>?_) (λZ1=>?_))))))
  ·refine ro T 16 (am _ [0] (oi Z1) J J)
  refine ro T 1 (lf T 1 J (ro T 1 (lf T 2 J (ro T 2 (ab 16 J Z1 (λZ1=>?_) (λZ1=>?_))))))
  ·refine ro T 1 (lf T 1 J (ro T 1 (lf T 2 J (ro T 6 (am _ [0] (oi Z1) J J)))))
  refine ro T 10 (am _ [0] (oi Z1) J J)
 rintro _ x1 rfl H;refine rc T 1 ?_
 cases H;exact p0 T J [0] J
def pk.l0:Nat->List dI->Int->Option eO
 |0,_,_=>none
 |k5+1,x3,x4=>if x4>0 then(if(0<=x4/\x4<(List.length x3:Int)) then(if(0<=(aa (Int.tdiv (aa (x4-1)) 2))/\(aa (Int.tdiv (aa (x4-1)) 2))<(List.length x3:Int)) then((yT.f (rd x3 x4) (rd x3 (aa (Int.tdiv (aa (x4-1)) 2)))).bind λv6=>if(!v6)=true then(some (eO.mk x3)) else(if(0<=(aa (Int.tdiv (aa (x4-1)) 2))/\(aa (Int.tdiv (aa (x4-1)) 2))<(List.length (List.set x3 (Int.toNat x4) (rd x3 (aa (Int.tdiv (aa (x4-1)) 2)))):Int)) then(pk.l0 k5 (List.set (List.set x3 (Int.toNat x4) (rd x3 (aa (Int.tdiv (aa (x4-1)) 2)))) (Int.toNat (aa (Int.tdiv (aa (x4-1)) 2))) (rd x3 x4)) (aa (Int.tdiv (aa (x4-1)) 2))) else none)) else none) else none) else(some (eO.mk x3))
def pk.f (h:eO):Option eO:=pk.l0 fuel h.l (aa ((List.length h.l:Int)-1))
def pk.R (fo:Nat) (r:eO) (u:Value) (G:List Hp):Prop:= ∃(a0:Option Addr) (n0:Nat) (H0:Hp),aj fB 359 r.l a0 n0 H0/\u=(.tuple #[])/\G=[(cl fo 357 [(ll a0 r.l n0)]),H0]
theorem pk.c (H:pk.f h=some r) (pE:aj fB 359 h.l ki kz ri):
 QR 240 [(pp fo)] [(cl fo 357 [(ll ki h.l kz)]),ri] [] F (pk.R fo r):=by
 unfold pk.f at H;refine aD Tryz.func240 J J (λW=>rc T 5 (lf T 0 J (ro T 6 (lq [0] [2] (λ(⟨k5,x3,x4,a4,n4,H4⟩:Nat×List dI×Int×Option Addr×Nat×Hp)=>(pk.l0 k5 x3 x4=some r/\aj fB 359 x3 a4 n4 H4,[(2,(ii x4))],[(cl fo 357 [(ll a4 x3 n4)]),H4])) J J (fuel,h.l,(aa ((List.length h.l:Int)-1)),ki,kz,ri) [2,0,0] ⟨H,pE⟩ J J ?_))));rintro k5 ⟨x3,x4,a4,n4,H4⟩ ⟨Z1,s4⟩;rw[pk.l0] at Z1;refine rc T 7 (cd J Z1 (λZ1=>?_) (λZ1=>?_))
 ·refine rc T 13 (du mix ay (au T J (au T J (au T J (aO J J J (aw T J J J J (aH (j:=1) J J)) (au T J ?_))))));obtain⟨c3,Z1⟩:=az Z1;obtain⟨q5,o5,e5⟩:=s4.r.addr c3.1 c3.2;refine aO J J J (cO T J J J J J e5 c3.1 c3.2) (aO J J J (fQ T (cs:=[(ii (rd x3 x4).key),(ii (rd x3 x4).item)]) J J J J J J (gX (k:=fB) (oO s4 2) e5 c3 J)) (au T J (au T J (au T J (aO J J J (aw T J J J J (aH (j:=1) J J)) (au T J ?_))))));obtain⟨c4,Z1⟩:=az Z1;refine aO J J J (cO T J J J J J e5 c4.1 c4.2) (aO J J J (fQ T (cs:=[(ii (rd x3 (aa (Int.tdiv (aa (x4-1)) 2))).key),(ii (rd x3 (aa (Int.tdiv (aa (x4-1)) 2))).item)]) J J J J J J (gX (k:=fB) (oO s4 2) e5 c4 J)) ?_);obtain⟨v6,V5,Z1⟩:=f_ Z1;refine tQ J J J J J J Tv J (yT.c V5) (au T J (cZ (rx T 1 (cb J Z1 (λZ1=>?_) (λZ1=>?_)))))
  ·refine rc T 5 ?_
   cases Z1;exact p1 T J [1,1,0] ⟨a4,n4,H4,s4,J,J⟩ J
  refine rc T 3 (fz J (rz [25,27] mix (bP bO) (λhg pf=>ha T 25 [0,1,2] sz hg pf J (av 3 sz hg pf J (aw T J J J J (aH (j:=1) J J)) (ha T 20 [4,5,6,7] sz hg pf J (av 8 sz hg pf J (aw T J J J J (aH (j:=1) J J)) (ha T 15 [9,10,11,12] sz hg pf J (av 13 sz hg pf J (aw T J J J J (aH (j:=1) J J)) (ha T 13 [14] sz hg pf J (av 15 sz hg pf J (cO T J J J J J e5 c4.1 c4.2) (av 16 sz hg pf J (fQ T (cs:=[(ii (rd x3 (aa (Int.tdiv (aa (x4-1)) 2))).key),(ii (rd x3 (aa (Int.tdiv (aa (x4-1)) 2))).item)]) J J J J J J (gX (k:=fB) (oO s4 2) e5 c4 J)) (ha T 8 [17,18,19] sz hg pf J (av 20 sz hg pf J (aw T J J J J (aH (j:=1) J J)) (ha T 6 [21] sz hg pf J (av 22 sz hg pf J (cO T J J J J J e5 c3.1 c3.2) (av 23 sz hg pf J (fQ T (cs:=[(ii (rd x3 x4).key),(ii (rd x3 x4).item)]) J J J J J J (gX (k:=fB) (oO s4 2) e5 c3 J)) (av 24 sz hg pf J (cO T J J J J J e5 c3.1 c3.2) (ao 25 (jX (k:=fB) T 2 0 (rd x3 (aa (Int.tdiv (aa (x4-1)) 2))) J J J J J J s4 e5 c3 J J J (λH6 s6=>kg [0,2,3,30,31,32,33,35,36,37,38,40,41,42,43,45,46,47,48,49,50,52,53,54,55] [0,1] [0,1,0] [(34,(ll a4 (List.set x3 (Int.toNat x4) (rd x3 (aa (Int.tdiv (aa (x4-1)) 2)))) n4)),(39,(ll a4 (List.set x3 (Int.toNat x4) (rd x3 (aa (Int.tdiv (aa (x4-1)) 2)))) n4)),(44,(ll a4 (List.set x3 (Int.toNat x4) (rd x3 (aa (Int.tdiv (aa (x4-1)) 2)))) n4)),(51,(ll a4 (List.set x3 (Int.toNat x4) (rd x3 (aa (Int.tdiv (aa (x4-1)) 2)))) n4))] [(cl fo 357 [(ll a4 (List.set x3 (Int.toNat x4) (rd x3 (aa (Int.tdiv (aa (x4-1)) 2)))) n4)])] J J ⟨(by first |rfl |(simp only[ll,List.length_set];rfl)),(by first |rfl |(simp only[ll,List.length_set];rfl)),(by first |rfl |(simp only[ll,List.length_set];rfl)),(by first |rfl |(simp only[ll,List.length_set];rfl)),trivial⟩ (by first |rfl |(simp only[ll,List.length_set];rfl)) (an sl (ao 26 ?_))))))))))))))))))))))
  obtain⟨c7,Z1⟩:=az Z1;refine lB J (cO T J J J J J e5 c7.1 c7.2) (an sl (ao 27 (jX (k:=fB) T 1 0 (rd x3 x4) J J J J J J s6 e5 c7 J J J (λH7 s7=>kg [0,2,3,30,31,32,33,35,36,37,38,40,41,42,43,45,46,47,48,49,50,52,53,54,55,56] [0,0] [0,0,0] [(34,(ll a4 (List.set (List.set x3 (Int.toNat x4) (rd x3 (aa (Int.tdiv (aa (x4-1)) 2)))) (Int.toNat (aa (Int.tdiv (aa (x4-1)) 2))) (rd x3 x4)) n4)),(39,(ll a4 (List.set (List.set x3 (Int.toNat x4) (rd x3 (aa (Int.tdiv (aa (x4-1)) 2)))) (Int.toNat (aa (Int.tdiv (aa (x4-1)) 2))) (rd x3 x4)) n4)),(44,(ll a4 (List.set (List.set x3 (Int.toNat x4) (rd x3 (aa (Int.tdiv (aa (x4-1)) 2)))) (Int.toNat (aa (Int.tdiv (aa (x4-1)) 2))) (rd x3 x4)) n4)),(51,(ll a4 (List.set (List.set x3 (Int.toNat x4) (rd x3 (aa (Int.tdiv (aa (x4-1)) 2)))) (Int.toNat (aa (Int.tdiv (aa (x4-1)) 2))) (rd x3 x4)) n4))] [(cl fo 357 [(ll a4 (List.set (List.set x3 (Int.toNat x4) (rd x3 (aa (Int.tdiv (aa (x4-1)) 2)))) (Int.toNat (aa (Int.tdiv (aa (x4-1)) 2))) (rd x3 x4)) n4)])] J J ⟨(by first |rfl |(simp only[ll,List.length_set];rfl)),(by first |rfl |(simp only[ll,List.length_set];rfl)),(by first |rfl |(simp only[ll,List.length_set];rfl)),(by first |rfl |(simp only[ll,List.length_set];rfl)),trivial⟩ (by first |rfl |(simp only[ll,List.length_set];rfl)) (an sl (ae (rx T 7 ?_)))))))
  exact ar (_,_,_,_,_) [0,1,0] ⟨Z1,s7⟩ J J
 refine rc T 4 (iZ ?_)
 cases Z1;exact p1 T J [1,1,0] ⟨a4,n4,H4,s4,J,J⟩ J
def ny.f (h:eO) (key:Int) (item:Int):Option eO:=if(List.length h.l+1<=1099511627776) then((pk.f (eO.mk (h.l++[(dI.mk key item)]))).bind λv1=>some v1) else none
def ny.R (fo:Nat) (r:eO) (u:Value) (G:List Hp):Prop:= ∃(a0:Option Addr) (n0:Nat) (H0:Hp),aj fB 359 r.l a0 n0 H0/\u=(.tuple #[])/\G=[(cl fo 357 [(ll a0 r.l n0)]),H0]
theorem ny.c (H:ny.f h key item=some r) (pE:aj fB 359 h.l ki kz ri):
 QR 217 [(pp fo),(ii key),(ii item)] [(cl fo 357 [(ll ki h.l kz)]),ri] [] F (ny.R fo r):=by
 unfold ny.f at H;refine aD Tryz.func217 J J (λW=>rc T 7 (eN J (rc T 8 (lf T 0 J (ro T 3 (aX (cU (k:=fB) T [(dI.mk key item)] J J J J J J J J J (λa3 H3 s3=>?_))))))));obtain⟨c1,H⟩:=az H;refine aX (d_ (k:=fB) (xs:=h.l) T (g:=1) J J J J J J J J J J pE (oO s3 3) c1 J (λa4 n4 H4 s4=>ro T 2 (sg T 0 J (ro T 4 (kr (pk.R fo) [] [0,0] J adm H (pk.c (h:=(eO.mk (h.l++[(dI.mk key item)]))) · s4) (λv1 H=>?_))))));rintro _ _ ⟨a5,n5,H5,s5,rfl,rfl⟩;refine fz J (ro T 1 (iZ ?_))
 cases H;exact p1 T J [2,2,0] ⟨a5,n5,H5,s5,J,J⟩ J
def DY.f (h:eO):Option Int:=some (List.length h.l:Int)
theorem DY.c (H:DY.f h=some r) (pE:aj fB 359 h.l ki kz ri):
 QU 271 [(pp fo)] [(cl fo 357 [(ll ki h.l kz)]),ri] F (ii r):=by
 unfold DY.f at H;refine aD Tryz.func271 J J (λW=>rc T 12 (eN J (rc T 7 (lf T 0 J (ro T 5 ?_)))))
 cases H;exact p0 T J [0,0,0] J
def DZ.f (h:eO):Option (Int×Int×Bool):=(DY.f h).bind λv1=>if(v1==0)=true then(some (0,0,false)) else(if(0<=(0:Int)/\(0:Int)<(List.length h.l:Int)) then(some ((rd h.l 0).key,(rd h.l 0).item,true)) else none)
theorem DZ.c (H:DZ.f h=some r) (pE:aj fB 359 h.l ki kz ri):
 QU 241 [(pp fo)] [(cl fo 357 [(ll ki h.l kz)]),ri] F (.tuple #[(ii r.1),(ii r.2.1),(bb r.2.2)]):=by
 unfold DZ.f at H;refine aD Tryz.func241 J J (λW=>rc T 11 (k [0,0] J adC H (DY.c · pE) (λv1 H=>ro T 3 (cb J H (λH=>?_) (λH=>?_)))))
 ·refine rc T 9 ?_
  cases H;exact p0 T J [0,0,0] J
 refine rc T 3 (du mix ay (au T J (au T J (au T J (aO J J J (aw T J J J J (aH (j:=0) J J)) ?_)))));obtain⟨c3,H⟩:=az H;obtain⟨q3,o3,e3⟩:=pE.r.addr c3.1 c3.2;refine aO J J J (cO T J J J J J e3 c3.1 c3.2) (au T J (aO J J J (aw T J J J J (iU (k:=fB) (oO pE 1) e3 c3 0 J)) (au T J (au T J (au T J (aO J J J (aw T J J J J (aH (j:=0) J J)) (aO J J J (cO T J J J J J e3 c3.1 c3.2) (au T J (aO J J J (aw T J J J J (iU (k:=fB) (oO pE 1) e3 c3 1 J)) (au T J (au T J (au T J (cZ (rx T 2 ?_))))))))))))))
 cases H;exact p0 T J [0,0,0] J
def jd.l1:Nat->List dI->Int->Int->Int->Option (Sum eO ((List dI)×Int))
 |0,_,_,_,_=>none
 |uk+1,x3,x4,bf,bo=>(if bo<=(aa ((aa (2*x4))+2)) then(some (decide (bo<(List.length x3:Int)))) else(some false)).bind λbd=>if bd=true then(if(0<=bo/\bo<(List.length x3:Int)) then(if(0<=bf/\bf<(List.length x3:Int)) then((yT.f (rd x3 bo) (rd x3 bf)).bind λbR=>if bR=true then(jd.l1 uk x3 x4 bo (aa (bo+1))) else(jd.l1 uk x3 x4 bf (aa (bo+1)))) else none) else none) else(if(bf==x4)=true then(some (Sum.inl (eO.mk x3))) else(if(0<=bf/\bf<(List.length x3:Int)) then(if(0<=x4/\x4<(List.length x3:Int)) then(if(0<=bf/\bf<(List.length (List.set x3 (Int.toNat x4) (rd x3 bf)):Int)) then(some (Sum.inr ((List.set (List.set x3 (Int.toNat x4) (rd x3 bf)) (Int.toNat bf) (rd x3 x4)),bf))) else none) else none) else none))
def jd.l0:Nat->List dI->Int->Option eO
 |0,_,_=>none
 |k5+1,x3,x4=>(jd.l1 fuel x3 x4 x4 (aa ((aa (2*x4))+1))).bind λzz=>match zz with |Sum.inl q=>some q |Sum.inr (x6,x7)=>jd.l0 k5 x6 x7
def jd.f (h:eO):Option eO:=jd.l0 fuel h.l 0
def jd.R (fo:Nat) (r:eO) (u:Value) (G:List Hp):Prop:= ∃(a0:Option Addr) (n0:Nat) (H0:Hp),aj fB 359 r.l a0 n0 H0/\u=(.tuple #[])/\G=[(cl fo 357 [(ll a0 r.l n0)]),H0]
theorem jd.c (H:jd.f h=some r) (pE:aj fB 359 h.l ki kz ri):
 QR 242 [(pp fo)] [(cl fo 357 [(ll ki h.l kz)]),ri] [] F (jd.R fo r):=by
 unfold jd.f at H;refine aD Tryz.func242 J J (λW=>rc T 6 (lq [0] [2] (λ(⟨k5,x3,x4,a4,n4,H4⟩:Nat×List dI×Int×Option Addr×Nat×Hp)=>(jd.l0 k5 x3 x4=some r/\aj fB 359 x3 a4 n4 H4,[(2,(ii x4))],[(cl fo 357 [(ll a4 x3 n4)]),H4])) J J (fuel,h.l,0,ki,kz,ri) [2,0,0] ⟨H,pE⟩ J J ?_));rintro k5 ⟨x3,x4,a4,n4,H4⟩ ⟨Z1,s4⟩;rw[jd.l0] at Z1;refine mn Z1 [0] [0] (λz8 (⟨x6,x7,a5,n5,H5⟩:List dI×Int×Option Addr×Nat×Hp)=>((Sum.inr (x6,x7))=z8/\aj fB 359 x6 a5 n5 H5,[(2,(ii x7))],[(cl fo 357 [(ll a5 x6 n5)]),H5])) J J (λz8 Z2 Z1=>?_) ?_
 ·refine rc T 17 (lq [0,2] [0,0,0] (λ(⟨uk,bf,bo⟩:Nat×Int×Int)=>(jd.l1 uk x3 x4 bf bo=some z8,[(3,(ii bf)),(4,(ii bo))],[])) J J (fuel,x4,(aa ((aa (2*x4))+1))) [0,0,0] Z2 J J ?_);rintro uk ⟨bf,bo⟩ Z3;replace Z3:jd.l1 (uk+1) x3 x4 bf bo=some z8:=Z3;rw[jd.l1] at Z3;refine rc T 1 (mq Z3 [0,2,3,4] [0,0,0] (λIm (bd:Bool)=>(bd=Im,[(22,(bb bd))],[])) J J (λIm Z4 _=>?_) ?_)
  ·refine rc T 7 (ad 14 J Z4 (λZ4=>?_) (λZ4=>?_))
   ·refine ro T 4 (lf T 1 J (ro T 5 (am _ [0,0,0] (oi Z4) J J)))
   refine ro T 10 (am _ [0,0,0] (oi Z4) J J)
  rintro _ bd rfl Z3;refine cb J Z3 (λZ3=>?_) (λZ3=>?_)
  ·refine rc T 5 (du mix ay (au T J (au T J (au T J (aO J J J (aw T J J J J (aH (j:=1) J J)) (au T J ?_))))));obtain⟨c7,Z3⟩:=az Z3;obtain⟨q6,o6,e6⟩:=s4.r.addr c7.1 c7.2;refine aO J J J (cO T J J J J J e6 c7.1 c7.2) (aO J J J (fQ T (cs:=[(ii (rd x3 bo).key),(ii (rd x3 bo).item)]) J J J J J J (gX (k:=fB) (oO s4 2) e6 c7 J)) (au T J (au T J (au T J (aO J J J (aw T J J J J (aH (j:=1) J J)) (au T J ?_))))));obtain⟨c8,Z3⟩:=az Z3;refine aO J J J (cO T J J J J J e6 c8.1 c8.2) (aO J J J (fQ T (cs:=[(ii (rd x3 bf).key),(ii (rd x3 bf).item)]) J J J J J J (gX (k:=fB) (oO s4 2) e6 c8 J)) ?_);obtain⟨bR,V9,Z3⟩:=f_ Z3;refine tQ J J J J J J Tv J (yT.c V9) (cZ (rx T 1 (cb J Z3 (λZ3=>?_) (λZ3=>?_))))
   ·refine rc T 12 (ar (_,_) [0,0,0] Z3 J J)
   refine rc T 9 (ar (_,_) [0,0,0] Z3 J J)
  refine rc T 13 (cb J Z3 (λZ3=>?_) (λZ3=>?_))
  ·refine rc T 6 ?_;obtain rfl:=Option.some.inj Z3;obtain rfl:=Option.some.inj (show some (eO.mk x3)=some r from Z1)
   exact p1 T J [1,1,0] ⟨a4,n4,H4,s4,J,J⟩ J
  refine rc T 3 (fz J (rz [25,27] mix (bP bO) (λhg pf=>ha T 25 [0,1,2] sz hg pf J (av 3 sz hg pf J (aw T J J J J (aH (j:=1) J J)) (ha T 20 [4,5,6,7] sz hg pf J (av 8 sz hg pf J (aw T J J J J (aH (j:=1) J J)) (ha T 15 [9,10,11,12] sz hg pf J (av 13 sz hg pf J (aw T J J J J (aH (j:=1) J J)) (ha T 13 [14] sz hg pf J ?_)))))))));obtain⟨gU,Z3⟩:=az Z3;obtain⟨q7,o7,e7⟩:=s4.r.addr gU.1 gU.2;refine av 15 sz hg pf J (cO T J J J J J e7 gU.1 gU.2) (av 16 sz hg pf J (fQ T (cs:=[(ii (rd x3 bf).key),(ii (rd x3 bf).item)]) J J J J J J (gX (k:=fB) (oO s4 2) e7 gU J)) (ha T 8 [17,18,19] sz hg pf J (av 20 sz hg pf J (aw T J J J J (aH (j:=1) J J)) (ha T 6 [21] sz hg pf J ?_))));obtain⟨i_,Z3⟩:=az Z3;refine av 22 sz hg pf J (cO T J J J J J e7 i_.1 i_.2) (av 23 sz hg pf J (fQ T (cs:=[(ii (rd x3 x4).key),(ii (rd x3 x4).item)]) J J J J J J (gX (k:=fB) (oO s4 2) e7 i_ J)) (av 24 sz hg pf J (cO T J J J J J e7 i_.1 i_.2) (ao 25 (jX (k:=fB) T 2 0 (rd x3 bf) J J J J J J s4 e7 i_ J J J (λH8 s8=>kg [0,2,3,43,44,45,46,48,49,50,51,53,54,55,56,58,59,60,61,62,63,65,66,67,68] [0,1] [0,1,0] [(47,(ll a4 (List.set x3 (Int.toNat x4) (rd x3 bf)) n4)),(52,(ll a4 (List.set x3 (Int.toNat x4) (rd x3 bf)) n4)),(57,(ll a4 (List.set x3 (Int.toNat x4) (rd x3 bf)) n4)),(64,(ll a4 (List.set x3 (Int.toNat x4) (rd x3 bf)) n4))] [(cl fo 357 [(ll a4 (List.set x3 (Int.toNat x4) (rd x3 bf)) n4)])] J J ⟨(by first |rfl |(simp only[ll,List.length_set];rfl)),(by first |rfl |(simp only[ll,List.length_set];rfl)),(by first |rfl |(simp only[ll,List.length_set];rfl)),(by first |rfl |(simp only[ll,List.length_set];rfl)),trivial⟩ (by first |rfl |(simp only[ll,List.length_set];rfl)) (an sl (ao 26 ?_)))))))
  obtain⟨pa,Z3⟩:=az Z3;refine lB J (cO T J J J J J e7 pa.1 pa.2) (an sl (ao 27 (jX (k:=fB) T 1 0 (rd x3 x4) J J J J J J s8 e7 pa J J J (λH9 s9=>kg [0,2,3,43,44,45,46,48,49,50,51,53,54,55,56,58,59,60,61,62,63,65,66,67,68,69] [0,0] [0,0,0] [(47,(ll a4 (List.set (List.set x3 (Int.toNat x4) (rd x3 bf)) (Int.toNat bf) (rd x3 x4)) n4)),(52,(ll a4 (List.set (List.set x3 (Int.toNat x4) (rd x3 bf)) (Int.toNat bf) (rd x3 x4)) n4)),(57,(ll a4 (List.set (List.set x3 (Int.toNat x4) (rd x3 bf)) (Int.toNat bf) (rd x3 x4)) n4)),(64,(ll a4 (List.set (List.set x3 (Int.toNat x4) (rd x3 bf)) (Int.toNat bf) (rd x3 x4)) n4))] [(cl fo 357 [(ll a4 (List.set (List.set x3 (Int.toNat x4) (rd x3 bf)) (Int.toNat bf) (rd x3 x4)) n4)])] J J ⟨(by first |rfl |(simp only[ll,List.length_set];rfl)),(by first |rfl |(simp only[ll,List.length_set];rfl)),(by first |rfl |(simp only[ll,List.length_set];rfl)),(by first |rfl |(simp only[ll,List.length_set];rfl)),trivial⟩ (by first |rfl |(simp only[ll,List.length_set];rfl)) (an sl (ae (rx T 7 ?_)))))))
  exact am (_,_,_,_,_) [0,1,0] ⟨oi Z3,s9⟩ J J
 rintro _ ⟨x6,x7,a5,n5,H5⟩ ⟨rfl,s5⟩ Z1;refine rx T 1 (ar (_,_,_,_,_) [0,0,0] ⟨Z1,s5⟩ J J)
def nu.f (h:eO):Option (Int×Int×Bool×eO):=(DZ.f h).bind λv1=>if v1.2.2=true then(if(0<=(aa ((List.length h.l:Int)-1))/\(aa ((List.length h.l:Int)-1))<(List.length h.l:Int)) then(if(0<=(0:Int)/\(0:Int)<(List.length h.l:Int)) then(if(0<=(0:Int)/\(0:Int)<=(aa ((List.length h.l:Int)-1))/\(aa ((List.length h.l:Int)-1))<=(List.length (List.set h.l (Int.toNat 0) (rd h.l (aa ((List.length h.l:Int)-1)))):Int)) then((jd.f (eO.mk (aA (List.set h.l (Int.toNat 0) (rd h.l (aa ((List.length h.l:Int)-1)))) 0 (aa ((List.length h.l:Int)-1))))).bind λv2=>some (v1.1,v1.2.1,v1.2.2,v2)) else none) else none) else none) else(some (v1.1,v1.2.1,v1.2.2,h))
def nu.R (fo:Nat) (r:(Int×Int×Bool×eO)) (u:Value) (G:List Hp):Prop:= ∃(a0:Option Addr) (n0:Nat) (H0:Hp),aj fB 359 r.2.2.2.l a0 n0 H0/\u=(.tuple #[(ii r.1),(ii r.2.1),(bb r.2.2.1)])/\G=[(cl fo 357 [(ll a0 r.2.2.2.l n0)]),H0]
theorem nu.c (H:nu.f h=some r) (pE:aj fB 359 h.l ki kz ri):
 QR 218 [(pp fo)] [(cl fo 357 [(ll ki h.l kz)]),ri] [] F (nu.R fo r):=by
 unfold nu.f at H;refine aD Tryz.func218 J J (λW=>rc T 10 (k [0,0] J adn H (DZ.c · pE) (λv1 H=>ro T 15 (cb J H (λH=>?_) (λH=>?_)))))
 ·refine rc T 5 (lf T 0 J (ro T 6 (fz J (rz [12] mix (bP bO) (λhg pf=>ha T 10 [0,1,2] sz hg pf J (av 3 sz hg pf J (aw T J J J J (aH (j:=0) J J)) (ha T 6 [4,5,6] sz hg pf J (av 7 sz hg pf J (aw T J J J J (aH (j:=0) J J)) (ha T 4 [8] sz hg pf J ?_)))))))));obtain⟨c3,H⟩:=az H;obtain⟨q3,o3,e3⟩:=pE.r.addr c3.1 c3.2;refine av 9 sz hg pf J (cO T J J J J J e3 c3.1 c3.2) (av 10 sz hg pf J (fQ T (cs:=[(ii (rd h.l (aa ((List.length h.l:Int)-1))).key),(ii (rd h.l (aa ((List.length h.l:Int)-1))).item)]) J J J J J J (gX (k:=fB) (oO pE 1) e3 c3 J)) ?_);obtain⟨c4,H⟩:=az H;refine av 11 sz hg pf J (cO T J J J J J e3 c4.1 c4.2) (ao 12 (jX (k:=fB) T 1 0 (rd h.l (aa ((List.length h.l:Int)-1))) J J J J J J pE e3 c4 J J J (λH4 s4=>kg [0,2,3,4,5,19,20,21,23,24,25,27,28,29,30] [1,1] [1,1,0] [(22,(ll ki (List.set h.l (Int.toNat 0) (rd h.l (aa ((List.length h.l:Int)-1)))) kz)),(26,(ll ki (List.set h.l (Int.toNat 0) (rd h.l (aa ((List.length h.l:Int)-1)))) kz))] [(cl fo 357 [(ll ki (List.set h.l (Int.toNat 0) (rd h.l (aa ((List.length h.l:Int)-1)))) kz)])] J J ⟨(by first |rfl |(simp only[ll,List.length_set];rfl)),(by first |rfl |(simp only[ll,List.length_set];rfl)),trivial⟩ (by first |rfl |(simp only[ll,List.length_set];rfl)) (an sl (ae (rx T 7 (lf T 2 J (ro T 1 ?_))))))))
  obtain⟨c5,H⟩:=az H;refine br J (ko T J J J J J J c5 s4.bY) (ro T 2 (sg T 2 J (ro T 4 (kr (jd.R fo) [] [2,0] J ado H (jd.c (h:=(eO.mk (aA (List.set h.l (Int.toNat 0) (rd h.l (aa ((List.length h.l:Int)-1)))) 0 (aa ((List.length h.l:Int)-1))))) · (aj.pre s4 c5)) (λv2 H=>?_)))));rintro _ _ ⟨a5,n5,H5,s5,rfl,rfl⟩;refine fz J (ro T 1 (ks [2,3,4] J (rx T 12 ?_)))
  cases H;exact p1 T J [1,1,0] ⟨a5,n5,H5,s5,J,J⟩ J
 refine rc T 13 ?_
 cases H;exact p1 T J [0,0,0] ⟨ki,kz,ri,pE,J,J⟩ J
end
noncomputable section
def v_.f (ag:Int):Option (Option eF):=if((decide (ag<0))||(decide (ag>1099511627776)))=true then(some none) else(some (some (eF.mk ag 0 (List.replicate 256 (default:jM)))))
def v_.R (r:(Option eF)) (u:Value) (G:List Hp):Prop:= ∃(u0:Value) (G0:List Hp),X5 r u0 G0/\u=u0/\G=G0
theorem v_.c (H:v_.f ag=some r):
 QR 247 [(ii ag)] [] [] F (v_.R r):=by
 unfold v_.f at H;refine aD Tryz.func247 J J (λW=>rc T 11 (go T [3,4,5] 5 [0] 8 J J J J J J J (ro T 2 (cb J H (λH=>?_) (λH=>?_)))))
 ·refine rc T 7 ?_
  cases H;exact p1 T J [0] ⟨_,_,⟨J,J⟩,J,J⟩ J
 refine rc T 6 (aX (Y3 (kd:=Wx) T [(ii ag),(ii 0)] 256 (default:jM) [nl,(ii 0)] J J J J ⟨none,0,[],(aj.nil (k:=(Fl.int .i64)) (E:=3)),J,J⟩ (λb1 H1 s1=>ro T 4 ?_)))
 cases H;exact p1 T J [1,0] ⟨_,_,⟨b1,H1,(And.intro s1 (List.length_replicate ..)),J,J⟩,J,J⟩ J
def wa.f (ag:eF):Option Int:=some ag.len
theorem wa.c (H:wa.f ag=some r) (cJ:kc ag aY de):
 QU 274 [(pp aY)] [de] F (ii r):=by
 unfold wa.f at H;refine aD Tryz.func274 J J (λW=>rc T 12 (eN J (rc T 7 (lg T J (AG (j:=0) J cJ.1 J) (ro T 4 ?_)))))
 cases H;exact p0 T J [0,0] J
def xK.f (ag:eF) (key:Int):Option (Bool×eF):=(if ag.len>0 then(some true) else(some ((decide (key<ag.ba))||(decide (key>1099511627776))))).bind λx1=>if x1=true then(some (false,ag)) else(some (true,(eF.mk key ag.len ag.buckets)))
def xK.R (nk:Nat) (r:(Bool×eF)) (u:Value) (G:List Hp):Prop:= ∃(H0:Hp),kc r.2 nk H0/\u=(bb r.1)/\G=[H0]
theorem xK.c (H:xK.f ag key=some r) (cJ:kc ag aY de):
 QR 290 [(pp aY),(ii key)] [de] [] F (xK.R aY r):=by
 unfold xK.f at H;refine aD Tryz.func290 J J (λW=>rc T 6 (mq H [0,1] [1,0] (λz2 (x1:Bool)=>(x1=z2,[(25,(bb x1))],[])) J J (λz2 Z1 _=>?_) ?_))
 ·refine rc T 7 (lg T J (AG (j:=0) J cJ.1 J) (ro T 3 (ad 14 J Z1 (λZ1=>?_) (λZ1=>?_))))
  ·refine ro T 13 (am _ [1,0] (oi Z1) J J)
  refine ro T 4 (lg T J (AG (j:=0) J cJ.1 J) (ro T 3 (go T [18,19,20] 22 [0,1] 25 J J J J J J J (ro T 2 (am _ [1,0] (oi Z1) J J)))))
 rintro _ x1 rfl H;refine cb J H (λH=>?_) (λH=>?_)
 ·refine rc T 7 ?_
  cases H;exact p1 T J [1,0] ⟨de,cJ,J,J⟩ J
 refine rc T 8 (aX (IU T 1 [(ii key),(ii ag.len)] J J J J J J cJ.1 J J J J (λH2 s2=>ro T 8 ?_)))
 cases H;exact p1 T J [1,0] ⟨H2,(And.intro s2 cJ.2),J,J⟩ J
def zt.f (b:jM) (item:Int):Option jM:=if(List.length b.items+1<=1099511627776) then(some (jM.mk (b.items++[item]) b.gone)) else none
def zt.R (u9:Nat) (Me:TypeId) (Mq Mr:List Value) (r:jM) (u:Value) (G:List Hp):Prop:= ∃(a0:Option Addr) (n0:Nat) (H0:Hp),aj (Fl.int .i64) 3 r.items a0 n0 H0/\u=(.tuple #[])/\G=[[(u9,Obj.cells (Mq++(([(ll a0 r.items n0),(ii r.gone)]:List Value)++Mr)).toArray Me (0,0))],H0]
theorem zt.c (H:zt.f b item=some r) (zw:aj (Fl.int .i64) 3 b.items wO sS Bw):
 QR 302 [(.pointer (some ⟨u9,List.length CO+0,none⟩)),(ii item)] [[(u9,Obj.cells (CO++(([(ll wO b.items sS),(ii b.gone)]:List Value)++KN)).toArray ID (0,0))],Bw] [] F (zt.R u9 ID CO KN r):=by
 unfold zt.f at H;refine aD Tryz.func302 J J (λW=>rc T 5 (lg T J (Cl (j:=0) J 0 J) (ro T 1 (aX (cU (k:=(Fl.int .i64)) T [item] J J J J J J J J J (λa3 H3 s3=>?_))))));obtain⟨c1,H⟩:=az H;refine aX (d_ (k:=(Fl.int .i64)) (xs:=b.items) T (g:=1) J J J J J J J J J J zw (oO s3 3) c1 J (λa4 n4 H4 s4=>ro T 2 (aX (IY T 0 0 [(ll a4 (b.items++[item]) n4),(ii b.gone)] J J J J J J J J J J ?_))));refine ro T 1 (iZ ?_)
 cases H;exact p1 T J [0,0,0] ⟨a4,n4,H4,s4,J,J⟩ J
def sX.f (ag:eF) (key:Int) (item:Int):Option (Bool×eF):=(if key<ag.ba then(some true) else(some (decide ((aa (key-ag.ba))≥256)))).bind λx1=>if x1=true then(some (false,ag)) else(if(0<=(Int.tmod key 256)/\(Int.tmod key 256)<(List.length ag.buckets:Int)) then((zt.f (rd ag.buckets (Int.tmod key 256)) item).bind λv3=>some (true,(eF.mk ag.ba (aa (ag.len+1)) (List.set ag.buckets (Int.toNat (Int.tmod key 256)) v3)))) else none)
def sX.R (nk:Nat) (r:(Bool×eF)) (u:Value) (G:List Hp):Prop:= ∃(H0:Hp),kc r.2 nk H0/\u=(bb r.1)/\G=[H0]
theorem sX.c (H:sX.f ag key item=some r) (cJ:kc ag aY de):
 QR 291 [(pp aY),(ii key),(ii item)] [de] [] F (sX.R aY r):=by
 unfold sX.f at H;refine aD Tryz.func291 J J (λW=>rc T 6 (mq H [0,1,2] [1,0] (λz2 (x1:Bool)=>(x1=z2,[(25,(bb x1))],[])) J J (λz2 Z1 _=>?_) ?_))
 ·refine rc T 8 (lg T J (AG (j:=0) J cJ.1 J) (ro T 3 (ad 17 J Z1 (λZ1=>?_) (λZ1=>?_))))
  ·refine ro T 10 (am _ [1,0] (oi Z1) J J)
  refine ro T 4 (lg T J (AG (j:=0) J cJ.1 J) (ro T 5 (am _ [1,0] (oi Z1) J J)))
 rintro _ x1 rfl H;refine cb J H (λH=>?_) (λH=>?_)
 ·refine rc T 7 ?_
  cases H;exact p1 T J [1,0] ⟨de,cJ,J,J⟩ J
 refine rc T 3 ?_;obtain⟨c4,H⟩:=az H;refine LV (j:=1) J cJ.1 c4 (λp2_ q2_ _ H3 _ o2_ XD=>?_);obtain⟨a5,n5,H5,s5,rfl,rfl⟩:=o2_;refine bQ (As:=[H5]) 3 J (rc T 6 (br J (Jn T J J J J J (by rw[cJ.2] at c4;exact c4) (by rw[wH.at XD];rfl)) (ro T 1 ?_)))
 refine kr (zt.R aY 396 p2_ q2_) [] [1,2] J adR H (zt.c · s5) (λv3 H=>?_);rintro _ _ ⟨a6,n6,H6,s6,rfl,rfl⟩;refine fz J (ro T 1 (gn [3] J (Fp (j:=2) (q1:=1) (q2:=3) v3 J XD J J J J J ⟨a6,n6,H6,s6,J,J⟩ (λH8 s8=>rx T 6 (lg T J (AG (j:=2) J s8 J) (ro T 3 (aX (IU T 2 [(ii ag.ba),(ii (aa (ag.len+1)))] J J J J J J s8 J J J J (λH9 s9=>ro T 8 ?_)))))))))
 cases H;exact p1 T J [2,0] ⟨H9,(And.intro s9 (K2 cJ.2)),J,J⟩ J
def xL.f (b:jM):Option Bool:=some (b.gone==(List.length b.items:Int))
theorem xL.c (H:xL.f b=some r) (zw:aj (Fl.int .i64) 3 b.items wO sS Bw):
 QU 292 [(.pointer (some ⟨u9,List.length CO+0,none⟩))] [[(u9,Obj.cells (CO++(([(ll wO b.items sS),(ii b.gone)]:List Value)++KN)).toArray ID (0,0))],Bw] F (bb r):=by
 unfold xL.f at H;refine aD Tryz.func292 J J (λW=>rc T 6 (du mix ay (au T J (au T J (au T J (aO J J J (aw T J J J J (Cl (j:=0) J 1 J)) (au T J (au T J (au T J (aO J J J (aw T J J J J (Cl (j:=0) J 0 J)) (au T J (au T J (au T J (cZ (rx T 2 ?_)))))))))))))))
 cases H;exact p0 T J [0,0,0] J
def rN.f (b:jM):Option (Int×jM):=if(0<=b.gone/\b.gone<(List.length b.items:Int)) then((xL.f (jM.mk b.items (aa (b.gone+1)))).bind λv1=>if v1=true then(if(0<=(0:Int)/\(0:Int)<=(0:Int)/\(0:Int)<=(List.length b.items:Int)) then(some ((rd b.items b.gone),(jM.mk (aA b.items 0 0) 0))) else none) else(some ((rd b.items b.gone),(jM.mk b.items (aa (b.gone+1)))))) else none
def rN.R (u9:Nat) (Me:TypeId) (Mq Mr:List Value) (r:(Int×jM)) (u:Value) (G:List Hp):Prop:= ∃(a0:Option Addr) (n0:Nat) (H0:Hp),aj (Fl.int .i64) 3 r.2.items a0 n0 H0/\u=(ii r.1)/\G=[[(u9,Obj.cells (Mq++(([(ll a0 r.2.items n0),(ii r.2.gone)]:List Value)++Mr)).toArray Me (0,0))],H0]
theorem rN.c (H:rN.f b=some r) (zw:aj (Fl.int .i64) 3 b.items wO sS Bw):
 QR 293 [(.pointer (some ⟨u9,List.length CO+0,none⟩))] [[(u9,Obj.cells (CO++(([(ll wO b.items sS),(ii b.gone)]:List Value)++KN)).toArray ID (0,0))],Bw] [] F (rN.R u9 ID CO KN r):=by
 unfold rN.f at H;refine aD Tryz.func293 J J (λW=>rc T 6 (du mix ay (au T J (au T J (au T J (aO J J J (aw T J J J J (Cl (j:=0) J 0 J)) (au T J (au T J (au T J (aO J J J (aw T J J J J (Cl (j:=0) J 1 J)) ?_))))))))));obtain⟨c1,H⟩:=az H;obtain⟨q3,o3,e3⟩:=zw.r.addr c1.1 c1.2;refine aO J J J (cO T J J J J J e3 c1.1 c1.2) (aO J J J (aw T J J J J (iU (k:=(Fl.int .i64)) (oO zw 1) e3 c1 0 J)) (au T J (cZ (rx T 6 (lg T J (Cl (j:=0) J 1 J) (ro T 3 (aX (IY T 0 1 [(ll wO b.items sS),(ii (aa (b.gone+1)))] J J J J J J J J J J ?_))))))));refine ro T 6 (k [0,0] J TA H (xL.c (b:=(jM.mk b.items (aa (b.gone+1)))) · zw) (λv1 H=>ro T 2 (cb J H (λH=>?_) (λH=>?_))))
 ·refine rc T 6 (lg T J (Cl (j:=0) J 0 J) ?_);obtain⟨c4,H⟩:=az H;refine br J (ko T J J J J J J c4 zw.bY) (ro T 2 (aX (IY T 0 0 [(ll (fW wO sS (Int.toNat 0) 1) (aA b.items 0 0) (sS-Int.toNat 0)),(ii (aa (b.gone+1)))] J J J J J J J J J J ?_)));refine ro T 2 (aX (IY T 0 1 [(ll (fW wO sS (Int.toNat 0) 1) (aA b.items 0 0) (sS-Int.toNat 0)),(ii 0)] J J J J J J J J J J ?_));refine ro T 9 ?_
  cases H;exact p1 T J [0,0,0] ⟨(fW wO sS (Int.toNat 0) 1),(sS-Int.toNat 0),Bw,(aj.pre zw c4),J,J⟩ J
 refine rc T 9 ?_
 cases H;exact p1 T J [0,0,0] ⟨wO,sS,Bw,zw,J,J⟩ J
def oE.l0:Nat->eF->Option eF
 |0,_=>none
 |k6+1,x5=>if(0<=(Int.tmod x5.ba 256)/\(Int.tmod x5.ba 256)<(List.length x5.buckets:Int)) then((xL.f (rd x5.buckets (Int.tmod x5.ba 256))).bind λv7=>if v7=true then(oE.l0 k6 (eF.mk (aa (x5.ba+1)) x5.len x5.buckets)) else(some x5)) else none
def oE.f (ag:eF):Option (Int×Int×Bool×eF):=(wa.f ag).bind λv1=>if(v1==0)=true then(some (0,0,false,ag)) else((oE.l0 fuel ag).bind λx2=>if(0<=(Int.tmod x2.ba 256)/\(Int.tmod x2.ba 256)<(List.length x2.buckets:Int)) then((rN.f (rd x2.buckets (Int.tmod x2.ba 256))).bind λv8=>some (x2.ba,v8.1,true,(eF.mk x2.ba (aa (x2.len-1)) (List.set x2.buckets (Int.toNat (Int.tmod x2.ba 256)) v8.2)))) else none)
def oE.R (nk:Nat) (r:(Int×Int×Bool×eF)) (u:Value) (G:List Hp):Prop:= ∃(H0:Hp),kc r.2.2.2 nk H0/\u=(.tuple #[(ii r.1),(ii r.2.1),(bb r.2.2.1)])/\G=[H0]
theorem oE.c (H:oE.f ag=some r) (cJ:kc ag aY de):
 QR 275 [(pp aY)] [de] [] F (oE.R aY r):=by
 unfold oE.f at H;refine aD Tryz.func275 J J (λW=>rc T 11 (k [0] J Ns H (wa.c · cJ) (λv1 H=>ro T 3 (cb J H (λH=>?_) (λH=>?_)))))
 ·refine rc T 9 ?_
  cases H;exact p1 T J [0,0] ⟨de,cJ,J,J⟩ J
 refine rc T 2 (mq H [0] [1] (λz3 (⟨x2,H2⟩:eF×Hp)=>(x2=z3/\kc x2 aY H2,[],[H2])) J J (λz3 Z3 _=>?_) ?_)
 ·refine rc T 1 (lq [0] [1] (λ(⟨k6,x5,H4⟩:Nat×eF×Hp)=>(oE.l0 k6 x5=some z3/\kc x5 aY H4,[],[H4])) J J (fuel,ag,de) [1,0] ⟨Z3,cJ⟩ J J ?_);rintro k6 ⟨x5,H4⟩ ⟨Z4,s4⟩;rw[oE.l0] at Z4;refine rc T 2 ?_;obtain⟨c5,Z4⟩:=az Z4;refine LV (j:=1) J s4.1 c5 (λp5_ q5_ _ H6 _ o5_ PS=>?_);obtain⟨a8,n8,H8,s8,rfl,rfl⟩:=o5_;refine bQ (As:=[H8]) 3 J (du mix ay ?_)
  iterate 4 refine au T J ?_
  refine aO J J J (aw T J J J J (Eb (j:=1) J PS J)) (au T J (au T J (au T J (aO J J J (Jn T J J J J J (by rw[s4.2] at c5;exact c5) (by rw[wH.at PS];rfl)) ?_))))
  obtain⟨v7,V6,Z4⟩:=f_ Z4;refine wS [1,2] J J J J J J TA J (xL.c V6 s8) (cZ (gn [3] J (Y4 (j:=1) (q1:=2) (q2:=3) J PS J J J J J ⟨a8,n8,H8,s8,J,J⟩ (λbX bT=>rx T 1 (cb J Z4 (λZ4=>?_) (λZ4=>?_))))))
  ·refine rc T 7 (lg T J (AG (j:=1) J bT J) (ro T 3 (aX (IU T 1 [(ii (aa (x5.ba+1))),(ii x5.len)] J J J J J J bT J J J J (λcA dh=>ro T 3 (ar (_,_) [0,0] ⟨Z4,(And.intro dh s4.2)⟩ J J))))))
  refine rc T 5 (am (_,_) [0,0] ⟨oi Z4,(And.intro bT s4.2)⟩ J J)
 rintro _ ⟨x2,H2⟩ ⟨rfl,s2⟩ H;refine rc T 5 (lg T J (AG (j:=1) J s2.1 J) (ro T 3 (aX (IU T 1 [(ii x2.ba),(ii (aa (x2.len-1)))] J J J J J J s2.1 J J J J (λdz dJ=>ro T 3 ?_)))));obtain⟨c8,H⟩:=az H;refine LV (j:=1) J dJ c8 (λOO OT _ fI _ agv yh=>?_);obtain⟨jV,n16,fN,fj,rfl,rfl⟩:=agv;refine bQ (As:=[fN]) 3 J (ks [0] J (fz J (rg [] [0,1] mix (bP bO) (λhg pf=>ha T 8 [0,1,2,4,5,6,7,10,11] (so [0,1]) hg pf J (gB 3 8 ?_ ?_)))))
 ·refine lB J (aw T J J J J (Eb (j:=1) J yh J)) (an (so [0,1]) (ao 8 (lB J (aw T J J J J (Eb (j:=1) J yh J)) (an (so [0,1]) (ha T 5 [9] (so [0,1]) hg pf J (av 12 (so [0,1]) hg pf J (Jn T J J J J J (by rw[s2.2] at c8;exact c8) (by rw[wH.at yh];rfl)) (ao 13 ?_)))))))
  refine kR (rN.R aY 396 OO OT) [] [1,2] J Nu H (rN.c · fj) (λv8 H=>?_);rintro _ _ ⟨a17,n17,ez,fw,rfl,rfl⟩;refine fz J (an (so [0,0]) (ha T 0 [14,15,16] (so [0,0]) hg pf J (ae (gn [3] J (Fp (j:=2) (q1:=1) (q2:=3) v8.2 J yh J J J J J ⟨a17,n17,ez,fw,J,J⟩ (λkJ gR=>rx T 2 ?_))))))
  cases H;exact p1 T J [2,0] ⟨kJ,(And.intro gR (K2 s2.2)),J,J⟩ J
 refine lB J (aw T J J J J (Eb (j:=1) J yh J)) (an (so [0,1]) (ha T 6 [9] (so [0,1]) hg pf J (av 12 (so [0,1]) hg pf J (Jn T J J J J J (by rw[s2.2] at c8;exact c8) (by rw[wH.at yh];rfl)) ?_)))
 refine gB 3 13 ?_ ?_
 ·refine lB J (aw T J J J J (Eb (j:=1) J yh J)) (an (so [0,1]) (ao 13 (kR (rN.R aY 396 OO OT) [] [1,2] J Nu H (rN.c · fj) (λv9 H=>?_))));rintro _ _ ⟨a20,n20,oa,l9,rfl,rfl⟩;refine fz J (an (so [0,0]) (ha T 0 [14,15,16] (so [0,0]) hg pf J (ae (gn [3] J (Fp (j:=2) (q1:=1) (q2:=3) v9.2 J yh J J J J J ⟨a20,n20,oa,l9,J,J⟩ (λmC iM=>rx T 2 ?_))))))
  cases H;exact p1 T J [2,0] ⟨mC,(And.intro iM (K2 s2.2)),J,J⟩ J
 refine kR (rN.R aY 396 OO OT) [] [1,2] J Nu H (rN.c · fj) (λv10 H=>?_);rintro _ _ ⟨a23,n23,jD,gS,rfl,rfl⟩;refine fz J (an (so [0,0]) (ao 3 (lB J (aw T J J J J (Eb (j:=2) J yh J)) (an (so [0,0]) (ha T 0 [14,15,16] (so [0,0]) hg pf J (ae (gn [3] J (Fp (j:=2) (q1:=1) (q2:=3) v10.2 J yh J J J J J ⟨a23,n23,jD,gS,J,J⟩ (λgL iW=>rx T 2 ?_)))))))))
 cases H;exact p1 T J [2,0] ⟨gL,(And.intro iW (K2 s2.2)),J,J⟩ J
end
end Go.Proofs.YthodkonhneebbaaGreatDoor
