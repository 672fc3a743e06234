/- What the functions of some packages compute, each as a function of plain Lean, with its contract. No condition. -/
import Derived.Test.YthodkonhneebbaaGreatDoorKWT
namespace Go.Proofs.YthodkonhneebbaaGreatDoor
open Go.Hx
set_option maxRecDepth 100000
set_option linter.unusedSimpArgs false
set_option linter.unusedVariables false
set_option maxHeartbeats 4000000
set_option autoImplicit true
set_option relaxedAutoImplicit true
noncomputable section
def vu.f:Option (Option eT):=some (some (eT.mk []))
def vu.R (r:(Option eT)):bm:=λu G=> ∃(u0:Value) (G0:List Hp),XX r u0 G0/\u=u0/\G=G0
theorem vu.c (H:vu.f=some r):
 QR 213 [] [] [] F (vu.R r):=by
 unfold vu.f at H;refine aG Tryz.func213 J J (λW=>rc T 8 (nc T J (λb1=>ro T 4 ?_)))
 cases H;refine bC (p1 T J [1,1,0] ⟨_,_,⟨b1,none,0,[],aj.nil,J,J⟩,J,J⟩ J)
def yO.f (ag:dO) (o:dO):Option Bool:=(if ag.key<o.key then(some true) else(if(ag.key==o.key)=true then(some (decide (ag.item<o.item))) else(some false))).bind λx1=>some x1
theorem yO.c (H:yO.f ag o=some r):
 QU 270 [(.agg #[(ii ag.key),(ii ag.item)]),(.agg #[(ii o.key),(ii o.item)])] [] F (bb r):=by
 unfold yO.f at H;refine aG Tryz.func270 J J (λW=>rc T 2 (nc T J (λb1=>nc T J (λb2=>ro T 3 (mq H [] [0] (λz2 (x1:Bool)=>(x1=z2,[(4,(bb x1))],[])) J J (λz2 Z1 _=>?_) ?_)))))
 ·refine rc T 2 (lf T 1 J (ro T 1 (lf T 2 J (ro T 2 (ad 10 J Z1 (λZ1=>?_) (λZ1=>?_))))))
  ·refine ro T 16 (am _ [0] (oi Z1) J J)
  refine ro T 1 (lf T 1 J (ro T 1 (lf T 2 J (ro T 2 (ab 16 J Z1 (λZ1=>?_) (λZ1=>?_))))))
  ·refine ro T 1 (lf T 1 J (ro T 1 (lf T 2 J (ro T 6 (am _ [0] (oi Z1) J J)))))
  refine ro T 10 (am _ [0] (oi Z1) J J)
 rintro _ x1 rfl H;refine rc T 1 ?_
 cases H;exact p0 T J [0] J
def pq.l0:Nat->List dO->Int->Option eT
 |0,_,_=>none
 |k5+1,x3,x4=>if x4>0 then(if(0<=x4/\x4<(List.length x3:Int)) then(if(0<=(aa (Int.tdiv (aa (x4-1)) 2))/\(aa (Int.tdiv (aa (x4-1)) 2))<(List.length x3:Int)) then((yO.f (rd x3 x4) (rd x3 (aa (Int.tdiv (aa (x4-1)) 2)))).bind λv6=>if(!v6)=true then(some (eT.mk x3)) else(if(0<=(aa (Int.tdiv (aa (x4-1)) 2))/\(aa (Int.tdiv (aa (x4-1)) 2))<(List.length (List.set x3 (Int.toNat x4) (rd x3 (aa (Int.tdiv (aa (x4-1)) 2)))):Int)) then(pq.l0 k5 (List.set (List.set x3 (Int.toNat x4) (rd x3 (aa (Int.tdiv (aa (x4-1)) 2)))) (Int.toNat (aa (Int.tdiv (aa (x4-1)) 2))) (rd x3 x4)) (aa (Int.tdiv (aa (x4-1)) 2))) else none)) else none) else none) else(some (eT.mk x3))
def pq.f (h:eT):Option eT:=pq.l0 fuel h.l (aa ((List.length h.l:Int)-1))
def pq.R (fy:Nat) (r:eT):bm:=λu G=> ∃a0 n0 H0,aj fL 359 r.l a0 n0 H0/\u=(.tuple #[])/\G=[(cl fy 357 [(ll a0 r.l n0)]),H0]
theorem pq.c (H:pq.f h=some r) (pJ:aj fL 359 h.l ku kK rm):
 QR 240 [(pp fy)] [(cl fy 357 [(ll ku h.l kK)]),rm] [] F (pq.R fy r):=by
 unfold pq.f at H;refine aG Tryz.func240 J J (λW=>rc T 5 (lf T 0 J (ro T 6 (lq [0] [2] (λ(⟨k5,x3,x4,a4,n4,H4⟩:Nat×List dO×Int×Option Addr×Nat×Hp)=>(pq.l0 k5 x3 x4=some r/\aj fL 359 x3 a4 n4 H4,[(2,(ii x4))],[(cl fy 357 [(ll a4 x3 n4)]),H4])) J J (fuel,h.l,(aa ((List.length h.l:Int)-1)),ku,kK,rm) [2,0,0] ⟨H,pJ⟩ J J ?_))));rintro k5 ⟨x3,x4,a4,n4,H4⟩ ⟨Z1,s4⟩;rw[pq.l0] at Z1;refine rc T 7 (cd J Z1 (λZ1=>?_) (λZ1=>?_))
 ·refine rc T 13 (dD mix az (au T J (au T J (au T J (aO J J J (aw T J J J J (aI (j:=1) J J)) (au T J ?_))))));obtain⟨c3,Z1⟩:=aA Z1;obtain⟨q5,o5,e5⟩:=s4.r.addr c3.1 c3.2;refine aO J J J (cT T J J J J J e5 c3.1 c3.2) (aO J J J (fX T (cs:=[(ii (rd x3 x4).key),(ii (rd x3 x4).item)]) J J J J J J (ig (k:=fL) (oO s4 2) e5 c3 J)) (au T J (au T J (au T J (aO J J J (aw T J J J J (aI (j:=1) J J)) (au T J ?_))))));obtain⟨c4,Z1⟩:=aA Z1;refine aO J J J (cT T J J J J J e5 c4.1 c4.2) (aO J J J (fX T (cs:=[(ii (rd x3 (aa (Int.tdiv (aa (x4-1)) 2))).key),(ii (rd x3 (aa (Int.tdiv (aa (x4-1)) 2))).item)]) J J J J J J (ig (k:=fL) (oO s4 2) e5 c4 J)) ?_);obtain⟨v6,V5,Z1⟩:=gx Z1;refine uV J J J J J J Tn J (yO.c V5) (au T J (dg (rx T 1 (cb J Z1 (λZ1=>?_) (λZ1=>?_)))))
  ·refine rc T 5 ?_
   cases Z1;exact p1 T J [1,1,0] ⟨a4,n4,H4,s4,J,J⟩ J
  refine rc T 3 (fz J (rz [25,27] mix (bM bL) (λhg pf=>ha T 25 [0,1,2] sz hg pf J (av 3 sz hg pf J (aw T J J J J (aI (j:=1) J J)) (ha T 20 [4,5,6,7] sz hg pf J (av 8 sz hg pf J (aw T J J J J (aI (j:=1) J J)) (ha T 15 [9,10,11,12] sz hg pf J (av 13 sz hg pf J (aw T J J J J (aI (j:=1) J J)) (ha T 13 [14] sz hg pf J (av 15 sz hg pf J (cT T J J J J J e5 c4.1 c4.2) (av 16 sz hg pf J (fX T (cs:=[(ii (rd x3 (aa (Int.tdiv (aa (x4-1)) 2))).key),(ii (rd x3 (aa (Int.tdiv (aa (x4-1)) 2))).item)]) J J J J J J (ig (k:=fL) (oO s4 2) e5 c4 J)) (ha T 8 [17,18,19] sz hg pf J (av 20 sz hg pf J (aw T J J J J (aI (j:=1) J J)) (ha T 6 [21] sz hg pf J (av 22 sz hg pf J (cT T J J J J J e5 c3.1 c3.2) (av 23 sz hg pf J (fX T (cs:=[(ii (rd x3 x4).key),(ii (rd x3 x4).item)]) J J J J J J (ig (k:=fL) (oO s4 2) e5 c3 J)) (av 24 sz hg pf J (cT T J J J J J e5 c3.1 c3.2) (ao 25 (kU (k:=fL) T 2 0 (rd x3 (aa (Int.tdiv (aa (x4-1)) 2))) J J J J J J s4 e5 c3 J J J (λH6 s6=>kg [0,2,3,30,31,32,33,35,36,37,38,40,41,42,43,45,46,47,48,49,50,52,53,54,55] [0,1] [0,1,0] [(34,(ll a4 (List.set x3 (Int.toNat x4) (rd x3 (aa (Int.tdiv (aa (x4-1)) 2)))) n4)),(39,(ll a4 (List.set x3 (Int.toNat x4) (rd x3 (aa (Int.tdiv (aa (x4-1)) 2)))) n4)),(44,(ll a4 (List.set x3 (Int.toNat x4) (rd x3 (aa (Int.tdiv (aa (x4-1)) 2)))) n4)),(51,(ll a4 (List.set x3 (Int.toNat x4) (rd x3 (aa (Int.tdiv (aa (x4-1)) 2)))) n4))] [(cl fy 357 [(ll a4 (List.set x3 (Int.toNat x4) (rd x3 (aa (Int.tdiv (aa (x4-1)) 2)))) n4)])] J J ⟨dN,dN,dN,dN,trivial⟩ dN (an sl (ao 26 ?_))))))))))))))))))))));obtain⟨c7,Z1⟩:=aA Z1;refine lF J (cT T J J J J J e5 c7.1 c7.2) (an sl (ao 27 (kU (k:=fL) T 1 0 (rd x3 x4) J J J J J J s6 e5 c7 J J J (λH7 s7=>kg [0,2,3,30,31,32,33,35,36,37,38,40,41,42,43,45,46,47,48,49,50,52,53,54,55,56] [0,0] [0,0,0] [(34,(ll a4 (List.set (List.set x3 (Int.toNat x4) (rd x3 (aa (Int.tdiv (aa (x4-1)) 2)))) (Int.toNat (aa (Int.tdiv (aa (x4-1)) 2))) (rd x3 x4)) n4)),(39,(ll a4 (List.set (List.set x3 (Int.toNat x4) (rd x3 (aa (Int.tdiv (aa (x4-1)) 2)))) (Int.toNat (aa (Int.tdiv (aa (x4-1)) 2))) (rd x3 x4)) n4)),(44,(ll a4 (List.set (List.set x3 (Int.toNat x4) (rd x3 (aa (Int.tdiv (aa (x4-1)) 2)))) (Int.toNat (aa (Int.tdiv (aa (x4-1)) 2))) (rd x3 x4)) n4)),(51,(ll a4 (List.set (List.set x3 (Int.toNat x4) (rd x3 (aa (Int.tdiv (aa (x4-1)) 2)))) (Int.toNat (aa (Int.tdiv (aa (x4-1)) 2))) (rd x3 x4)) n4))] [(cl fy 357 [(ll a4 (List.set (List.set x3 (Int.toNat x4) (rd x3 (aa (Int.tdiv (aa (x4-1)) 2)))) (Int.toNat (aa (Int.tdiv (aa (x4-1)) 2))) (rd x3 x4)) n4)])] J J ⟨dN,dN,dN,dN,trivial⟩ dN (an sl (ae (rx T 7 (ar (_,_,_,_,_) [0,1,0] ⟨Z1,s7⟩ J J))))))))
 refine rc T 4 (jf ?_)
 cases Z1;exact p1 T J [1,1,0] ⟨a4,n4,H4,s4,J,J⟩ J
def nJ.f (h:eT) (key:Int) (item:Int):Option eT:=if(List.length h.l+1<=1099511627776) then((pq.f (eT.mk (h.l++[(dO.mk key item)]))).bind λv1=>some v1) else none
def nJ.R (fy:Nat) (r:eT):bm:=λu G=> ∃a0 n0 H0,aj fL 359 r.l a0 n0 H0/\u=(.tuple #[])/\G=[(cl fy 357 [(ll a0 r.l n0)]),H0]
theorem nJ.c (H:nJ.f h key item=some r) (pJ:aj fL 359 h.l ku kK rm):
 QR 217 [(pp fy),(ii key),(ii item)] [(cl fy 357 [(ll ku h.l kK)]),rm] [] F (nJ.R fy r):=by
 unfold nJ.f at H;refine aG Tryz.func217 J J (λW=>rc T 7 (eY J (rc T 8 (lf T 0 J (ro T 3 (aZ (cV (k:=fL) T [(dO.mk key item)] J J J J J J J J J (λa3 H3 s3=>?_))))))));obtain⟨c1,H⟩:=aA H;refine aZ (ez (k:=fL) (xs:=h.l) T (g:=1) J J J J J J J J J J pJ (oO s3 3) c1 J (λa4 n4 H4 s4=>ro T 2 (sg T 0 J (ro T 4 (kr (pq.R fy) [] [0,0] J adn H (pq.c (h:=(eT.mk (h.l++[(dO.mk key item)]))) · s4) (λv1 H=>?_))))));rintro _ _ ⟨a5,n5,H5,s5,rfl,rfl⟩;refine fz J (ro T 1 (jf ?_))
 cases H;exact p1 T J [2,2,0] ⟨a5,n5,H5,s5,J,J⟩ J
def D7.f (h:eT):Option Int:=some (List.length h.l:Int)
theorem D7.c (H:D7.f h=some r) (pJ:aj fL 359 h.l ku kK rm):
 QU 271 [(pp fy)] [(cl fy 357 [(ll ku h.l kK)]),rm] F (ii r):=by
 unfold D7.f at H;refine aG Tryz.func271 J J (λW=>rc T 12 (eY J (rc T 7 (lf T 0 J (ro T 5 ?_)))))
 cases H;exact p0 T J [0,0,0] J
def D8.f (h:eT):Option (Int×Int×Bool):=(D7.f h).bind λv1=>if(v1==0)=true then(some (0,0,false)) else(if(0<=(0:Int)/\(0:Int)<(List.length h.l:Int)) then(some ((rd h.l 0).key,(rd h.l 0).item,true)) else none)
theorem D8.c (H:D8.f h=some r) (pJ:aj fL 359 h.l ku kK rm):
 QU 241 [(pp fy)] [(cl fy 357 [(ll ku h.l kK)]),rm] F (.tuple #[(ii r.1),(ii r.2.1),(bb r.2.2)]):=by
 unfold D8.f at H;refine aG Tryz.func241 J J (λW=>rc T 11 (k [0,0] J adC H (D7.c · pJ) (λv1 H=>ro T 3 (cb J H (λH=>?_) (λH=>?_)))))
 ·refine rc T 9 ?_
  cases H;exact p0 T J [0,0,0] J
 refine rc T 3 (dD mix az (au T J (au T J (au T J (aO J J J (aw T J J J J (aI (j:=0) J J)) ?_)))));obtain⟨c3,H⟩:=aA H;obtain⟨q3,o3,e3⟩:=pJ.r.addr c3.1 c3.2;refine aO J J J (cT T J J J J J e3 c3.1 c3.2) (au T J (aO J J J (aw T J J J J (iY (k:=fL) (oO pJ 1) e3 c3 0 J)) (au T J (au T J (au T J (aO J J J (aw T J J J J (aI (j:=0) J J)) (aO J J J (cT T J J J J J e3 c3.1 c3.2) (au T J (aO J J J (aw T J J J J (iY (k:=fL) (oO pJ 1) e3 c3 1 J)) (au T J (au T J (au T J (dg (rx T 2 ?_))))))))))))))
 cases H;exact p0 T J [0,0,0] J
def jj.l1:Nat->List dO->Int->Int->Int->Option (Sum eT ((List dO)×Int))
 |0,_,_,_,_=>none
 |ug+1,x3,x4,bd,bg=>(if bg<=(aa ((aa (2*x4))+2)) then(some (decide (bg<(List.length x3:Int)))) else(some false)).bind λbf=>if bf=true then(if(0<=bg/\bg<(List.length x3:Int)) then(if(0<=bd/\bd<(List.length x3:Int)) then((yO.f (rd x3 bg) (rd x3 bd)).bind λdG=>if dG=true then(jj.l1 ug x3 x4 bg (aa (bg+1))) else(jj.l1 ug x3 x4 bd (aa (bg+1)))) else none) else none) else(if(bd==x4)=true then(some (Sum.inl (eT.mk x3))) else(if(0<=bd/\bd<(List.length x3:Int)) then(if(0<=x4/\x4<(List.length x3:Int)) then(if(0<=bd/\bd<(List.length (List.set x3 (Int.toNat x4) (rd x3 bd)):Int)) then(some (Sum.inr ((List.set (List.set x3 (Int.toNat x4) (rd x3 bd)) (Int.toNat bd) (rd x3 x4)),bd))) else none) else none) else none))
def jj.l0:Nat->List dO->Int->Option eT
 |0,_,_=>none
 |k5+1,x3,x4=>(jj.l1 fuel x3 x4 x4 (aa ((aa (2*x4))+1))).bind λzz=>match zz with |Sum.inl q=>some q |Sum.inr (x6,x7)=>jj.l0 k5 x6 x7
def jj.f (h:eT):Option eT:=jj.l0 fuel h.l 0
def jj.R (fy:Nat) (r:eT):bm:=λu G=> ∃a0 n0 H0,aj fL 359 r.l a0 n0 H0/\u=(.tuple #[])/\G=[(cl fy 357 [(ll a0 r.l n0)]),H0]
theorem jj.c (H:jj.f h=some r) (pJ:aj fL 359 h.l ku kK rm):
 QR 242 [(pp fy)] [(cl fy 357 [(ll ku h.l kK)]),rm] [] F (jj.R fy r):=by
 unfold jj.f at H;refine aG Tryz.func242 J J (λW=>rc T 6 (lq [0] [2] (λ(⟨k5,x3,x4,a4,n4,H4⟩:Nat×List dO×Int×Option Addr×Nat×Hp)=>(jj.l0 k5 x3 x4=some r/\aj fL 359 x3 a4 n4 H4,[(2,(ii x4))],[(cl fy 357 [(ll a4 x3 n4)]),H4])) J J (fuel,h.l,0,ku,kK,rm) [2,0,0] ⟨H,pJ⟩ J J ?_));rintro k5 ⟨x3,x4,a4,n4,H4⟩ ⟨Z1,s4⟩;rw[jj.l0] at Z1;refine mn Z1 [0] [0] (λz8 (⟨x6,x7,a5,n5,H5⟩:List dO×Int×Option Addr×Nat×Hp)=>((Sum.inr (x6,x7))=z8/\aj fL 359 x6 a5 n5 H5,[(2,(ii x7))],[(cl fy 357 [(ll a5 x6 n5)]),H5])) J J (λz8 Z2 Z1=>?_) ?_
 ·refine rc T 17 (lq [0,2] [0,0,0] (λ(⟨ug,bd,bg⟩:Nat×Int×Int)=>(jj.l1 ug x3 x4 bd bg=some z8,[(3,(ii bd)),(4,(ii bg))],[])) J J (fuel,x4,(aa ((aa (2*x4))+1))) [0,0,0] Z2 J J ?_);rintro ug ⟨bd,bg⟩ Z3;replace Z3:jj.l1 (ug+1) x3 x4 bd bg=some z8:=Z3;rw[jj.l1] at Z3;refine rc T 1 (mq Z3 [0,2,3,4] [0,0,0] (λIs (bf:Bool)=>(bf=Is,[(22,(bb bf))],[])) J J (λIs Z4 _=>?_) ?_)
  ·refine rc T 7 (ad 14 J Z4 (λZ4=>?_) (λZ4=>?_))
   ·refine ro T 4 (lf T 1 J (ro T 5 (am _ [0,0,0] (oi Z4) J J)))
   refine ro T 10 (am _ [0,0,0] (oi Z4) J J)
  rintro _ bf rfl Z3;refine cb J Z3 (λZ3=>?_) (λZ3=>?_)
  ·refine rc T 5 (dD mix az (au T J (au T J (au T J (aO J J J (aw T J J J J (aI (j:=1) J J)) (au T J ?_))))));obtain⟨c7,Z3⟩:=aA Z3;obtain⟨q6,o6,e6⟩:=s4.r.addr c7.1 c7.2;refine aO J J J (cT T J J J J J e6 c7.1 c7.2) (aO J J J (fX T (cs:=[(ii (rd x3 bg).key),(ii (rd x3 bg).item)]) J J J J J J (ig (k:=fL) (oO s4 2) e6 c7 J)) (au T J (au T J (au T J (aO J J J (aw T J J J J (aI (j:=1) J J)) (au T J ?_))))));obtain⟨c8,Z3⟩:=aA Z3;refine aO J J J (cT T J J J J J e6 c8.1 c8.2) (aO J J J (fX T (cs:=[(ii (rd x3 bd).key),(ii (rd x3 bd).item)]) J J J J J J (ig (k:=fL) (oO s4 2) e6 c8 J)) ?_);obtain⟨dG,V9,Z3⟩:=gx Z3;refine uV J J J J J J Tn J (yO.c V9) (dg (rx T 1 (cb J Z3 (λZ3=>?_) (λZ3=>?_))))
   ·refine rc T 12 (ar (_,_) [0,0,0] Z3 J J)
   refine rc T 9 (ar (_,_) [0,0,0] Z3 J J)
  refine rc T 13 (cb J Z3 (λZ3=>?_) (λZ3=>?_))
  ·refine rc T 6 ?_;obtain rfl:=Option.some.inj Z3;obtain rfl:=Option.some.inj (show some (eT.mk x3)=some r from Z1)
   exact p1 T J [1,1,0] ⟨a4,n4,H4,s4,J,J⟩ J
  refine rc T 3 (fz J (rz [25,27] mix (bM bL) (λhg pf=>ha T 25 [0,1,2] sz hg pf J (av 3 sz hg pf J (aw T J J J J (aI (j:=1) J J)) (ha T 20 [4,5,6,7] sz hg pf J (av 8 sz hg pf J (aw T J J J J (aI (j:=1) J J)) (ha T 15 [9,10,11,12] sz hg pf J (av 13 sz hg pf J (aw T J J J J (aI (j:=1) J J)) (ha T 13 [14] sz hg pf J ?_)))))))));obtain⟨fW,Z3⟩:=aA Z3;obtain⟨q7,o7,e7⟩:=s4.r.addr fW.1 fW.2;refine av 15 sz hg pf J (cT T J J J J J e7 fW.1 fW.2) (av 16 sz hg pf J (fX T (cs:=[(ii (rd x3 bd).key),(ii (rd x3 bd).item)]) J J J J J J (ig (k:=fL) (oO s4 2) e7 fW J)) (ha T 8 [17,18,19] sz hg pf J (av 20 sz hg pf J (aw T J J J J (aI (j:=1) J J)) (ha T 6 [21] sz hg pf J ?_))));obtain⟨jg,Z3⟩:=aA Z3;refine av 22 sz hg pf J (cT T J J J J J e7 jg.1 jg.2) (av 23 sz hg pf J (fX T (cs:=[(ii (rd x3 x4).key),(ii (rd x3 x4).item)]) J J J J J J (ig (k:=fL) (oO s4 2) e7 jg J)) (av 24 sz hg pf J (cT T J J J J J e7 jg.1 jg.2) (ao 25 (kU (k:=fL) T 2 0 (rd x3 bd) J J J J J J s4 e7 jg J J J (λH8 s8=>kg [0,2,3,43,44,45,46,48,49,50,51,53,54,55,56,58,59,60,61,62,63,65,66,67,68] [0,1] [0,1,0] [(47,(ll a4 (List.set x3 (Int.toNat x4) (rd x3 bd)) n4)),(52,(ll a4 (List.set x3 (Int.toNat x4) (rd x3 bd)) n4)),(57,(ll a4 (List.set x3 (Int.toNat x4) (rd x3 bd)) n4)),(64,(ll a4 (List.set x3 (Int.toNat x4) (rd x3 bd)) n4))] [(cl fy 357 [(ll a4 (List.set x3 (Int.toNat x4) (rd x3 bd)) n4)])] J J ⟨dN,dN,dN,dN,trivial⟩ dN (an sl (ao 26 ?_)))))));obtain⟨pc,Z3⟩:=aA Z3;refine lF J (cT T J J J J J e7 pc.1 pc.2) (an sl (ao 27 (kU (k:=fL) T 1 0 (rd x3 x4) J J J J J J s8 e7 pc J J J (λH9 s9=>kg [0,2,3,43,44,45,46,48,49,50,51,53,54,55,56,58,59,60,61,62,63,65,66,67,68,69] [0,0] [0,0,0] [(47,(ll a4 (List.set (List.set x3 (Int.toNat x4) (rd x3 bd)) (Int.toNat bd) (rd x3 x4)) n4)),(52,(ll a4 (List.set (List.set x3 (Int.toNat x4) (rd x3 bd)) (Int.toNat bd) (rd x3 x4)) n4)),(57,(ll a4 (List.set (List.set x3 (Int.toNat x4) (rd x3 bd)) (Int.toNat bd) (rd x3 x4)) n4)),(64,(ll a4 (List.set (List.set x3 (Int.toNat x4) (rd x3 bd)) (Int.toNat bd) (rd x3 x4)) n4))] [(cl fy 357 [(ll a4 (List.set (List.set x3 (Int.toNat x4) (rd x3 bd)) (Int.toNat bd) (rd x3 x4)) n4)])] J J ⟨dN,dN,dN,dN,trivial⟩ dN (an sl (ae (rx T 7 (am (_,_,_,_,_) [0,1,0] ⟨oi Z3,s9⟩ J J))))))))
 rintro _ ⟨x6,x7,a5,n5,H5⟩ ⟨rfl,s5⟩ Z1;refine rx T 1 (ar (_,_,_,_,_) [0,0,0] ⟨Z1,s5⟩ J J)
def nI.f (h:eT):Option (Int×Int×Bool×eT):=(D8.f h).bind λv1=>if v1.2.2=true then(if(0<=(aa ((List.length h.l:Int)-1))/\(aa ((List.length h.l:Int)-1))<(List.length h.l:Int)) then(if(0<=(0:Int)/\(0:Int)<(List.length h.l:Int)) then(if(0<=(0:Int)/\(0:Int)<=(aa ((List.length h.l:Int)-1))/\(aa ((List.length h.l:Int)-1))<=(List.length (List.set h.l (Int.toNat 0) (rd h.l (aa ((List.length h.l:Int)-1)))):Int)) then((jj.f (eT.mk (aB (List.set h.l (Int.toNat 0) (rd h.l (aa ((List.length h.l:Int)-1)))) 0 (aa ((List.length h.l:Int)-1))))).bind λv2=>some (v1.1,v1.2.1,v1.2.2,v2)) else none) else none) else none) else(some (v1.1,v1.2.1,v1.2.2,h))
def nI.R (fy:Nat) (r:(Int×Int×Bool×eT)):bm:=λu G=> ∃a0 n0 H0,aj fL 359 r.2.2.2.l a0 n0 H0/\u=(.tuple #[(ii r.1),(ii r.2.1),(bb r.2.2.1)])/\G=[(cl fy 357 [(ll a0 r.2.2.2.l n0)]),H0]
theorem nI.c (H:nI.f h=some r) (pJ:aj fL 359 h.l ku kK rm):
 QR 218 [(pp fy)] [(cl fy 357 [(ll ku h.l kK)]),rm] [] F (nI.R fy r):=by
 unfold nI.f at H;refine aG Tryz.func218 J J (λW=>rc T 10 (k [0,0] J ado H (D8.c · pJ) (λv1 H=>ro T 15 (cb J H (λH=>?_) (λH=>?_)))))
 ·refine rc T 5 (lf T 0 J (ro T 6 (fz J (rz [12] mix (bM bL) (λhg pf=>ha T 10 [0,1,2] sz hg pf J (av 3 sz hg pf J (aw T J J J J (aI (j:=0) J J)) (ha T 6 [4,5,6] sz hg pf J (av 7 sz hg pf J (aw T J J J J (aI (j:=0) J J)) (ha T 4 [8] sz hg pf J ?_)))))))));obtain⟨c3,H⟩:=aA H;obtain⟨q3,o3,e3⟩:=pJ.r.addr c3.1 c3.2;refine av 9 sz hg pf J (cT T J J J J J e3 c3.1 c3.2) (av 10 sz hg pf J (fX T (cs:=[(ii (rd h.l (aa ((List.length h.l:Int)-1))).key),(ii (rd h.l (aa ((List.length h.l:Int)-1))).item)]) J J J J J J (ig (k:=fL) (oO pJ 1) e3 c3 J)) ?_);obtain⟨c4,H⟩:=aA H;refine av 11 sz hg pf J (cT T J J J J J e3 c4.1 c4.2) (ao 12 (kU (k:=fL) T 1 0 (rd h.l (aa ((List.length h.l:Int)-1))) J J J J J J pJ e3 c4 J J J (λH4 s4=>kg [0,2,3,4,5,19,20,21,23,24,25,27,28,29,30] [1,1] [1,1,0] [(22,(ll ku (List.set h.l (Int.toNat 0) (rd h.l (aa ((List.length h.l:Int)-1)))) kK)),(26,(ll ku (List.set h.l (Int.toNat 0) (rd h.l (aa ((List.length h.l:Int)-1)))) kK))] [(cl fy 357 [(ll ku (List.set h.l (Int.toNat 0) (rd h.l (aa ((List.length h.l:Int)-1)))) kK)])] J J ⟨dN,dN,trivial⟩ dN (an sl (ae (rx T 7 (lf T 2 J (ro T 1 ?_))))))));obtain⟨c5,H⟩:=aA H;refine bz J (kF T J J J J J J c5 s4.bW) (ro T 2 (sg T 2 J (ro T 4 (kr (jj.R fy) [] [2,0] J adp H (jj.c (h:=(eT.mk (aB (List.set h.l (Int.toNat 0) (rd h.l (aa ((List.length h.l:Int)-1)))) 0 (aa ((List.length h.l:Int)-1))))) · (aj.pre s4 c5)) (λv2 H=>?_)))));rintro _ _ ⟨a5,n5,H5,s5,rfl,rfl⟩;refine fz J (ro T 1 (ks [2,3,4] J (rx T 12 ?_)))
  cases H;exact p1 T J [1,1,0] ⟨a5,n5,H5,s5,J,J⟩ J
 refine rc T 13 ?_
 cases H;exact p1 T J [0,0,0] ⟨ku,kK,rm,pJ,J,J⟩ J
end
noncomputable section
def vV.f (ag:Int):Option (Option eK):=if((decide (ag<0))||(decide (ag>1099511627776)))=true then(some none) else(some (some (eK.mk ag 0 (List.replicate 256 (default:jW)))))
def vV.R (r:(Option eK)):bm:=λu G=> ∃(u0:Value) (G0:List Hp),X3 r u0 G0/\u=u0/\G=G0
theorem vV.c (H:vV.f ag=some r):
 QR 247 [(ii ag)] [] [] F (vV.R r):=by
 unfold vV.f at H;refine aG Tryz.func247 J J (λW=>rc T 11 (go T [3,4,5] 5 [0] 8 J J J J J J J (ro T 2 (cb J H (λH=>?_) (λH=>?_)))))
 ·refine rc T 7 ?_
  cases H;exact p1 T J [0] ⟨_,_,⟨J,J⟩,J,J⟩ J
 refine rc T 6 (aZ (YZ (kd:=Wt) T [(ii ag),(ii 0)] 256 (default:jW) [nl,(ii 0)] J J J J ⟨none,0,[],(aj.nil (k:=(Fl.int .i64)) (E:=3)),J,J⟩ (λb1 H1 s1=>ro T 4 ?_)))
 cases H;exact p1 T J [1,0] ⟨_,_,⟨b1,H1,(And.intro s1 (List.length_replicate ..)),J,J⟩,J,J⟩ J
def vW.f (ag:eK):Option Int:=some ag.len
theorem vW.c (H:vW.f ag=some r) (cM:kt ag aY df):
 QU 274 [(pp aY)] [df] F (ii r):=by
 unfold vW.f at H;refine aG Tryz.func274 J J (λW=>rc T 12 (eY J (rc T 7 (lg T J (AP (j:=0) J cM.1 J) (ro T 4 ?_)))))
 cases H;exact p0 T J [0,0] J
def xH.f (ag:eK) (key:Int):Option (Bool×eK):=(if ag.len>0 then(some true) else(some ((decide (key<ag.bc))||(decide (key>1099511627776))))).bind λx1=>if x1=true then(some (false,ag)) else(some (true,(eK.mk key ag.len ag.buckets)))
def xH.R (nz:Nat) (r:(Bool×eK)):bm:=λu G=> ∃(H0:Hp),kt r.2 nz H0/\u=(bb r.1)/\G=[H0]
theorem xH.c (H:xH.f ag key=some r) (cM:kt ag aY df):
 QR 290 [(pp aY),(ii key)] [df] [] F (xH.R aY r):=by
 unfold xH.f at H;refine aG Tryz.func290 J J (λW=>rc T 6 (mq H [0,1] [1,0] (λz2 (x1:Bool)=>(x1=z2,[(25,(bb x1))],[])) J J (λz2 Z1 _=>?_) ?_))
 ·refine rc T 7 (lg T J (AP (j:=0) J cM.1 J) (ro T 3 (ad 14 J Z1 (λZ1=>?_) (λZ1=>?_))))
  ·refine ro T 13 (am _ [1,0] (oi Z1) J J)
  refine ro T 4 (lg T J (AP (j:=0) J cM.1 J) (ro T 3 (go T [18,19,20] 22 [0,1] 25 J J J J J J J (ro T 2 (am _ [1,0] (oi Z1) J J)))))
 rintro _ x1 rfl H;refine cb J H (λH=>?_) (λH=>?_)
 ·refine rc T 7 ?_
  cases H;exact p1 T J [1,0] ⟨df,cM,J,J⟩ J
 refine rc T 8 (aZ (I0 T 1 [(ii key),(ii ag.len)] J J J J J J cM.1 J J J J (λH2 s2=>ro T 8 ?_)))
 cases H;exact p1 T J [1,0] ⟨H2,(And.intro s2 cM.2),J,J⟩ J
def zw.f (b:jW) (item:Int):Option jW:=if(List.length b.items+1<=1099511627776) then(some (jW.mk (b.items++[item]) b.gone)) else none
def zw.R (uX:Nat) (L9:TypeId) (Mk Ml:List Value) (r:jW):bm:=λu G=> ∃a0 n0 H0,aj (Fl.int .i64) 3 r.items a0 n0 H0/\u=(.tuple #[])/\G=[[(uX,Obj.cells (Mk++(([(ll a0 r.items n0),(ii r.gone)]:List Value)++Ml)).toArray L9 (0,0))],H0]
theorem zw.c (H:zw.f b item=some r) (zB:aj (Fl.int .i64) 3 b.items wK sU BC):
 QR 302 [(.pointer (some ⟨uX,List.length CT+0,none⟩)),(ii item)] [[(uX,Obj.cells (CT++(([(ll wK b.items sU),(ii b.gone)]:List Value)++KH)).toArray II (0,0))],BC] [] F (zw.R uX II CT KH r):=by
 unfold zw.f at H;refine aG Tryz.func302 J J (λW=>rc T 5 (lg T J (Co (j:=0) J 0 J) (ro T 1 (aZ (cV (k:=(Fl.int .i64)) T [item] J J J J J J J J J (λa3 H3 s3=>?_))))));obtain⟨c1,H⟩:=aA H;refine aZ (ez (k:=(Fl.int .i64)) (xs:=b.items) T (g:=1) J J J J J J J J J J zB (oO s3 3) c1 J (λa4 n4 H4 s4=>ro T 2 (aZ (I4 T 0 0 [(ll a4 (b.items++[item]) n4),(ii b.gone)] J J J J J J J J J J ?_))));refine ro T 1 (jf ?_)
 cases H;exact p1 T J [0,0,0] ⟨a4,n4,H4,s4,J,J⟩ J
def s_.f (ag:eK) (key:Int) (item:Int):Option (Bool×eK):=(if key<ag.bc then(some true) else(some (decide ((aa (key-ag.bc))≥256)))).bind λx1=>if x1=true then(some (false,ag)) else(if(0<=(Int.tmod key 256)/\(Int.tmod key 256)<(List.length ag.buckets:Int)) then((zw.f (rd ag.buckets (Int.tmod key 256)) item).bind λv3=>some (true,(eK.mk ag.bc (aa (ag.len+1)) (List.set ag.buckets (Int.toNat (Int.tmod key 256)) v3)))) else none)
def s_.R (nz:Nat) (r:(Bool×eK)):bm:=λu G=> ∃(H0:Hp),kt r.2 nz H0/\u=(bb r.1)/\G=[H0]
theorem s_.c (H:s_.f ag key item=some r) (cM:kt ag aY df):
 QR 291 [(pp aY),(ii key),(ii item)] [df] [] F (s_.R aY r):=by
 unfold s_.f at H;refine aG Tryz.func291 J J (λW=>rc T 6 (mq H [0,1,2] [1,0] (λz2 (x1:Bool)=>(x1=z2,[(25,(bb x1))],[])) J J (λz2 Z1 _=>?_) ?_))
 ·refine rc T 8 (lg T J (AP (j:=0) J cM.1 J) (ro T 3 (ad 17 J Z1 (λZ1=>?_) (λZ1=>?_))))
  ·refine ro T 10 (am _ [1,0] (oi Z1) J J)
  refine ro T 4 (lg T J (AP (j:=0) J cM.1 J) (ro T 5 (am _ [1,0] (oi Z1) J J)))
 rintro _ x1 rfl H;refine cb J H (λH=>?_) (λH=>?_)
 ·refine rc T 7 ?_
  cases H;exact p1 T J [1,0] ⟨df,cM,J,J⟩ J
 refine rc T 3 ?_;obtain⟨c4,H⟩:=aA H;refine LN (j:=1) J cM.1 c4 (λp2_ q2_ _ H3 _ o2_ Xz=>?_);obtain⟨a5,n5,H5,s5,rfl,rfl⟩:=o2_;refine bS (As:=[H5]) 3 J (rc T 6 (bz J (Jl T J J J J J (by rw[cM.2] at c4;exact c4) (by rw[wD.at Xz];rfl)) (ro T 1 ?_)))
 refine kr (zw.R aY 396 p2_ q2_) [] [1,2] J adQ H (zw.c · s5) (λv3 H=>?_);rintro _ _ ⟨a6,n6,H6,s6,rfl,rfl⟩;refine fz J (ro T 1 (gw [3] J (FA (j:=2) (q1:=1) (q2:=3) v3 J Xz J J J J J ⟨a6,n6,H6,s6,J,J⟩ (λH8 s8=>rx T 6 (lg T J (AP (j:=2) J s8 J) (ro T 3 (aZ (I0 T 2 [(ii ag.bc),(ii (aa (ag.len+1)))] J J J J J J s8 J J J J (λH9 s9=>ro T 8 ?_)))))))))
 cases H;exact p1 T J [2,0] ⟨H9,(And.intro s9 (KY cM.2)),J,J⟩ J
def xI.f (b:jW):Option Bool:=some (b.gone==(List.length b.items:Int))
theorem xI.c (H:xI.f b=some r) (zB:aj (Fl.int .i64) 3 b.items wK sU BC):
 QU 292 [(.pointer (some ⟨uX,List.length CT+0,none⟩))] [[(uX,Obj.cells (CT++(([(ll wK b.items sU),(ii b.gone)]:List Value)++KH)).toArray II (0,0))],BC] F (bb r):=by
 unfold xI.f at H;refine aG Tryz.func292 J J (λW=>rc T 6 (dD mix az (au T J (au T J (au T J (aO J J J (aw T J J J J (Co (j:=0) J 1 J)) (au T J (au T J (au T J (aO J J J (aw T J J J J (Co (j:=0) J 0 J)) (au T J (au T J (au T J (dg (rx T 2 ?_)))))))))))))))
 cases H;exact p0 T J [0,0,0] J
def rS.f (b:jW):Option (Int×jW):=if(0<=b.gone/\b.gone<(List.length b.items:Int)) then((xI.f (jW.mk b.items (aa (b.gone+1)))).bind λv1=>if v1=true then(if(0<=(0:Int)/\(0:Int)<=(0:Int)/\(0:Int)<=(List.length b.items:Int)) then(some ((rd b.items b.gone),(jW.mk (aB b.items 0 0) 0))) else none) else(some ((rd b.items b.gone),(jW.mk b.items (aa (b.gone+1)))))) else none
def rS.R (uX:Nat) (L9:TypeId) (Mk Ml:List Value) (r:(Int×jW)):bm:=λu G=> ∃a0 n0 H0,aj (Fl.int .i64) 3 r.2.items a0 n0 H0/\u=(ii r.1)/\G=[[(uX,Obj.cells (Mk++(([(ll a0 r.2.items n0),(ii r.2.gone)]:List Value)++Ml)).toArray L9 (0,0))],H0]
theorem rS.c (H:rS.f b=some r) (zB:aj (Fl.int .i64) 3 b.items wK sU BC):
 QR 293 [(.pointer (some ⟨uX,List.length CT+0,none⟩))] [[(uX,Obj.cells (CT++(([(ll wK b.items sU),(ii b.gone)]:List Value)++KH)).toArray II (0,0))],BC] [] F (rS.R uX II CT KH r):=by
 unfold rS.f at H;refine aG Tryz.func293 J J (λW=>rc T 6 (dD mix az (au T J (au T J (au T J (aO J J J (aw T J J J J (Co (j:=0) J 0 J)) (au T J (au T J (au T J (aO J J J (aw T J J J J (Co (j:=0) J 1 J)) ?_))))))))));obtain⟨c1,H⟩:=aA H;obtain⟨q3,o3,e3⟩:=zB.r.addr c1.1 c1.2;refine aO J J J (cT T J J J J J e3 c1.1 c1.2) (aO J J J (aw T J J J J (iY (k:=(Fl.int .i64)) (oO zB 1) e3 c1 0 J)) (au T J (dg (rx T 6 (lg T J (Co (j:=0) J 1 J) (ro T 3 (aZ (I4 T 0 1 [(ll wK b.items sU),(ii (aa (b.gone+1)))] J J J J J J J J J J ?_))))))));refine ro T 6 (k [0,0] J Tv H (xI.c (b:=(jW.mk b.items (aa (b.gone+1)))) · zB) (λv1 H=>ro T 2 (cb J H (λH=>?_) (λH=>?_))))
 ·refine rc T 6 (lg T J (Co (j:=0) J 0 J) ?_);obtain⟨c4,H⟩:=aA H;refine bz J (kF T J J J J J J c4 zB.bW) (ro T 2 (aZ (I4 T 0 0 [(ll (gi wK sU (Int.toNat 0) 1) (aB b.items 0 0) (sU-Int.toNat 0)),(ii (aa (b.gone+1)))] J J J J J J J J J J ?_)));refine ro T 2 (aZ (I4 T 0 1 [(ll (gi wK sU (Int.toNat 0) 1) (aB b.items 0 0) (sU-Int.toNat 0)),(ii 0)] J J J J J J J J J J ?_));refine ro T 9 ?_
  cases H;exact p1 T J [0,0,0] ⟨(gi wK sU (Int.toNat 0) 1),(sU-Int.toNat 0),BC,(aj.pre zB c4),J,J⟩ J
 refine rc T 9 ?_
 cases H;exact p1 T J [0,0,0] ⟨wK,sU,BC,zB,J,J⟩ J
def oI.l0:Nat->eK->Option eK
 |0,_=>none
 |k6+1,x5=>if(0<=(Int.tmod x5.bc 256)/\(Int.tmod x5.bc 256)<(List.length x5.buckets:Int)) then((xI.f (rd x5.buckets (Int.tmod x5.bc 256))).bind λv7=>if v7=true then(oI.l0 k6 (eK.mk (aa (x5.bc+1)) x5.len x5.buckets)) else(some x5)) else none
def oI.f (ag:eK):Option (Int×Int×Bool×eK):=(vW.f ag).bind λv1=>if(v1==0)=true then(some (0,0,false,ag)) else((oI.l0 fuel ag).bind λx2=>if(0<=(Int.tmod x2.bc 256)/\(Int.tmod x2.bc 256)<(List.length x2.buckets:Int)) then((rS.f (rd x2.buckets (Int.tmod x2.bc 256))).bind λv8=>some (x2.bc,v8.1,true,(eK.mk x2.bc (aa (x2.len-1)) (List.set x2.buckets (Int.toNat (Int.tmod x2.bc 256)) v8.2)))) else none)
def oI.R (nz:Nat) (r:(Int×Int×Bool×eK)):bm:=λu G=> ∃(H0:Hp),kt r.2.2.2 nz H0/\u=(.tuple #[(ii r.1),(ii r.2.1),(bb r.2.2.1)])/\G=[H0]
theorem oI.c (H:oI.f ag=some r) (cM:kt ag aY df):
 QR 275 [(pp aY)] [df] [] F (oI.R aY r):=by
 unfold oI.f at H;refine aG Tryz.func275 J J (λW=>rc T 11 (k [0] J Np H (vW.c · cM) (λv1 H=>ro T 3 (cb J H (λH=>?_) (λH=>?_)))))
 ·refine rc T 9 ?_
  cases H;exact p1 T J [0,0] ⟨df,cM,J,J⟩ J
 refine rc T 2 (mq H [0] [1] (λz3 (⟨x2,H2⟩:eK×Hp)=>(x2=z3/\kt x2 aY H2,[],[H2])) J J (λz3 Z3 _=>?_) ?_)
 ·refine rc T 1 (lq [0] [1] (λ(⟨k6,x5,H4⟩:Nat×eK×Hp)=>(oI.l0 k6 x5=some z3/\kt x5 aY H4,[],[H4])) J J (fuel,ag,df) [1,0] ⟨Z3,cM⟩ J J ?_);rintro k6 ⟨x5,H4⟩ ⟨Z4,s4⟩;rw[oI.l0] at Z4;refine rc T 2 ?_;obtain⟨c5,Z4⟩:=aA Z4;refine LN (j:=1) J s4.1 c5 (λp5_ q5_ _ H6 _ o5_ PR=>?_);obtain⟨a8,n8,H8,s8,rfl,rfl⟩:=o5_;refine bS (As:=[H8]) 3 J (dD mix az ?_)
  iterate 4 refine au T J ?_
  refine aO J J J (aw T J J J J (Ej (j:=1) J PR J)) (au T J (au T J (au T J (aO J J J (Jl T J J J J J (by rw[s4.2] at c5;exact c5) (by rw[wD.at PR];rfl)) ?_))))
  obtain⟨v7,V6,Z4⟩:=gx Z4;refine wO [1,2] J J J J J J Tv J (xI.c V6 s8) (dg (gw [3] J (Y0 (j:=1) (q1:=2) (q2:=3) J PR J J J J J ⟨a8,n8,H8,s8,J,J⟩ (λbZ bU=>rx T 1 (cb J Z4 (λZ4=>?_) (λZ4=>?_))))))
  ·refine rc T 7 (lg T J (AP (j:=1) J bU J) (ro T 3 (aZ (I0 T 1 [(ii (aa (x5.bc+1))),(ii x5.len)] J J J J J J bU J J J J (λcB dj=>ro T 3 (ar (_,_) [0,0] ⟨Z4,(And.intro dj s4.2)⟩ J J))))))
  refine rc T 5 (am (_,_) [0,0] ⟨oi Z4,(And.intro bU s4.2)⟩ J J)
 rintro _ ⟨x2,H2⟩ ⟨rfl,s2⟩ H;refine rc T 5 (lg T J (AP (j:=1) J s2.1 J) (ro T 3 (aZ (I0 T 1 [(ii x2.bc),(ii (aa (x2.len-1)))] J J J J J J s2.1 J J J J (λdz dL=>ro T 3 ?_)))));obtain⟨c8,H⟩:=aA H;refine LN (j:=1) J dL c8 (λOO OU _ fV _ agB yb=>?_);obtain⟨j6,n16,gk,gd,rfl,rfl⟩:=agB;refine bS (As:=[gk]) 3 J (ks [0] J (fz J (rg [] [0,1] mix (bM bL) (λhg pf=>ha T 8 [0,1,2,4,5,6,7,10,11] (so [0,1]) hg pf J (fk 3 8 ?_ ?_)))))
 ·refine lF J (aw T J J J J (Ej (j:=1) J yb J)) (an (so [0,1]) (ao 8 (lF J (aw T J J J J (Ej (j:=1) J yb J)) (an (so [0,1]) (ha T 5 [9] (so [0,1]) hg pf J (av 12 (so [0,1]) hg pf J (Jl T J J J J J (by rw[s2.2] at c8;exact c8) (by rw[wD.at yb];rfl)) (ao 13 ?_)))))))
  refine kR (rS.R aY 396 OO OU) [] [1,2] J Nr H (rS.c · gd) (λv8 H=>?_);rintro _ _ ⟨a17,n17,eF,fq,rfl,rfl⟩;refine fz J (an (so [0,0]) (ha T 0 [14,15,16] (so [0,0]) hg pf J (ae (gw [3] J (FA (j:=2) (q1:=1) (q2:=3) v8.2 J yb J J J J J ⟨a17,n17,eF,fq,J,J⟩ (λkn gp=>rx T 2 ?_))))))
  cases H;exact p1 T J [2,0] ⟨kn,(And.intro gp (KY s2.2)),J,J⟩ J
 refine lF J (aw T J J J J (Ej (j:=1) J yb J)) (an (so [0,1]) (ha T 6 [9] (so [0,1]) hg pf J (av 12 (so [0,1]) hg pf J (Jl T J J J J J (by rw[s2.2] at c8;exact c8) (by rw[wD.at yb];rfl)) ?_)))
 refine fk 3 13 ?_ ?_
 ·refine lF J (aw T J J J J (Ej (j:=1) J yb J)) (an (so [0,1]) (ao 13 (kR (rS.R aY 396 OO OU) [] [1,2] J Nr H (rS.c · gd) (λv9 H=>?_))));rintro _ _ ⟨a20,n20,oh,me,rfl,rfl⟩;refine fz J (an (so [0,0]) (ha T 0 [14,15,16] (so [0,0]) hg pf J (ae (gw [3] J (FA (j:=2) (q1:=1) (q2:=3) v9.2 J yb J J J J J ⟨a20,n20,oh,me,J,J⟩ (λmN iO=>rx T 2 ?_))))))
  cases H;exact p1 T J [2,0] ⟨mN,(And.intro iO (KY s2.2)),J,J⟩ J
 refine kR (rS.R aY 396 OO OU) [] [1,2] J Nr H (rS.c · gd) (λv10 H=>?_);rintro _ _ ⟨a23,n23,jQ,g_,rfl,rfl⟩;refine fz J (an (so [0,0]) (ao 3 (lF J (aw T J J J J (Ej (j:=2) J yb J)) (an (so [0,0]) (ha T 0 [14,15,16] (so [0,0]) hg pf J (ae (gw [3] J (FA (j:=2) (q1:=1) (q2:=3) v10.2 J yb J J J J J ⟨a23,n23,jQ,g_,J,J⟩ (λgS jt=>rx T 2 ?_)))))))))
 cases H;exact p1 T J [2,0] ⟨gS,(And.intro jt (KY s2.2)),J,J⟩ J
end
end Go.Proofs.YthodkonhneebbaaGreatDoor
