/- What the functions of some packages compute, each as a function of plain Lean, with its contract. No condition. -/
import Derived.Test.YthodkonhneebbaaGreatDoorKST
namespace Go.Proofs.YthodkonhneebbaaGreatDoor
open Go.Hx
set_option maxRecDepth 100000
set_option linter.unusedSimpArgs false
set_option linter.unusedVariables false
set_option maxHeartbeats 4000000
set_option autoImplicit true
set_option relaxedAutoImplicit true
noncomputable section
def vT.f:Option (Option e_):=some (some (e_.mk []))
def vT.R (r:(Option e_)):bg:=λu G=> ∃(u0:Value) (G0:List Hp),Yn r u0 G0/\u=u0/\G=G0
theorem vT.c (H:vT.f=some r):
 QR 213 [] [] [] F (vT.R r):=by
 unfold vT.f at H;refine aD Tryz.func213 J J (λW=>rc T 8 (nc T J (λb1=>ro T 4 ?_)))
 cases H;refine bq (p1 T J [1,1,0] ⟨_,_,⟨b1,none,0,[],aj.nil,J,J⟩,J,J⟩ J)
def y_.f (ag:dL) (o:dL):Option Bool:=(if ag.key<o.key then(some true) else(if(ag.key==o.key)=true then(some (decide (ag.item<o.item))) else(some false))).bind λx1=>some x1
theorem y_.c (H:y_.f ag o=some r):
 QU 270 [(.agg #[(ii ag.key),(ii ag.item)]),(.agg #[(ii o.key),(ii o.item)])] [] F (bb r):=by
 unfold y_.f at H;refine aD Tryz.func270 J J (λW=>rc T 2 (nc T J (λb1=>nc T J (λb2=>ro T 3 (mq H [] [0] (λz2 (x1:Bool)=>(x1=z2,[(4,(bb x1))],[])) J J (λz2 Z1 _=>?_) ?_)))))
 ·refine rc T 2 (lf T 1 J (ro T 1 (lf T 2 J (ro T 2 (ad 10 J Z1 (λZ1=>?_) (λZ1=>?_))))))
  ·refine ro T 16 (am _ [0] (oi Z1) J J)
  refine ro T 1 (lf T 1 J (ro T 1 (lf T 2 J (ro T 2 (ab 16 J Z1 (λZ1=>?_) (λZ1=>?_))))))
  ·refine ro T 1 (lf T 1 J (ro T 1 (lf T 2 J (ro T 6 (am _ [0] (oi Z1) J J)))))
  refine ro T 10 (am _ [0] (oi Z1) J J)
 rintro _ x1 rfl H;refine rc T 1 ?_
 cases H;exact p0 T J [0] J
def pw.l0:Nat->List dL->Int->Option e_
 |0,_,_=>none
 |k5+1,x3,x4=>if x4>0 then(if(0<=x4/\x4<(List.length x3:Int)) then(if(0<=(aa (Int.tdiv (aa (x4-1)) 2))/\(aa (Int.tdiv (aa (x4-1)) 2))<(List.length x3:Int)) then((y_.f (rd x3 x4) (rd x3 (aa (Int.tdiv (aa (x4-1)) 2)))).bind λv6=>if(!v6)=true then(some (e_.mk x3)) else(if(0<=(aa (Int.tdiv (aa (x4-1)) 2))/\(aa (Int.tdiv (aa (x4-1)) 2))<(List.length (List.set x3 (Int.toNat x4) (rd x3 (aa (Int.tdiv (aa (x4-1)) 2)))):Int)) then(pw.l0 k5 (List.set (List.set x3 (Int.toNat x4) (rd x3 (aa (Int.tdiv (aa (x4-1)) 2)))) (Int.toNat (aa (Int.tdiv (aa (x4-1)) 2))) (rd x3 x4)) (aa (Int.tdiv (aa (x4-1)) 2))) else none)) else none) else none) else(some (e_.mk x3))
def pw.f (h:e_):Option e_:=pw.l0 fuel h.l (aa ((List.length h.l:Int)-1))
def pw.R (fx:Nat) (r:e_):bg:=λu G=> ∃a0 n0 H0,aj fL 359 r.l a0 n0 H0/\u=(.tuple #[])/\G=[(cl fx 357 [(ll a0 r.l n0)]),H0]
theorem pw.c (H:pw.f h=some r) (pL:aj fL 359 h.l kz kK rI):
 QR 240 [(pp fx)] [(cl fx 357 [(ll kz h.l kK)]),rI] [] F (pw.R fx r):=by
 unfold pw.f at H;refine aD Tryz.func240 J J (λW=>rc T 5 (lf T 0 J (ro T 6 (lq [0] [2] (λ(⟨k5,x3,x4,a4,n4,H4⟩:Nat×List dL×Int×Option Addr×Nat×Hp)=>(pw.l0 k5 x3 x4=some r/\aj fL 359 x3 a4 n4 H4,[(2,(ii x4))],[(cl fx 357 [(ll a4 x3 n4)]),H4])) J J (fuel,h.l,(aa ((List.length h.l:Int)-1)),kz,kK,rI) [2,0,0] ⟨H,pL⟩ J J ?_))));rintro k5 ⟨x3,x4,a4,n4,H4⟩ ⟨Z1,s4⟩;rw[pw.l0] at Z1;refine rc T 7 (cd J Z1 (λZ1=>?_) (λZ1=>?_))
 ·refine rc T 13 (dx mix ay (au T J (au T J (au T J (aO J J J (aw T J J J J (aK (j:=1) J J)) (au T J ?_))))));obtain⟨c3,Z1⟩:=az Z1;obtain⟨q5,o5,e5⟩:=s4.r.addr c3.1 c3.2;refine aO J J J (cC T J J J J J e5 c3.1 c3.2) (aO J J J (fC T (cs:=[(ii (rd x3 x4).key),(ii (rd x3 x4).item)]) J J J J J J (iv (k:=fL) (oO s4 2) e5 c3 J)) (au T J (au T J (au T J (aO J J J (aw T J J J J (aK (j:=1) J J)) (au T J ?_))))));obtain⟨c4,Z1⟩:=az Z1;refine aO J J J (cC T J J J J J e5 c4.1 c4.2) (aO J J J (fC T (cs:=[(ii (rd x3 (aa (Int.tdiv (aa (x4-1)) 2))).key),(ii (rd x3 (aa (Int.tdiv (aa (x4-1)) 2))).item)]) J J J J J J (iv (k:=fL) (oO s4 2) e5 c4 J)) ?_);obtain⟨v6,V5,Z1⟩:=gu Z1;refine uy J J J J J J TQ J (y_.c V5) (au T J (dh (rx T 1 (cb J Z1 (λZ1=>?_) (λZ1=>?_)))))
  ·refine rc T 5 ?_
   cases Z1;exact p1 T J [1,1,0] ⟨a4,n4,H4,s4,J,J⟩ J
  refine rc T 3 (fz J (rz [25,27] mix (bO bN) (λhg pf=>ha T 25 [0,1,2] sz hg pf J (av 3 sz hg pf J (aw T J J J J (aK (j:=1) J J)) (ha T 20 [4,5,6,7] sz hg pf J (av 8 sz hg pf J (aw T J J J J (aK (j:=1) J J)) (ha T 15 [9,10,11,12] sz hg pf J (av 13 sz hg pf J (aw T J J J J (aK (j:=1) J J)) (ha T 13 [14] sz hg pf J (av 15 sz hg pf J (cC T J J J J J e5 c4.1 c4.2) (av 16 sz hg pf J (fC T (cs:=[(ii (rd x3 (aa (Int.tdiv (aa (x4-1)) 2))).key),(ii (rd x3 (aa (Int.tdiv (aa (x4-1)) 2))).item)]) J J J J J J (iv (k:=fL) (oO s4 2) e5 c4 J)) (ha T 8 [17,18,19] sz hg pf J (av 20 sz hg pf J (aw T J J J J (aK (j:=1) J J)) (ha T 6 [21] sz hg pf J (av 22 sz hg pf J (cC T J J J J J e5 c3.1 c3.2) (av 23 sz hg pf J (fC T (cs:=[(ii (rd x3 x4).key),(ii (rd x3 x4).item)]) J J J J J J (iv (k:=fL) (oO s4 2) e5 c3 J)) (av 24 sz hg pf J (cC T J J J J J e5 c3.1 c3.2) (ao 25 (kX (k:=fL) T 2 0 (rd x3 (aa (Int.tdiv (aa (x4-1)) 2))) J J J J J J s4 e5 c3 J J J (λH6 s6=>kg [0,2,3,30,31,32,33,35,36,37,38,40,41,42,43,45,46,47,48,49,50,52,53,54,55] [0,1] [0,1,0] [(34,(ll a4 (List.set x3 (Int.toNat x4) (rd x3 (aa (Int.tdiv (aa (x4-1)) 2)))) n4)),(39,(ll a4 (List.set x3 (Int.toNat x4) (rd x3 (aa (Int.tdiv (aa (x4-1)) 2)))) n4)),(44,(ll a4 (List.set x3 (Int.toNat x4) (rd x3 (aa (Int.tdiv (aa (x4-1)) 2)))) n4)),(51,(ll a4 (List.set x3 (Int.toNat x4) (rd x3 (aa (Int.tdiv (aa (x4-1)) 2)))) n4))] [(cl fx 357 [(ll a4 (List.set x3 (Int.toNat x4) (rd x3 (aa (Int.tdiv (aa (x4-1)) 2)))) n4)])] J J ⟨dJ,dJ,dJ,dJ,trivial⟩ dJ (an sl (ao 26 ?_))))))))))))))))))))));obtain⟨c7,Z1⟩:=az Z1;refine lK J (cC T J J J J J e5 c7.1 c7.2) (an sl (ao 27 (kX (k:=fL) T 1 0 (rd x3 x4) J J J J J J s6 e5 c7 J J J (λH7 s7=>kg [0,2,3,30,31,32,33,35,36,37,38,40,41,42,43,45,46,47,48,49,50,52,53,54,55,56] [0,0] [0,0,0] [(34,(ll a4 (List.set (List.set x3 (Int.toNat x4) (rd x3 (aa (Int.tdiv (aa (x4-1)) 2)))) (Int.toNat (aa (Int.tdiv (aa (x4-1)) 2))) (rd x3 x4)) n4)),(39,(ll a4 (List.set (List.set x3 (Int.toNat x4) (rd x3 (aa (Int.tdiv (aa (x4-1)) 2)))) (Int.toNat (aa (Int.tdiv (aa (x4-1)) 2))) (rd x3 x4)) n4)),(44,(ll a4 (List.set (List.set x3 (Int.toNat x4) (rd x3 (aa (Int.tdiv (aa (x4-1)) 2)))) (Int.toNat (aa (Int.tdiv (aa (x4-1)) 2))) (rd x3 x4)) n4)),(51,(ll a4 (List.set (List.set x3 (Int.toNat x4) (rd x3 (aa (Int.tdiv (aa (x4-1)) 2)))) (Int.toNat (aa (Int.tdiv (aa (x4-1)) 2))) (rd x3 x4)) n4))] [(cl fx 357 [(ll a4 (List.set (List.set x3 (Int.toNat x4) (rd x3 (aa (Int.tdiv (aa (x4-1)) 2)))) (Int.toNat (aa (Int.tdiv (aa (x4-1)) 2))) (rd x3 x4)) n4)])] J J ⟨dJ,dJ,dJ,dJ,trivial⟩ dJ (an sl (ae (rx T 7 (ar (_,_,_,_,_) [0,1,0] ⟨Z1,s7⟩ J J))))))))
 refine rc T 4 (jq ?_)
 cases Z1;exact p1 T J [1,1,0] ⟨a4,n4,H4,s4,J,J⟩ J
def nG.f (h:e_) (key:Int) (item:Int):Option e_:=if(List.length h.l+1<=1099511627776) then((pw.f (e_.mk (h.l++[(dL.mk key item)]))).bind λv1=>some v1) else none
def nG.R (fx:Nat) (r:e_):bg:=λu G=> ∃a0 n0 H0,aj fL 359 r.l a0 n0 H0/\u=(.tuple #[])/\G=[(cl fx 357 [(ll a0 r.l n0)]),H0]
theorem nG.c (H:nG.f h key item=some r) (pL:aj fL 359 h.l kz kK rI):
 QR 217 [(pp fx),(ii key),(ii item)] [(cl fx 357 [(ll kz h.l kK)]),rI] [] F (nG.R fx r):=by
 unfold nG.f at H;refine aD Tryz.func217 J J (λW=>rc T 7 (eT J (rc T 8 (lf T 0 J (ro T 3 (aX (cY (k:=fL) T [(dL.mk key item)] J J J J J J J J J (λa3 H3 s3=>?_))))))));obtain⟨c1,H⟩:=az H;refine aX (dW (k:=fL) (xs:=h.l) T (g:=1) J J J J J J J J J J pL (oO s3 3) c1 J (λa4 n4 H4 s4=>ro T 2 (sg T 0 J (ro T 4 (kr (pw.R fx) [] [0,0] J adR H (pw.c (h:=(e_.mk (h.l++[(dL.mk key item)]))) · s4) (λv1 H=>?_))))));rintro _ _ ⟨a5,n5,H5,s5,rfl,rfl⟩;refine fz J (ro T 1 (jq ?_))
 cases H;exact p1 T J [2,2,0] ⟨a5,n5,H5,s5,J,J⟩ J
def Es.f (h:e_):Option Int:=some (List.length h.l:Int)
theorem Es.c (H:Es.f h=some r) (pL:aj fL 359 h.l kz kK rI):
 QU 271 [(pp fx)] [(cl fx 357 [(ll kz h.l kK)]),rI] F (ii r):=by
 unfold Es.f at H;refine aD Tryz.func271 J J (λW=>rc T 12 (eT J (rc T 7 (lf T 0 J (ro T 5 ?_)))))
 cases H;exact p0 T J [0,0,0] J
def Et.f (h:e_):Option (Int×Int×Bool):=(Es.f h).bind λv1=>if(v1==0)=true then(some (0,0,false)) else(if(0<=(0:Int)/\(0:Int)<(List.length h.l:Int)) then(some ((rd h.l 0).key,(rd h.l 0).item,true)) else none)
theorem Et.c (H:Et.f h=some r) (pL:aj fL 359 h.l kz kK rI):
 QU 241 [(pp fx)] [(cl fx 357 [(ll kz h.l kK)]),rI] F (.tuple #[(ii r.1),(ii r.2.1),(bb r.2.2)]):=by
 unfold Et.f at H;refine aD Tryz.func241 J J (λW=>rc T 11 (k [0,0] J ad6 H (Es.c · pL) (λv1 H=>ro T 3 (cb J H (λH=>?_) (λH=>?_)))))
 ·refine rc T 9 ?_
  cases H;exact p0 T J [0,0,0] J
 refine rc T 3 (dx mix ay (au T J (au T J (au T J (aO J J J (aw T J J J J (aK (j:=0) J J)) ?_)))));obtain⟨c3,H⟩:=az H;obtain⟨q3,o3,e3⟩:=pL.r.addr c3.1 c3.2;refine aO J J J (cC T J J J J J e3 c3.1 c3.2) (au T J (aO J J J (aw T J J J J (g_ (k:=fL) (oO pL 1) e3 c3 0 J)) (au T J (au T J (au T J (aO J J J (aw T J J J J (aK (j:=0) J J)) (aO J J J (cC T J J J J J e3 c3.1 c3.2) (au T J (aO J J J (aw T J J J J (g_ (k:=fL) (oO pL 1) e3 c3 1 J)) (au T J (au T J (au T J (dh (rx T 2 ?_))))))))))))))
 cases H;exact p0 T J [0,0,0] J
def jt.l1:Nat->List dL->Int->Int->Int->Option (Sum e_ ((List dL)×Int))
 |0,_,_,_,_=>none
 |uT+1,x3,x4,bj,bx=>(if bx<=(aa ((aa (2*x4))+2)) then(some (decide (bx<(List.length x3:Int)))) else(some false)).bind λbc=>if bc=true then(if(0<=bx/\bx<(List.length x3:Int)) then(if(0<=bj/\bj<(List.length x3:Int)) then((y_.f (rd x3 bx) (rd x3 bj)).bind λeG=>if eG=true then(jt.l1 uT x3 x4 bx (aa (bx+1))) else(jt.l1 uT x3 x4 bj (aa (bx+1)))) else none) else none) else(if(bj==x4)=true then(some (Sum.inl (e_.mk x3))) else(if(0<=bj/\bj<(List.length x3:Int)) then(if(0<=x4/\x4<(List.length x3:Int)) then(if(0<=bj/\bj<(List.length (List.set x3 (Int.toNat x4) (rd x3 bj)):Int)) then(some (Sum.inr ((List.set (List.set x3 (Int.toNat x4) (rd x3 bj)) (Int.toNat bj) (rd x3 x4)),bj))) else none) else none) else none))
def jt.l0:Nat->List dL->Int->Option e_
 |0,_,_=>none
 |k5+1,x3,x4=>(jt.l1 fuel x3 x4 x4 (aa ((aa (2*x4))+1))).bind λzz=>match zz with |Sum.inl q=>some q |Sum.inr (x6,x7)=>jt.l0 k5 x6 x7
def jt.f (h:e_):Option e_:=jt.l0 fuel h.l 0
def jt.R (fx:Nat) (r:e_):bg:=λu G=> ∃a0 n0 H0,aj fL 359 r.l a0 n0 H0/\u=(.tuple #[])/\G=[(cl fx 357 [(ll a0 r.l n0)]),H0]
theorem jt.c (H:jt.f h=some r) (pL:aj fL 359 h.l kz kK rI):
 QR 242 [(pp fx)] [(cl fx 357 [(ll kz h.l kK)]),rI] [] F (jt.R fx r):=by
 unfold jt.f at H;refine aD Tryz.func242 J J (λW=>rc T 6 (lq [0] [2] (λ(⟨k5,x3,x4,a4,n4,H4⟩:Nat×List dL×Int×Option Addr×Nat×Hp)=>(jt.l0 k5 x3 x4=some r/\aj fL 359 x3 a4 n4 H4,[(2,(ii x4))],[(cl fx 357 [(ll a4 x3 n4)]),H4])) J J (fuel,h.l,0,kz,kK,rI) [2,0,0] ⟨H,pL⟩ J J ?_));rintro k5 ⟨x3,x4,a4,n4,H4⟩ ⟨Z1,s4⟩;rw[jt.l0] at Z1;refine mn Z1 [0] [0] (λz8 (⟨x6,x7,a5,n5,H5⟩:List dL×Int×Option Addr×Nat×Hp)=>((Sum.inr (x6,x7))=z8/\aj fL 359 x6 a5 n5 H5,[(2,(ii x7))],[(cl fx 357 [(ll a5 x6 n5)]),H5])) J J (λz8 Z2 Z1=>?_) ?_
 ·refine rc T 17 (lq [0,2] [0,0,0] (λ(⟨uT,bj,bx⟩:Nat×Int×Int)=>(jt.l1 uT x3 x4 bj bx=some z8,[(3,(ii bj)),(4,(ii bx))],[])) J J (fuel,x4,(aa ((aa (2*x4))+1))) [0,0,0] Z2 J J ?_);rintro uT ⟨bj,bx⟩ Z3;replace Z3:jt.l1 (uT+1) x3 x4 bj bx=some z8:=Z3;rw[jt.l1] at Z3;refine rc T 1 (mq Z3 [0,2,3,4] [0,0,0] (λIV (bc:Bool)=>(bc=IV,[(22,(bb bc))],[])) J J (λIV Z4 _=>?_) ?_)
  ·refine rc T 7 (ad 14 J Z4 (λZ4=>?_) (λZ4=>?_))
   ·refine ro T 4 (lf T 1 J (ro T 5 (am _ [0,0,0] (oi Z4) J J)))
   refine ro T 10 (am _ [0,0,0] (oi Z4) J J)
  rintro _ bc rfl Z3;refine cb J Z3 (λZ3=>?_) (λZ3=>?_)
  ·refine rc T 5 (dx mix ay (au T J (au T J (au T J (aO J J J (aw T J J J J (aK (j:=1) J J)) (au T J ?_))))));obtain⟨c7,Z3⟩:=az Z3;obtain⟨q6,o6,e6⟩:=s4.r.addr c7.1 c7.2;refine aO J J J (cC T J J J J J e6 c7.1 c7.2) (aO J J J (fC T (cs:=[(ii (rd x3 bx).key),(ii (rd x3 bx).item)]) J J J J J J (iv (k:=fL) (oO s4 2) e6 c7 J)) (au T J (au T J (au T J (aO J J J (aw T J J J J (aK (j:=1) J J)) (au T J ?_))))));obtain⟨c8,Z3⟩:=az Z3;refine aO J J J (cC T J J J J J e6 c8.1 c8.2) (aO J J J (fC T (cs:=[(ii (rd x3 bj).key),(ii (rd x3 bj).item)]) J J J J J J (iv (k:=fL) (oO s4 2) e6 c8 J)) ?_);obtain⟨eG,V9,Z3⟩:=gu Z3;refine uy J J J J J J TQ J (y_.c V9) (dh (rx T 1 (cb J Z3 (λZ3=>?_) (λZ3=>?_))))
   ·refine rc T 12 (ar (_,_) [0,0,0] Z3 J J)
   refine rc T 9 (ar (_,_) [0,0,0] Z3 J J)
  refine rc T 13 (cb J Z3 (λZ3=>?_) (λZ3=>?_))
  ·refine rc T 6 ?_;obtain rfl:=Option.some.inj Z3;obtain rfl:=Option.some.inj (show some (e_.mk x3)=some r from Z1)
   exact p1 T J [1,1,0] ⟨a4,n4,H4,s4,J,J⟩ J
  refine rc T 3 (fz J (rz [25,27] mix (bO bN) (λhg pf=>ha T 25 [0,1,2] sz hg pf J (av 3 sz hg pf J (aw T J J J J (aK (j:=1) J J)) (ha T 20 [4,5,6,7] sz hg pf J (av 8 sz hg pf J (aw T J J J J (aK (j:=1) J J)) (ha T 15 [9,10,11,12] sz hg pf J (av 13 sz hg pf J (aw T J J J J (aK (j:=1) J J)) (ha T 13 [14] sz hg pf J ?_)))))))));obtain⟨ir,Z3⟩:=az Z3;obtain⟨q7,o7,e7⟩:=s4.r.addr ir.1 ir.2;refine av 15 sz hg pf J (cC T J J J J J e7 ir.1 ir.2) (av 16 sz hg pf J (fC T (cs:=[(ii (rd x3 bj).key),(ii (rd x3 bj).item)]) J J J J J J (iv (k:=fL) (oO s4 2) e7 ir J)) (ha T 8 [17,18,19] sz hg pf J (av 20 sz hg pf J (aw T J J J J (aK (j:=1) J J)) (ha T 6 [21] sz hg pf J ?_))));obtain⟨jr,Z3⟩:=az Z3;refine av 22 sz hg pf J (cC T J J J J J e7 jr.1 jr.2) (av 23 sz hg pf J (fC T (cs:=[(ii (rd x3 x4).key),(ii (rd x3 x4).item)]) J J J J J J (iv (k:=fL) (oO s4 2) e7 jr J)) (av 24 sz hg pf J (cC T J J J J J e7 jr.1 jr.2) (ao 25 (kX (k:=fL) T 2 0 (rd x3 bj) J J J J J J s4 e7 jr J J J (λH8 s8=>kg [0,2,3,43,44,45,46,48,49,50,51,53,54,55,56,58,59,60,61,62,63,65,66,67,68] [0,1] [0,1,0] [(47,(ll a4 (List.set x3 (Int.toNat x4) (rd x3 bj)) n4)),(52,(ll a4 (List.set x3 (Int.toNat x4) (rd x3 bj)) n4)),(57,(ll a4 (List.set x3 (Int.toNat x4) (rd x3 bj)) n4)),(64,(ll a4 (List.set x3 (Int.toNat x4) (rd x3 bj)) n4))] [(cl fx 357 [(ll a4 (List.set x3 (Int.toNat x4) (rd x3 bj)) n4)])] J J ⟨dJ,dJ,dJ,dJ,trivial⟩ dJ (an sl (ao 26 ?_)))))));obtain⟨pj,Z3⟩:=az Z3;refine lK J (cC T J J J J J e7 pj.1 pj.2) (an sl (ao 27 (kX (k:=fL) T 1 0 (rd x3 x4) J J J J J J s8 e7 pj J J J (λH9 s9=>kg [0,2,3,43,44,45,46,48,49,50,51,53,54,55,56,58,59,60,61,62,63,65,66,67,68,69] [0,0] [0,0,0] [(47,(ll a4 (List.set (List.set x3 (Int.toNat x4) (rd x3 bj)) (Int.toNat bj) (rd x3 x4)) n4)),(52,(ll a4 (List.set (List.set x3 (Int.toNat x4) (rd x3 bj)) (Int.toNat bj) (rd x3 x4)) n4)),(57,(ll a4 (List.set (List.set x3 (Int.toNat x4) (rd x3 bj)) (Int.toNat bj) (rd x3 x4)) n4)),(64,(ll a4 (List.set (List.set x3 (Int.toNat x4) (rd x3 bj)) (Int.toNat bj) (rd x3 x4)) n4))] [(cl fx 357 [(ll a4 (List.set (List.set x3 (Int.toNat x4) (rd x3 bj)) (Int.toNat bj) (rd x3 x4)) n4)])] J J ⟨dJ,dJ,dJ,dJ,trivial⟩ dJ (an sl (ae (rx T 7 (am (_,_,_,_,_) [0,1,0] ⟨oi Z3,s9⟩ J J))))))))
 rintro _ ⟨x6,x7,a5,n5,H5⟩ ⟨rfl,s5⟩ Z1;refine rx T 1 (ar (_,_,_,_,_) [0,0,0] ⟨Z1,s5⟩ J J)
def nF.f (h:e_):Option (Int×Int×Bool×e_):=(Et.f h).bind λv1=>if v1.2.2=true then(if(0<=(aa ((List.length h.l:Int)-1))/\(aa ((List.length h.l:Int)-1))<(List.length h.l:Int)) then(if(0<=(0:Int)/\(0:Int)<(List.length h.l:Int)) then(if(0<=(0:Int)/\(0:Int)<=(aa ((List.length h.l:Int)-1))/\(aa ((List.length h.l:Int)-1))<=(List.length (List.set h.l (Int.toNat 0) (rd h.l (aa ((List.length h.l:Int)-1)))):Int)) then((jt.f (e_.mk (aA (List.set h.l (Int.toNat 0) (rd h.l (aa ((List.length h.l:Int)-1)))) 0 (aa ((List.length h.l:Int)-1))))).bind λv2=>some (v1.1,v1.2.1,v1.2.2,v2)) else none) else none) else none) else(some (v1.1,v1.2.1,v1.2.2,h))
def nF.R (fx:Nat) (r:(Int×Int×Bool×e_)):bg:=λu G=> ∃a0 n0 H0,aj fL 359 r.2.2.2.l a0 n0 H0/\u=(.tuple #[(ii r.1),(ii r.2.1),(bb r.2.2.1)])/\G=[(cl fx 357 [(ll a0 r.2.2.2.l n0)]),H0]
theorem nF.c (H:nF.f h=some r) (pL:aj fL 359 h.l kz kK rI):
 QR 218 [(pp fx)] [(cl fx 357 [(ll kz h.l kK)]),rI] [] F (nF.R fx r):=by
 unfold nF.f at H;refine aD Tryz.func218 J J (λW=>rc T 10 (k [0,0] J adS H (Et.c · pL) (λv1 H=>ro T 15 (cb J H (λH=>?_) (λH=>?_)))))
 ·refine rc T 5 (lf T 0 J (ro T 6 (fz J (rz [12] mix (bO bN) (λhg pf=>ha T 10 [0,1,2] sz hg pf J (av 3 sz hg pf J (aw T J J J J (aK (j:=0) J J)) (ha T 6 [4,5,6] sz hg pf J (av 7 sz hg pf J (aw T J J J J (aK (j:=0) J J)) (ha T 4 [8] sz hg pf J ?_)))))))));obtain⟨c3,H⟩:=az H;obtain⟨q3,o3,e3⟩:=pL.r.addr c3.1 c3.2;refine av 9 sz hg pf J (cC T J J J J J e3 c3.1 c3.2) (av 10 sz hg pf J (fC T (cs:=[(ii (rd h.l (aa ((List.length h.l:Int)-1))).key),(ii (rd h.l (aa ((List.length h.l:Int)-1))).item)]) J J J J J J (iv (k:=fL) (oO pL 1) e3 c3 J)) ?_);obtain⟨c4,H⟩:=az H;refine av 11 sz hg pf J (cC T J J J J J e3 c4.1 c4.2) (ao 12 (kX (k:=fL) T 1 0 (rd h.l (aa ((List.length h.l:Int)-1))) J J J J J J pL e3 c4 J J J (λH4 s4=>kg [0,2,3,4,5,19,20,21,23,24,25,27,28,29,30] [1,1] [1,1,0] [(22,(ll kz (List.set h.l (Int.toNat 0) (rd h.l (aa ((List.length h.l:Int)-1)))) kK)),(26,(ll kz (List.set h.l (Int.toNat 0) (rd h.l (aa ((List.length h.l:Int)-1)))) kK))] [(cl fx 357 [(ll kz (List.set h.l (Int.toNat 0) (rd h.l (aa ((List.length h.l:Int)-1)))) kK)])] J J ⟨dJ,dJ,trivial⟩ dJ (an sl (ae (rx T 7 (lf T 2 J (ro T 1 ?_))))))));obtain⟨c5,H⟩:=az H;refine br J (kE T J J J J J J c5 s4.bT) (ro T 2 (sg T 2 J (ro T 4 (kr (jt.R fx) [] [2,0] J adT H (jt.c (h:=(e_.mk (aA (List.set h.l (Int.toNat 0) (rd h.l (aa ((List.length h.l:Int)-1)))) 0 (aa ((List.length h.l:Int)-1))))) · (aj.pre s4 c5)) (λv2 H=>?_)))));rintro _ _ ⟨a5,n5,H5,s5,rfl,rfl⟩;refine fz J (ro T 1 (ks [2,3,4] J (rx T 12 ?_)))
  cases H;exact p1 T J [1,1,0] ⟨a5,n5,H5,s5,J,J⟩ J
 refine rc T 13 ?_
 cases H;exact p1 T J [0,0,0] ⟨kz,kK,rI,pL,J,J⟩ J
end
noncomputable section
def wx.f (ag:Int):Option (Option eO):=if((decide (ag<0))||(decide (ag>1099511627776)))=true then(some none) else(some (some (eO.mk ag 0 (List.replicate 256 (default:jY)))))
def wx.R (r:(Option eO)):bg:=λu G=> ∃(u0:Value) (G0:List Hp),Yr r u0 G0/\u=u0/\G=G0
theorem wx.c (H:wx.f ag=some r):
 QR 247 [(ii ag)] [] [] F (wx.R r):=by
 unfold wx.f at H;refine aD Tryz.func247 J J (λW=>rc T 11 (go T [3,4,5] 5 [0] 8 J J J J J J J (ro T 2 (cb J H (λH=>?_) (λH=>?_)))))
 ·refine rc T 7 ?_
  cases H;exact p1 T J [0] ⟨_,_,⟨J,J⟩,J,J⟩ J
 refine rc T 6 (aX (Zu (kd:=WS) T [(ii ag),(ii 0)] 256 (default:jY) [nl,(ii 0)] J J J J ⟨none,0,[],(aj.nil (k:=(Fl.int .i64)) (E:=3)),J,J⟩ (λb1 H1 s1=>ro T 4 ?_)))
 cases H;exact p1 T J [1,0] ⟨_,_,⟨b1,H1,(And.intro s1 (List.length_replicate ..)),J,J⟩,J,J⟩ J
def wy.f (ag:eO):Option Int:=some ag.len
theorem wy.c (H:wy.f ag=some r) (cK:ky ag aW db):
 QU 274 [(pp aW)] [db] F (ii r):=by
 unfold wy.f at H;refine aD Tryz.func274 J J (λW=>rc T 12 (eT J (rc T 7 (lg T J (A5 (j:=0) J cK.1 J) (ro T 4 ?_)))))
 cases H;exact p0 T J [0,0] J
def xV.f (ag:eO) (key:Int):Option (Bool×eO):=(if ag.len>0 then(some true) else(some ((decide (key<ag.ba))||(decide (key>1099511627776))))).bind λx1=>if x1=true then(some (false,ag)) else(some (true,(eO.mk key ag.len ag.buckets)))
def xV.R (ny:Nat) (r:(Bool×eO)):bg:=λu G=> ∃(H0:Hp),ky r.2 ny H0/\u=(bb r.1)/\G=[H0]
theorem xV.c (H:xV.f ag key=some r) (cK:ky ag aW db):
 QR 290 [(pp aW),(ii key)] [db] [] F (xV.R aW r):=by
 unfold xV.f at H;refine aD Tryz.func290 J J (λW=>rc T 6 (mq H [0,1] [1,0] (λz2 (x1:Bool)=>(x1=z2,[(25,(bb x1))],[])) J J (λz2 Z1 _=>?_) ?_))
 ·refine rc T 7 (lg T J (A5 (j:=0) J cK.1 J) (ro T 3 (ad 14 J Z1 (λZ1=>?_) (λZ1=>?_))))
  ·refine ro T 13 (am _ [1,0] (oi Z1) J J)
  refine ro T 4 (lg T J (A5 (j:=0) J cK.1 J) (ro T 3 (go T [18,19,20] 22 [0,1] 25 J J J J J J J (ro T 2 (am _ [1,0] (oi Z1) J J)))))
 rintro _ x1 rfl H;refine cb J H (λH=>?_) (λH=>?_)
 ·refine rc T 7 ?_
  cases H;exact p1 T J [1,0] ⟨db,cK,J,J⟩ J
 refine rc T 8 (aX (Jl T 1 [(ii key),(ii ag.len)] J J J J J J cK.1 J J J J (λH2 s2=>ro T 8 ?_)))
 cases H;exact p1 T J [1,0] ⟨H2,(And.intro s2 cK.2),J,J⟩ J
def zK.f (b:jY) (item:Int):Option jY:=if(List.length b.items+1<=1099511627776) then(some (jY.mk (b.items++[item]) b.gone)) else none
def zK.R (vv:Nat) (MB:TypeId) (MM MN:List Value) (r:jY):bg:=λu G=> ∃a0 n0 H0,aj (Fl.int .i64) 3 r.items a0 n0 H0/\u=(.tuple #[])/\G=[[(vv,Obj.cells (MM++(([(ll a0 r.items n0),(ii r.gone)]:List Value)++MN)).toArray MB (0,0))],H0]
theorem zK.c (H:zK.f b item=some r) (zM:aj (Fl.int .i64) 3 b.items xa tA BS):
 QR 302 [(.pointer (some ⟨vv,List.length Dc+0,none⟩)),(ii item)] [[(vv,Obj.cells (Dc++(([(ll xa b.items tA),(ii b.gone)]:List Value)++K_)).toArray Ja (0,0))],BS] [] F (zK.R vv Ja Dc K_ r):=by
 unfold zK.f at H;refine aD Tryz.func302 J J (λW=>rc T 5 (lg T J (CG (j:=0) J 0 J) (ro T 1 (aX (cY (k:=(Fl.int .i64)) T [item] J J J J J J J J J (λa3 H3 s3=>?_))))));obtain⟨c1,H⟩:=az H;refine aX (dW (k:=(Fl.int .i64)) (xs:=b.items) T (g:=1) J J J J J J J J J J zM (oO s3 3) c1 J (λa4 n4 H4 s4=>ro T 2 (aX (Jp T 0 0 [(ll a4 (b.items++[item]) n4),(ii b.gone)] J J J J J J J J J J ?_))));refine ro T 1 (jq ?_)
 cases H;exact p1 T J [0,0,0] ⟨a4,n4,H4,s4,J,J⟩ J
def tK.f (ag:eO) (key:Int) (item:Int):Option (Bool×eO):=(if key<ag.ba then(some true) else(some (decide ((aa (key-ag.ba))≥256)))).bind λx1=>if x1=true then(some (false,ag)) else(if(0<=(Int.tmod key 256)/\(Int.tmod key 256)<(List.length ag.buckets:Int)) then((zK.f (rd ag.buckets (Int.tmod key 256)) item).bind λv3=>some (true,(eO.mk ag.ba (aa (ag.len+1)) (List.set ag.buckets (Int.toNat (Int.tmod key 256)) v3)))) else none)
def tK.R (ny:Nat) (r:(Bool×eO)):bg:=λu G=> ∃(H0:Hp),ky r.2 ny H0/\u=(bb r.1)/\G=[H0]
theorem tK.c (H:tK.f ag key item=some r) (cK:ky ag aW db):
 QR 291 [(pp aW),(ii key),(ii item)] [db] [] F (tK.R aW r):=by
 unfold tK.f at H;refine aD Tryz.func291 J J (λW=>rc T 6 (mq H [0,1,2] [1,0] (λz2 (x1:Bool)=>(x1=z2,[(25,(bb x1))],[])) J J (λz2 Z1 _=>?_) ?_))
 ·refine rc T 8 (lg T J (A5 (j:=0) J cK.1 J) (ro T 3 (ad 17 J Z1 (λZ1=>?_) (λZ1=>?_))))
  ·refine ro T 10 (am _ [1,0] (oi Z1) J J)
  refine ro T 4 (lg T J (A5 (j:=0) J cK.1 J) (ro T 5 (am _ [1,0] (oi Z1) J J)))
 rintro _ x1 rfl H;refine cb J H (λH=>?_) (λH=>?_)
 ·refine rc T 7 ?_
  cases H;exact p1 T J [1,0] ⟨db,cK,J,J⟩ J
 refine rc T 3 ?_;obtain⟨c4,H⟩:=az H;refine Mk (j:=1) J cK.1 c4 (λp2_ q2_ _ H3 _ o2_ XZ=>?_);obtain⟨a5,n5,H5,s5,rfl,rfl⟩:=o2_;refine bS (As:=[H5]) 3 J (rc T 6 (br J (JN T J J J J J (by rw[cK.2] at c4;exact c4) (by rw[wW.at XZ];rfl)) (ro T 1 ?_)))
 refine kr (zK.R aW 396 p2_ q2_) [] [1,2] J aej H (zK.c · s5) (λv3 H=>?_);rintro _ _ ⟨a6,n6,H6,s6,rfl,rfl⟩;refine fz J (ro T 1 (f_ [3] J (FV (j:=2) (q1:=1) (q2:=3) v3 J XZ J J J J J ⟨a6,n6,H6,s6,J,J⟩ (λH8 s8=>rx T 6 (lg T J (A5 (j:=2) J s8 J) (ro T 3 (aX (Jl T 2 [(ii ag.ba),(ii (aa (ag.len+1)))] J J J J J J s8 J J J J (λH9 s9=>ro T 8 ?_)))))))))
 cases H;exact p1 T J [2,0] ⟨H9,(And.intro s9 (Lo cK.2)),J,J⟩ J
def xW.f (b:jY):Option Bool:=some (b.gone==(List.length b.items:Int))
theorem xW.c (H:xW.f b=some r) (zM:aj (Fl.int .i64) 3 b.items xa tA BS):
 QU 292 [(.pointer (some ⟨vv,List.length Dc+0,none⟩))] [[(vv,Obj.cells (Dc++(([(ll xa b.items tA),(ii b.gone)]:List Value)++K_)).toArray Ja (0,0))],BS] F (bb r):=by
 unfold xW.f at H;refine aD Tryz.func292 J J (λW=>rc T 6 (dx mix ay (au T J (au T J (au T J (aO J J J (aw T J J J J (CG (j:=0) J 1 J)) (au T J (au T J (au T J (aO J J J (aw T J J J J (CG (j:=0) J 0 J)) (au T J (au T J (au T J (dh (rx T 2 ?_)))))))))))))))
 cases H;exact p0 T J [0,0,0] J
def sb.f (b:jY):Option (Int×jY):=if(0<=b.gone/\b.gone<(List.length b.items:Int)) then((xW.f (jY.mk b.items (aa (b.gone+1)))).bind λv1=>if v1=true then(if(0<=(0:Int)/\(0:Int)<=(0:Int)/\(0:Int)<=(List.length b.items:Int)) then(some ((rd b.items b.gone),(jY.mk (aA b.items 0 0) 0))) else none) else(some ((rd b.items b.gone),(jY.mk b.items (aa (b.gone+1)))))) else none
def sb.R (vv:Nat) (MB:TypeId) (MM MN:List Value) (r:(Int×jY)):bg:=λu G=> ∃a0 n0 H0,aj (Fl.int .i64) 3 r.2.items a0 n0 H0/\u=(ii r.1)/\G=[[(vv,Obj.cells (MM++(([(ll a0 r.2.items n0),(ii r.2.gone)]:List Value)++MN)).toArray MB (0,0))],H0]
theorem sb.c (H:sb.f b=some r) (zM:aj (Fl.int .i64) 3 b.items xa tA BS):
 QR 293 [(.pointer (some ⟨vv,List.length Dc+0,none⟩))] [[(vv,Obj.cells (Dc++(([(ll xa b.items tA),(ii b.gone)]:List Value)++K_)).toArray Ja (0,0))],BS] [] F (sb.R vv Ja Dc K_ r):=by
 unfold sb.f at H;refine aD Tryz.func293 J J (λW=>rc T 6 (dx mix ay (au T J (au T J (au T J (aO J J J (aw T J J J J (CG (j:=0) J 0 J)) (au T J (au T J (au T J (aO J J J (aw T J J J J (CG (j:=0) J 1 J)) ?_))))))))));obtain⟨c1,H⟩:=az H;obtain⟨q3,o3,e3⟩:=zM.r.addr c1.1 c1.2;refine aO J J J (cC T J J J J J e3 c1.1 c1.2) (aO J J J (aw T J J J J (g_ (k:=(Fl.int .i64)) (oO zM 1) e3 c1 0 J)) (au T J (dh (rx T 6 (lg T J (CG (j:=0) J 1 J) (ro T 3 (aX (Jp T 0 1 [(ll xa b.items tA),(ii (aa (b.gone+1)))] J J J J J J J J J J ?_))))))));refine ro T 6 (k [0,0] J TU H (xW.c (b:=(jY.mk b.items (aa (b.gone+1)))) · zM) (λv1 H=>ro T 2 (cb J H (λH=>?_) (λH=>?_))))
 ·refine rc T 6 (lg T J (CG (j:=0) J 0 J) ?_);obtain⟨c4,H⟩:=az H;refine br J (kE T J J J J J J c4 zM.bT) (ro T 2 (aX (Jp T 0 0 [(ll (gm xa tA (Int.toNat 0) 1) (aA b.items 0 0) (tA-Int.toNat 0)),(ii (aa (b.gone+1)))] J J J J J J J J J J ?_)));refine ro T 2 (aX (Jp T 0 1 [(ll (gm xa tA (Int.toNat 0) 1) (aA b.items 0 0) (tA-Int.toNat 0)),(ii 0)] J J J J J J J J J J ?_));refine ro T 9 ?_
  cases H;exact p1 T J [0,0,0] ⟨(gm xa tA (Int.toNat 0) 1),(tA-Int.toNat 0),BS,(aj.pre zM c4),J,J⟩ J
 refine rc T 9 ?_
 cases H;exact p1 T J [0,0,0] ⟨xa,tA,BS,zM,J,J⟩ J
def oQ.l0:Nat->eO->Option eO
 |0,_=>none
 |k6+1,x5=>if(0<=(Int.tmod x5.ba 256)/\(Int.tmod x5.ba 256)<(List.length x5.buckets:Int)) then((xW.f (rd x5.buckets (Int.tmod x5.ba 256))).bind λv7=>if v7=true then(oQ.l0 k6 (eO.mk (aa (x5.ba+1)) x5.len x5.buckets)) else(some x5)) else none
def oQ.f (ag:eO):Option (Int×Int×Bool×eO):=(wy.f ag).bind λv1=>if(v1==0)=true then(some (0,0,false,ag)) else((oQ.l0 fuel ag).bind λx2=>if(0<=(Int.tmod x2.ba 256)/\(Int.tmod x2.ba 256)<(List.length x2.buckets:Int)) then((sb.f (rd x2.buckets (Int.tmod x2.ba 256))).bind λv8=>some (x2.ba,v8.1,true,(eO.mk x2.ba (aa (x2.len-1)) (List.set x2.buckets (Int.toNat (Int.tmod x2.ba 256)) v8.2)))) else none)
def oQ.R (ny:Nat) (r:(Int×Int×Bool×eO)):bg:=λu G=> ∃(H0:Hp),ky r.2.2.2 ny H0/\u=(.tuple #[(ii r.1),(ii r.2.1),(bb r.2.2.1)])/\G=[H0]
theorem oQ.c (H:oQ.f ag=some r) (cK:ky ag aW db):
 QR 275 [(pp aW)] [db] [] F (oQ.R aW r):=by
 unfold oQ.f at H;refine aD Tryz.func275 J J (λW=>rc T 11 (k [0] J NO H (wy.c · cK) (λv1 H=>ro T 3 (cb J H (λH=>?_) (λH=>?_)))))
 ·refine rc T 9 ?_
  cases H;exact p1 T J [0,0] ⟨db,cK,J,J⟩ J
 refine rc T 2 (mq H [0] [1] (λz3 (⟨x2,H2⟩:eO×Hp)=>(x2=z3/\ky x2 aW H2,[],[H2])) J J (λz3 Z3 _=>?_) ?_)
 ·refine rc T 1 (lq [0] [1] (λ(⟨k6,x5,H4⟩:Nat×eO×Hp)=>(oQ.l0 k6 x5=some z3/\ky x5 aW H4,[],[H4])) J J (fuel,ag,db) [1,0] ⟨Z3,cK⟩ J J ?_);rintro k6 ⟨x5,H4⟩ ⟨Z4,s4⟩;rw[oQ.l0] at Z4;refine rc T 2 ?_;obtain⟨c5,Z4⟩:=az Z4;refine Mk (j:=1) J s4.1 c5 (λp5_ q5_ _ H6 _ o5_ Qd=>?_);obtain⟨a8,n8,H8,s8,rfl,rfl⟩:=o5_;refine bS (As:=[H8]) 3 J (dx mix ay ?_)
  iterate 4 refine au T J ?_
  refine aO J J J (aw T J J J J (EG (j:=1) J Qd J)) (au T J (au T J (au T J (aO J J J (JN T J J J J J (by rw[s4.2] at c5;exact c5) (by rw[wW.at Qd];rfl)) ?_))))
  obtain⟨v7,V6,Z4⟩:=gu Z4;refine xf [1,2] J J J J J J TU J (xW.c V6 s8) (dh (f_ [3] J (Zv (j:=1) (q1:=2) (q2:=3) J Qd J J J J J ⟨a8,n8,H8,s8,J,J⟩ (λb_ bP=>rx T 1 (cb J Z4 (λZ4=>?_) (λZ4=>?_))))))
  ·refine rc T 7 (lg T J (A5 (j:=1) J bP J) (ro T 3 (aX (Jl T 1 [(ii (aa (x5.ba+1))),(ii x5.len)] J J J J J J bP J J J J (λcz c_=>ro T 3 (ar (_,_) [0,0] ⟨Z4,(And.intro c_ s4.2)⟩ J J))))))
  refine rc T 5 (am (_,_) [0,0] ⟨oi Z4,(And.intro bP s4.2)⟩ J J)
 rintro _ ⟨x2,H2⟩ ⟨rfl,s2⟩ H;refine rc T 5 (lg T J (A5 (j:=1) J s2.1 J) (ro T 3 (aX (Jl T 1 [(ii x2.ba),(ii (aa (x2.len-1)))] J J J J J J s2.1 J J J J (λdq dz=>ro T 3 ?_)))));obtain⟨c8,H⟩:=az H;refine Mk (j:=1) J dz c8 (λPj Pn _ fX _ ag' yl=>?_);obtain⟨jT,n16,fY,fU,rfl,rfl⟩:=ag';refine bS (As:=[fY]) 3 J (ks [0] J (fz J (rg [] [0,1] mix (bO bN) (λhg pf=>ha T 8 [0,1,2,4,5,6,7,10,11] (so [0,1]) hg pf J (gK 3 8 ?_ ?_)))))
 ·refine lK J (aw T J J J J (EG (j:=1) J yl J)) (an (so [0,1]) (ao 8 (lK J (aw T J J J J (EG (j:=1) J yl J)) (an (so [0,1]) (ha T 5 [9] (so [0,1]) hg pf J (av 12 (so [0,1]) hg pf J (JN T J J J J J (by rw[s2.2] at c8;exact c8) (by rw[wW.at yl];rfl)) (ao 13 ?_)))))))
  refine kR (sb.R aW 396 Pj Pn) [] [1,2] J NQ H (sb.c · fU) (λv8 H=>?_);rintro _ _ ⟨a17,n17,eH,fq,rfl,rfl⟩;refine fz J (an (so [0,0]) (ha T 0 [14,15,16] (so [0,0]) hg pf J (ae (f_ [3] J (FV (j:=2) (q1:=1) (q2:=3) v8.2 J yl J J J J J ⟨a17,n17,eH,fq,J,J⟩ (λkT ie=>rx T 2 ?_))))))
  cases H;exact p1 T J [2,0] ⟨kT,(And.intro ie (Lo s2.2)),J,J⟩ J
 refine lK J (aw T J J J J (EG (j:=1) J yl J)) (an (so [0,1]) (ha T 6 [9] (so [0,1]) hg pf J (av 12 (so [0,1]) hg pf J (JN T J J J J J (by rw[s2.2] at c8;exact c8) (by rw[wW.at yl];rfl)) ?_)))
 refine gK 3 13 ?_ ?_
 ·refine lK J (aw T J J J J (EG (j:=1) J yl J)) (an (so [0,1]) (ao 13 (kR (sb.R aW 396 Pj Pn) [] [1,2] J NQ H (sb.c · fU) (λv9 H=>?_))));rintro _ _ ⟨a20,n20,oq,me,rfl,rfl⟩;refine fz J (an (so [0,0]) (ha T 0 [14,15,16] (so [0,0]) hg pf J (ae (f_ [3] J (FV (j:=2) (q1:=1) (q2:=3) v9.2 J yl J J J J J ⟨a20,n20,oq,me,J,J⟩ (λlX iz=>rx T 2 ?_))))))
  cases H;exact p1 T J [2,0] ⟨lX,(And.intro iz (Lo s2.2)),J,J⟩ J
 refine kR (sb.R aW 396 Pj Pn) [] [1,2] J NQ H (sb.c · fU) (λv10 H=>?_);rintro _ _ ⟨a23,n23,jE,gG,rfl,rfl⟩;refine fz J (an (so [0,0]) (ao 3 (lK J (aw T J J J J (EG (j:=2) J yl J)) (an (so [0,0]) (ha T 0 [14,15,16] (so [0,0]) hg pf J (ae (f_ [3] J (FV (j:=2) (q1:=1) (q2:=3) v10.2 J yl J J J J J ⟨a23,n23,jE,gG,J,J⟩ (λgV jh=>rx T 2 ?_)))))))))
 cases H;exact p1 T J [2,0] ⟨gV,(And.intro jh (Lo s2.2)),J,J⟩ J
end
end Go.Proofs.YthodkonhneebbaaGreatDoor
