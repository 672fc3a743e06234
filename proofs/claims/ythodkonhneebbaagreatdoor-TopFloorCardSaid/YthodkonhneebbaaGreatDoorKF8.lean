/- What the functions of some packages compute, each as a function of plain Lean, with its contract. No condition. -/
import Derived.Test.YthodkonhneebbaaGreatDoorKFT
namespace Go.Proofs.YthodkonhneebbaaGreatDoor
open Go.Hx
set_option maxRecDepth 100000
set_option linter.unusedSimpArgs false
set_option linter.unusedVariables false
set_option maxHeartbeats 4000000
set_option autoImplicit true
set_option relaxedAutoImplicit true
noncomputable section
def u_.f:Option (Option eK):=some (some (eK.mk []))
def u_.R (r:(Option eK)) (u:Value) (G:List Hp):Prop:= ∃(u0:Value) (G0:List Hp),Xj r u0 G0/\u=u0/\G=G0
theorem u_.c (H:u_.f=some r):
 QR 213 [] [] [] F (u_.R r):=by
 unfold u_.f at H;refine aB Tryz.func213 J J (λW=>rc T 8 (nc T J (λb1=>ro T 4 ?_)))
 cases H;refine bq (p1 T J [1,1,0] ⟨_,_,⟨b1,none,0,[],ak.nil,J,J⟩,J,J⟩ J)
def yx.f (ag:dG) (o:dG):Option Bool:=(if ag.key<o.key then(some true) else(if(ag.key==o.key)=true then(some (decide (ag.item<o.item))) else(some false))).bind λx1=>some x1
theorem yx.c (H:yx.f ag o=some r):
 QU 270 [(.agg #[(ii ag.key),(ii ag.item)]),(.agg #[(ii o.key),(ii o.item)])] [] F (bb r):=by
 unfold yx.f at H;refine aB Tryz.func270 J J (λW=>rc T 2 (nc T J (λb1=>nc T J (λb2=>ro T 3 (mq H [] [0] (λz2 (x1:Bool)=>(x1=z2,[(4,(bb x1))],[])) J J (λz2 Z1 _=>?_) ?_)))))
 ·refine rc T 2 (lf T 1 J (ro T 1 (lf T 2 J (ro T 2 (ad 10 J Z1 (λZ1=>?_) (λZ1=>?_))))))
  ·refine ro T 16 (am _ [0] (oi Z1) J J)
  refine ro T 1 (lf T 1 J (ro T 1 (lf T 2 J (ro T 2 (ab 16 J Z1 (λZ1=>?_) (λZ1=>?_))))))
  ·refine ro T 1 (lf T 1 J (ro T 1 (lf T 2 J (ro T 6 (am _ [0] (oi Z1) J J)))))
  refine ro T 10 (am _ [0] (oi Z1) J J)
 rintro _ x1 rfl H;refine rc T 1 ?_
 cases H;exact p0 T J [0] J
def oZ.l0:Nat->List dG->Int->Option eK
 |0,_,_=>none
 |k5+1,x3,x4=>if x4>0 then(if(0<=x4/\x4<(List.length x3:Int)) then(if(0<=(aa (Int.tdiv (aa (x4-1)) 2))/\(aa (Int.tdiv (aa (x4-1)) 2))<(List.length x3:Int)) then((yx.f (rd x3 x4) (rd x3 (aa (Int.tdiv (aa (x4-1)) 2)))).bind λv6=>if(!v6)=true then(some (eK.mk x3)) else(if(0<=(aa (Int.tdiv (aa (x4-1)) 2))/\(aa (Int.tdiv (aa (x4-1)) 2))<(List.length (List.set x3 (Int.toNat x4) (rd x3 (aa (Int.tdiv (aa (x4-1)) 2)))):Int)) then(oZ.l0 k5 (List.set (List.set x3 (Int.toNat x4) (rd x3 (aa (Int.tdiv (aa (x4-1)) 2)))) (Int.toNat (aa (Int.tdiv (aa (x4-1)) 2))) (rd x3 x4)) (aa (Int.tdiv (aa (x4-1)) 2))) else none)) else none) else none) else(some (eK.mk x3))
def oZ.f (h:eK):Option eK:=oZ.l0 fuel h.l (aa ((List.length h.l:Int)-1))
def oZ.R (fi:Nat) (r:eK) (u:Value) (G:List Hp):Prop:= ∃(a0:Option Addr) (n0:Nat) (H0:Hp),ak fA 359 r.l a0 n0 H0/\u=(.tuple #[])/\G=[(cl fi 357 [(ll a0 r.l n0)]),H0]
theorem oZ.c (H:oZ.f h=some r) (pw:ak fA 359 h.l km kB q_):
 QR 240 [(pp fi)] [(cl fi 357 [(ll km h.l kB)]),q_] [] F (oZ.R fi r):=by
 unfold oZ.f at H;refine aB Tryz.func240 J J (λW=>rc T 5 (lf T 0 J (ro T 6 (lq [0] [2] (λ(⟨k5,x3,x4,a4,n4,H4⟩:Nat×List dG×Int×Option Addr×Nat×Hp)=>(oZ.l0 k5 x3 x4=some r/\ak fA 359 x3 a4 n4 H4,[(2,(ii x4))],[(cl fi 357 [(ll a4 x3 n4)]),H4])) J J (fuel,h.l,(aa ((List.length h.l:Int)-1)),km,kB,q_) [2,0,0] ⟨H,pw⟩ J J ?_))));rintro k5 ⟨x3,x4,a4,n4,H4⟩ ⟨Z1,s4⟩;rw[oZ.l0] at Z1;refine rc T 7 (cd J Z1 (λZ1=>?_) (λZ1=>?_))
 ·refine rc T 13 (dA mix ay (aj T J (aj T J (aj T J (aO J J J (aw T J J J J (aF (j:=1) J J)) (aj T J ?_))))));obtain⟨c3,Z1⟩:=az Z1;obtain⟨q5,o5,e5⟩:=s4.r.addr c3.1 c3.2;refine aO J J J (cn T J J J J J e5 c3.1 c3.2) (aO J J J (fO T (cs:=[(ii (rd x3 x4).key),(ii (rd x3 x4).item)]) J J J J J J (hJ (k:=fA) (oO s4 2) e5 c3 J)) (aj T J (aj T J (aj T J (aO J J J (aw T J J J J (aF (j:=1) J J)) (aj T J ?_))))));obtain⟨c4,Z1⟩:=az Z1;refine aO J J J (cn T J J J J J e5 c4.1 c4.2) (aO J J J (fO T (cs:=[(ii (rd x3 (aa (Int.tdiv (aa (x4-1)) 2))).key),(ii (rd x3 (aa (Int.tdiv (aa (x4-1)) 2))).item)]) J J J J J J (hJ (k:=fA) (oO s4 2) e5 c4 J)) ?_);obtain⟨v6,V5,Z1⟩:=gj Z1;refine uF J J J J J J SQ J (yx.c V5) (aj T J (cH (rx T 1 (cb J Z1 (λZ1=>?_) (λZ1=>?_)))))
  ·refine rc T 5 ?_
   cases Z1;exact p1 T J [1,1,0] ⟨a4,n4,H4,s4,J,J⟩ J
  refine rc T 3 (fz J (rz [25,27] mix (bO bN) (λhg pf=>ha T 25 [0,1,2] sz hg pf J (av 3 sz hg pf J (aw T J J J J (aF (j:=1) J J)) (ha T 20 [4,5,6,7] sz hg pf J (av 8 sz hg pf J (aw T J J J J (aF (j:=1) J J)) (ha T 15 [9,10,11,12] sz hg pf J (av 13 sz hg pf J (aw T J J J J (aF (j:=1) J J)) (ha T 13 [14] sz hg pf J (av 15 sz hg pf J (cn T J J J J J e5 c4.1 c4.2) (av 16 sz hg pf J (fO T (cs:=[(ii (rd x3 (aa (Int.tdiv (aa (x4-1)) 2))).key),(ii (rd x3 (aa (Int.tdiv (aa (x4-1)) 2))).item)]) J J J J J J (hJ (k:=fA) (oO s4 2) e5 c4 J)) (ha T 8 [17,18,19] sz hg pf J (av 20 sz hg pf J (aw T J J J J (aF (j:=1) J J)) (ha T 6 [21] sz hg pf J (av 22 sz hg pf J (cn T J J J J J e5 c3.1 c3.2) (av 23 sz hg pf J (fO T (cs:=[(ii (rd x3 x4).key),(ii (rd x3 x4).item)]) J J J J J J (hJ (k:=fA) (oO s4 2) e5 c3 J)) (av 24 sz hg pf J (cn T J J J J J e5 c3.1 c3.2) (ao 25 (kK (k:=fA) T 2 0 (rd x3 (aa (Int.tdiv (aa (x4-1)) 2))) J J J J J J s4 e5 c3 J J J (λH6 s6=>kg [0,2,3,30,31,32,33,35,36,37,38,40,41,42,43,45,46,47,48,49,50,52,53,54,55] [0,1] [0,1,0] [(34,(ll a4 (List.set x3 (Int.toNat x4) (rd x3 (aa (Int.tdiv (aa (x4-1)) 2)))) n4)),(39,(ll a4 (List.set x3 (Int.toNat x4) (rd x3 (aa (Int.tdiv (aa (x4-1)) 2)))) n4)),(44,(ll a4 (List.set x3 (Int.toNat x4) (rd x3 (aa (Int.tdiv (aa (x4-1)) 2)))) n4)),(51,(ll a4 (List.set x3 (Int.toNat x4) (rd x3 (aa (Int.tdiv (aa (x4-1)) 2)))) n4))] [(cl fi 357 [(ll a4 (List.set x3 (Int.toNat x4) (rd x3 (aa (Int.tdiv (aa (x4-1)) 2)))) n4)])] J J ⟨(by first |rfl |(simp only[ll,List.length_set];rfl)),(by first |rfl |(simp only[ll,List.length_set];rfl)),(by first |rfl |(simp only[ll,List.length_set];rfl)),(by first |rfl |(simp only[ll,List.length_set];rfl)),trivial⟩ (by first |rfl |(simp only[ll,List.length_set];rfl)) (an sl (ao 26 ?_))))))))))))))))))))))
  obtain⟨c7,Z1⟩:=az Z1;refine lv J (cn T J J J J J e5 c7.1 c7.2) (an sl (ao 27 (kK (k:=fA) T 1 0 (rd x3 x4) J J J J J J s6 e5 c7 J J J (λH7 s7=>kg [0,2,3,30,31,32,33,35,36,37,38,40,41,42,43,45,46,47,48,49,50,52,53,54,55,56] [0,0] [0,0,0] [(34,(ll a4 (List.set (List.set x3 (Int.toNat x4) (rd x3 (aa (Int.tdiv (aa (x4-1)) 2)))) (Int.toNat (aa (Int.tdiv (aa (x4-1)) 2))) (rd x3 x4)) n4)),(39,(ll a4 (List.set (List.set x3 (Int.toNat x4) (rd x3 (aa (Int.tdiv (aa (x4-1)) 2)))) (Int.toNat (aa (Int.tdiv (aa (x4-1)) 2))) (rd x3 x4)) n4)),(44,(ll a4 (List.set (List.set x3 (Int.toNat x4) (rd x3 (aa (Int.tdiv (aa (x4-1)) 2)))) (Int.toNat (aa (Int.tdiv (aa (x4-1)) 2))) (rd x3 x4)) n4)),(51,(ll a4 (List.set (List.set x3 (Int.toNat x4) (rd x3 (aa (Int.tdiv (aa (x4-1)) 2)))) (Int.toNat (aa (Int.tdiv (aa (x4-1)) 2))) (rd x3 x4)) n4))] [(cl fi 357 [(ll a4 (List.set (List.set x3 (Int.toNat x4) (rd x3 (aa (Int.tdiv (aa (x4-1)) 2)))) (Int.toNat (aa (Int.tdiv (aa (x4-1)) 2))) (rd x3 x4)) n4)])] J J ⟨(by first |rfl |(simp only[ll,List.length_set];rfl)),(by first |rfl |(simp only[ll,List.length_set];rfl)),(by first |rfl |(simp only[ll,List.length_set];rfl)),(by first |rfl |(simp only[ll,List.length_set];rfl)),trivial⟩ (by first |rfl |(simp only[ll,List.length_set];rfl)) (an sl (ae (rx T 7 ?_)))))))
  exact ar (_,_,_,_,_) [0,1,0] ⟨Z1,s7⟩ J J
 refine rc T 4 (jd ?_)
 cases Z1;exact p1 T J [1,1,0] ⟨a4,n4,H4,s4,J,J⟩ J
def np.f (h:eK) (key:Int) (item:Int):Option eK:=if(List.length h.l+1<=1099511627776) then((oZ.f (eK.mk (h.l++[(dG.mk key item)]))).bind λv1=>some v1) else none
def np.R (fi:Nat) (r:eK) (u:Value) (G:List Hp):Prop:= ∃(a0:Option Addr) (n0:Nat) (H0:Hp),ak fA 359 r.l a0 n0 H0/\u=(.tuple #[])/\G=[(cl fi 357 [(ll a0 r.l n0)]),H0]
theorem np.c (H:np.f h key item=some r) (pw:ak fA 359 h.l km kB q_):
 QR 217 [(pp fi),(ii key),(ii item)] [(cl fi 357 [(ll km h.l kB)]),q_] [] F (np.R fi r):=by
 unfold np.f at H;refine aB Tryz.func217 J J (λW=>rc T 7 (eD J (rc T 8 (lf T 0 J (ro T 3 (aX (cV (k:=fA) T [(dG.mk key item)] J J J J J J J J J (λa3 H3 s3=>?_))))))));obtain⟨c1,H⟩:=az H;refine aX (dR (k:=fA) (xs:=h.l) T (g:=1) J J J J J J J J J J pw (oO s3 3) c1 J (λa4 n4 H4 s4=>ro T 2 (sg T 0 J (ro T 4 (kr (oZ.R fi) [] [0,0] J acR H (oZ.c (h:=(eK.mk (h.l++[(dG.mk key item)]))) · s4) (λv1 H=>?_))))));rintro _ _ ⟨a5,n5,H5,s5,rfl,rfl⟩;refine fz J (ro T 1 (jd ?_))
 cases H;exact p1 T J [2,2,0] ⟨a5,n5,H5,s5,J,J⟩ J
def DK.f (h:eK):Option Int:=some (List.length h.l:Int)
theorem DK.c (H:DK.f h=some r) (pw:ak fA 359 h.l km kB q_):
 QU 271 [(pp fi)] [(cl fi 357 [(ll km h.l kB)]),q_] F (ii r):=by
 unfold DK.f at H;refine aB Tryz.func271 J J (λW=>rc T 12 (eD J (rc T 7 (lf T 0 J (ro T 5 ?_)))))
 cases H;exact p0 T J [0,0,0] J
def DL.f (h:eK):Option (Int×Int×Bool):=(DK.f h).bind λv1=>if(v1==0)=true then(some (0,0,false)) else(if(0<=(0:Int)/\(0:Int)<(List.length h.l:Int)) then(some ((rd h.l 0).key,(rd h.l 0).item,true)) else none)
theorem DL.c (H:DL.f h=some r) (pw:ak fA 359 h.l km kB q_):
 QU 241 [(pp fi)] [(cl fi 357 [(ll km h.l kB)]),q_] F (.tuple #[(ii r.1),(ii r.2.1),(bb r.2.2)]):=by
 unfold DL.f at H;refine aB Tryz.func241 J J (λW=>rc T 11 (k [0,0] J ac6 H (DK.c · pw) (λv1 H=>ro T 3 (cb J H (λH=>?_) (λH=>?_)))))
 ·refine rc T 9 ?_
  cases H;exact p0 T J [0,0,0] J
 refine rc T 3 (dA mix ay (aj T J (aj T J (aj T J (aO J J J (aw T J J J J (aF (j:=0) J J)) ?_)))));obtain⟨c3,H⟩:=az H;obtain⟨q3,o3,e3⟩:=pw.r.addr c3.1 c3.2;refine aO J J J (cn T J J J J J e3 c3.1 c3.2) (aj T J (aO J J J (aw T J J J J (e_ (k:=fA) (oO pw 1) e3 c3 0 J)) (aj T J (aj T J (aj T J (aO J J J (aw T J J J J (aF (j:=0) J J)) (aO J J J (cn T J J J J J e3 c3.1 c3.2) (aj T J (aO J J J (aw T J J J J (e_ (k:=fA) (oO pw 1) e3 c3 1 J)) (aj T J (aj T J (aj T J (cH (rx T 2 ?_))))))))))))))
 cases H;exact p0 T J [0,0,0] J
def jg.l1:Nat->List dG->Int->Int->Int->Option (Sum eK ((List dG)×Int))
 |0,_,_,_,_=>none
 |tQ+1,x3,x4,bg,bt=>(if bt<=(aa ((aa (2*x4))+2)) then(some (decide (bt<(List.length x3:Int)))) else(some false)).bind λbd=>if bd=true then(if(0<=bt/\bt<(List.length x3:Int)) then(if(0<=bg/\bg<(List.length x3:Int)) then((yx.f (rd x3 bt) (rd x3 bg)).bind λd_=>if d_=true then(jg.l1 tQ x3 x4 bt (aa (bt+1))) else(jg.l1 tQ x3 x4 bg (aa (bt+1)))) else none) else none) else(if(bg==x4)=true then(some (Sum.inl (eK.mk x3))) else(if(0<=bg/\bg<(List.length x3:Int)) then(if(0<=x4/\x4<(List.length x3:Int)) then(if(0<=bg/\bg<(List.length (List.set x3 (Int.toNat x4) (rd x3 bg)):Int)) then(some (Sum.inr ((List.set (List.set x3 (Int.toNat x4) (rd x3 bg)) (Int.toNat bg) (rd x3 x4)),bg))) else none) else none) else none))
def jg.l0:Nat->List dG->Int->Option eK
 |0,_,_=>none
 |k5+1,x3,x4=>(jg.l1 fuel x3 x4 x4 (aa ((aa (2*x4))+1))).bind λzz=>match zz with |Sum.inl q=>some q |Sum.inr (x6,x7)=>jg.l0 k5 x6 x7
def jg.f (h:eK):Option eK:=jg.l0 fuel h.l 0
def jg.R (fi:Nat) (r:eK) (u:Value) (G:List Hp):Prop:= ∃(a0:Option Addr) (n0:Nat) (H0:Hp),ak fA 359 r.l a0 n0 H0/\u=(.tuple #[])/\G=[(cl fi 357 [(ll a0 r.l n0)]),H0]
theorem jg.c (H:jg.f h=some r) (pw:ak fA 359 h.l km kB q_):
 QR 242 [(pp fi)] [(cl fi 357 [(ll km h.l kB)]),q_] [] F (jg.R fi r):=by
 unfold jg.f at H;refine aB Tryz.func242 J J (λW=>rc T 6 (lq [0] [2] (λ(⟨k5,x3,x4,a4,n4,H4⟩:Nat×List dG×Int×Option Addr×Nat×Hp)=>(jg.l0 k5 x3 x4=some r/\ak fA 359 x3 a4 n4 H4,[(2,(ii x4))],[(cl fi 357 [(ll a4 x3 n4)]),H4])) J J (fuel,h.l,0,km,kB,q_) [2,0,0] ⟨H,pw⟩ J J ?_));rintro k5 ⟨x3,x4,a4,n4,H4⟩ ⟨Z1,s4⟩;rw[jg.l0] at Z1;refine mn Z1 [0] [0] (λz8 (⟨x6,x7,a5,n5,H5⟩:List dG×Int×Option Addr×Nat×Hp)=>((Sum.inr (x6,x7))=z8/\ak fA 359 x6 a5 n5 H5,[(2,(ii x7))],[(cl fi 357 [(ll a5 x6 n5)]),H5])) J J (λz8 Z2 Z1=>?_) ?_
 ·refine rc T 17 (lq [0,2] [0,0,0] (λ(⟨tQ,bg,bt⟩:Nat×Int×Int)=>(jg.l1 tQ x3 x4 bg bt=some z8,[(3,(ii bg)),(4,(ii bt))],[])) J J (fuel,x4,(aa ((aa (2*x4))+1))) [0,0,0] Z2 J J ?_);rintro tQ ⟨bg,bt⟩ Z3;replace Z3:jg.l1 (tQ+1) x3 x4 bg bt=some z8:=Z3;rw[jg.l1] at Z3;refine rc T 1 (mq Z3 [0,2,3,4] [0,0,0] (λHU (bd:Bool)=>(bd=HU,[(22,(bb bd))],[])) J J (λHU Z4 _=>?_) ?_)
  ·refine rc T 7 (ad 14 J Z4 (λZ4=>?_) (λZ4=>?_))
   ·refine ro T 4 (lf T 1 J (ro T 5 (am _ [0,0,0] (oi Z4) J J)))
   refine ro T 10 (am _ [0,0,0] (oi Z4) J J)
  rintro _ bd rfl Z3;refine cb J Z3 (λZ3=>?_) (λZ3=>?_)
  ·refine rc T 5 (dA mix ay (aj T J (aj T J (aj T J (aO J J J (aw T J J J J (aF (j:=1) J J)) (aj T J ?_))))));obtain⟨c7,Z3⟩:=az Z3;obtain⟨q6,o6,e6⟩:=s4.r.addr c7.1 c7.2;refine aO J J J (cn T J J J J J e6 c7.1 c7.2) (aO J J J (fO T (cs:=[(ii (rd x3 bt).key),(ii (rd x3 bt).item)]) J J J J J J (hJ (k:=fA) (oO s4 2) e6 c7 J)) (aj T J (aj T J (aj T J (aO J J J (aw T J J J J (aF (j:=1) J J)) (aj T J ?_))))));obtain⟨c8,Z3⟩:=az Z3;refine aO J J J (cn T J J J J J e6 c8.1 c8.2) (aO J J J (fO T (cs:=[(ii (rd x3 bg).key),(ii (rd x3 bg).item)]) J J J J J J (hJ (k:=fA) (oO s4 2) e6 c8 J)) ?_);obtain⟨d_,V9,Z3⟩:=gj Z3;refine uF J J J J J J SQ J (yx.c V9) (cH (rx T 1 (cb J Z3 (λZ3=>?_) (λZ3=>?_))))
   ·refine rc T 12 (ar (_,_) [0,0,0] Z3 J J)
   refine rc T 9 (ar (_,_) [0,0,0] Z3 J J)
  refine rc T 13 (cb J Z3 (λZ3=>?_) (λZ3=>?_))
  ·refine rc T 6 ?_;obtain rfl:=Option.some.inj Z3;obtain rfl:=Option.some.inj (show some (eK.mk x3)=some r from Z1)
   exact p1 T J [1,1,0] ⟨a4,n4,H4,s4,J,J⟩ J
  refine rc T 3 (fz J (rz [25,27] mix (bO bN) (λhg pf=>ha T 25 [0,1,2] sz hg pf J (av 3 sz hg pf J (aw T J J J J (aF (j:=1) J J)) (ha T 20 [4,5,6,7] sz hg pf J (av 8 sz hg pf J (aw T J J J J (aF (j:=1) J J)) (ha T 15 [9,10,11,12] sz hg pf J (av 13 sz hg pf J (aw T J J J J (aF (j:=1) J J)) (ha T 13 [14] sz hg pf J ?_)))))))));obtain⟨gY,Z3⟩:=az Z3;obtain⟨q7,o7,e7⟩:=s4.r.addr gY.1 gY.2;refine av 15 sz hg pf J (cn T J J J J J e7 gY.1 gY.2) (av 16 sz hg pf J (fO T (cs:=[(ii (rd x3 bg).key),(ii (rd x3 bg).item)]) J J J J J J (hJ (k:=fA) (oO s4 2) e7 gY J)) (ha T 8 [17,18,19] sz hg pf J (av 20 sz hg pf J (aw T J J J J (aF (j:=1) J J)) (ha T 6 [21] sz hg pf J ?_))));obtain⟨je,Z3⟩:=az Z3;refine av 22 sz hg pf J (cn T J J J J J e7 je.1 je.2) (av 23 sz hg pf J (fO T (cs:=[(ii (rd x3 x4).key),(ii (rd x3 x4).item)]) J J J J J J (hJ (k:=fA) (oO s4 2) e7 je J)) (av 24 sz hg pf J (cn T J J J J J e7 je.1 je.2) (ao 25 (kK (k:=fA) T 2 0 (rd x3 bg) J J J J J J s4 e7 je J J J (λH8 s8=>kg [0,2,3,43,44,45,46,48,49,50,51,53,54,55,56,58,59,60,61,62,63,65,66,67,68] [0,1] [0,1,0] [(47,(ll a4 (List.set x3 (Int.toNat x4) (rd x3 bg)) n4)),(52,(ll a4 (List.set x3 (Int.toNat x4) (rd x3 bg)) n4)),(57,(ll a4 (List.set x3 (Int.toNat x4) (rd x3 bg)) n4)),(64,(ll a4 (List.set x3 (Int.toNat x4) (rd x3 bg)) n4))] [(cl fi 357 [(ll a4 (List.set x3 (Int.toNat x4) (rd x3 bg)) n4)])] J J ⟨(by first |rfl |(simp only[ll,List.length_set];rfl)),(by first |rfl |(simp only[ll,List.length_set];rfl)),(by first |rfl |(simp only[ll,List.length_set];rfl)),(by first |rfl |(simp only[ll,List.length_set];rfl)),trivial⟩ (by first |rfl |(simp only[ll,List.length_set];rfl)) (an sl (ao 26 ?_)))))))
  obtain⟨oL,Z3⟩:=az Z3;refine lv J (cn T J J J J J e7 oL.1 oL.2) (an sl (ao 27 (kK (k:=fA) T 1 0 (rd x3 x4) J J J J J J s8 e7 oL J J J (λH9 s9=>kg [0,2,3,43,44,45,46,48,49,50,51,53,54,55,56,58,59,60,61,62,63,65,66,67,68,69] [0,0] [0,0,0] [(47,(ll a4 (List.set (List.set x3 (Int.toNat x4) (rd x3 bg)) (Int.toNat bg) (rd x3 x4)) n4)),(52,(ll a4 (List.set (List.set x3 (Int.toNat x4) (rd x3 bg)) (Int.toNat bg) (rd x3 x4)) n4)),(57,(ll a4 (List.set (List.set x3 (Int.toNat x4) (rd x3 bg)) (Int.toNat bg) (rd x3 x4)) n4)),(64,(ll a4 (List.set (List.set x3 (Int.toNat x4) (rd x3 bg)) (Int.toNat bg) (rd x3 x4)) n4))] [(cl fi 357 [(ll a4 (List.set (List.set x3 (Int.toNat x4) (rd x3 bg)) (Int.toNat bg) (rd x3 x4)) n4)])] J J ⟨(by first |rfl |(simp only[ll,List.length_set];rfl)),(by first |rfl |(simp only[ll,List.length_set];rfl)),(by first |rfl |(simp only[ll,List.length_set];rfl)),(by first |rfl |(simp only[ll,List.length_set];rfl)),trivial⟩ (by first |rfl |(simp only[ll,List.length_set];rfl)) (an sl (ae (rx T 7 ?_)))))))
  exact am (_,_,_,_,_) [0,1,0] ⟨oi Z3,s9⟩ J J
 rintro _ ⟨x6,x7,a5,n5,H5⟩ ⟨rfl,s5⟩ Z1;refine rx T 1 (ar (_,_,_,_,_) [0,0,0] ⟨Z1,s5⟩ J J)
def nn.f (h:eK):Option (Int×Int×Bool×eK):=(DL.f h).bind λv1=>if v1.2.2=true then(if(0<=(aa ((List.length h.l:Int)-1))/\(aa ((List.length h.l:Int)-1))<(List.length h.l:Int)) then(if(0<=(0:Int)/\(0:Int)<(List.length h.l:Int)) then(if(0<=(0:Int)/\(0:Int)<=(aa ((List.length h.l:Int)-1))/\(aa ((List.length h.l:Int)-1))<=(List.length (List.set h.l (Int.toNat 0) (rd h.l (aa ((List.length h.l:Int)-1)))):Int)) then((jg.f (eK.mk (aA (List.set h.l (Int.toNat 0) (rd h.l (aa ((List.length h.l:Int)-1)))) 0 (aa ((List.length h.l:Int)-1))))).bind λv2=>some (v1.1,v1.2.1,v1.2.2,v2)) else none) else none) else none) else(some (v1.1,v1.2.1,v1.2.2,h))
def nn.R (fi:Nat) (r:(Int×Int×Bool×eK)) (u:Value) (G:List Hp):Prop:= ∃(a0:Option Addr) (n0:Nat) (H0:Hp),ak fA 359 r.2.2.2.l a0 n0 H0/\u=(.tuple #[(ii r.1),(ii r.2.1),(bb r.2.2.1)])/\G=[(cl fi 357 [(ll a0 r.2.2.2.l n0)]),H0]
theorem nn.c (H:nn.f h=some r) (pw:ak fA 359 h.l km kB q_):
 QR 218 [(pp fi)] [(cl fi 357 [(ll km h.l kB)]),q_] [] F (nn.R fi r):=by
 unfold nn.f at H;refine aB Tryz.func218 J J (λW=>rc T 10 (k [0,0] J acS H (DL.c · pw) (λv1 H=>ro T 15 (cb J H (λH=>?_) (λH=>?_)))))
 ·refine rc T 5 (lf T 0 J (ro T 6 (fz J (rz [12] mix (bO bN) (λhg pf=>ha T 10 [0,1,2] sz hg pf J (av 3 sz hg pf J (aw T J J J J (aF (j:=0) J J)) (ha T 6 [4,5,6] sz hg pf J (av 7 sz hg pf J (aw T J J J J (aF (j:=0) J J)) (ha T 4 [8] sz hg pf J ?_)))))))));obtain⟨c3,H⟩:=az H;obtain⟨q3,o3,e3⟩:=pw.r.addr c3.1 c3.2;refine av 9 sz hg pf J (cn T J J J J J e3 c3.1 c3.2) (av 10 sz hg pf J (fO T (cs:=[(ii (rd h.l (aa ((List.length h.l:Int)-1))).key),(ii (rd h.l (aa ((List.length h.l:Int)-1))).item)]) J J J J J J (hJ (k:=fA) (oO pw 1) e3 c3 J)) ?_);obtain⟨c4,H⟩:=az H;refine av 11 sz hg pf J (cn T J J J J J e3 c4.1 c4.2) (ao 12 (kK (k:=fA) T 1 0 (rd h.l (aa ((List.length h.l:Int)-1))) J J J J J J pw e3 c4 J J J (λH4 s4=>kg [0,2,3,4,5,19,20,21,23,24,25,27,28,29,30] [1,1] [1,1,0] [(22,(ll km (List.set h.l (Int.toNat 0) (rd h.l (aa ((List.length h.l:Int)-1)))) kB)),(26,(ll km (List.set h.l (Int.toNat 0) (rd h.l (aa ((List.length h.l:Int)-1)))) kB))] [(cl fi 357 [(ll km (List.set h.l (Int.toNat 0) (rd h.l (aa ((List.length h.l:Int)-1)))) kB)])] J J ⟨(by first |rfl |(simp only[ll,List.length_set];rfl)),(by first |rfl |(simp only[ll,List.length_set];rfl)),trivial⟩ (by first |rfl |(simp only[ll,List.length_set];rfl)) (an sl (ae (rx T 7 (lf T 2 J (ro T 1 ?_))))))))
  obtain⟨c5,H⟩:=az H;refine br J (kt T J J J J J J c5 s4.bV) (ro T 2 (sg T 2 J (ro T 4 (kr (jg.R fi) [] [2,0] J acT H (jg.c (h:=(eK.mk (aA (List.set h.l (Int.toNat 0) (rd h.l (aa ((List.length h.l:Int)-1)))) 0 (aa ((List.length h.l:Int)-1))))) · (ak.pre s4 c5)) (λv2 H=>?_)))));rintro _ _ ⟨a5,n5,H5,s5,rfl,rfl⟩;refine fz J (ro T 1 (ks [2,3,4] J (rx T 12 ?_)))
  cases H;exact p1 T J [1,1,0] ⟨a5,n5,H5,s5,J,J⟩ J
 refine rc T 13 ?_
 cases H;exact p1 T J [0,0,0] ⟨km,kB,q_,pw,J,J⟩ J
end
noncomputable section
def vC.f (ag:Int):Option (Option ez):=if((decide (ag<0))||(decide (ag>1099511627776)))=true then(some none) else(some (some (ez.mk ag 0 (List.replicate 256 (default:jO)))))
def vC.R (r:(Option ez)) (u:Value) (G:List Hp):Prop:= ∃(u0:Value) (G0:List Hp),Xn r u0 G0/\u=u0/\G=G0
theorem vC.c (H:vC.f ag=some r):
 QR 247 [(ii ag)] [] [] F (vC.R r):=by
 unfold vC.f at H;refine aB Tryz.func247 J J (λW=>rc T 11 (go T [3,4,5] 5 [0] 8 J J J J J J J (ro T 2 (cb J H (λH=>?_) (λH=>?_)))))
 ·refine rc T 7 ?_
  cases H;exact p1 T J [0] ⟨_,_,⟨J,J⟩,J,J⟩ J
 refine rc T 6 (aX (Ym (kd:=VK) T [(ii ag),(ii 0)] 256 (default:jO) [nl,(ii 0)] J J J J ⟨none,0,[],(ak.nil (k:=(Fl.int .i64)) (E:=3)),J,J⟩ (λb1 H1 s1=>ro T 4 ?_)))
 cases H;exact p1 T J [1,0] ⟨_,_,⟨b1,H1,(And.intro s1 (List.length_replicate ..)),J,J⟩,J,J⟩ J
def vD.f (ag:ez):Option Int:=some ag.len
theorem vD.c (H:vD.f ag=some r) (cF:kj ag aW cW):
 QU 274 [(pp aW)] [cW] F (ii r):=by
 unfold vD.f at H;refine aB Tryz.func274 J J (λW=>rc T 12 (eD J (rc T 7 (lg T J (Au (j:=0) J cF.1 J) (ro T 4 ?_)))))
 cases H;exact p0 T J [0,0] J
def xm.f (ag:ez) (key:Int):Option (Bool×ez):=(if ag.len>0 then(some true) else(some ((decide (key<ag.ba))||(decide (key>1099511627776))))).bind λx1=>if x1=true then(some (false,ag)) else(some (true,(ez.mk key ag.len ag.buckets)))
def xm.R (ng:Nat) (r:(Bool×ez)) (u:Value) (G:List Hp):Prop:= ∃(H0:Hp),kj r.2 ng H0/\u=(bb r.1)/\G=[H0]
theorem xm.c (H:xm.f ag key=some r) (cF:kj ag aW cW):
 QR 290 [(pp aW),(ii key)] [cW] [] F (xm.R aW r):=by
 unfold xm.f at H;refine aB Tryz.func290 J J (λW=>rc T 6 (mq H [0,1] [1,0] (λz2 (x1:Bool)=>(x1=z2,[(25,(bb x1))],[])) J J (λz2 Z1 _=>?_) ?_))
 ·refine rc T 7 (lg T J (Au (j:=0) J cF.1 J) (ro T 3 (ad 14 J Z1 (λZ1=>?_) (λZ1=>?_))))
  ·refine ro T 13 (am _ [1,0] (oi Z1) J J)
  refine ro T 4 (lg T J (Au (j:=0) J cF.1 J) (ro T 3 (go T [18,19,20] 22 [0,1] 25 J J J J J J J (ro T 2 (am _ [1,0] (oi Z1) J J)))))
 rintro _ x1 rfl H;refine cb J H (λH=>?_) (λH=>?_)
 ·refine rc T 7 ?_
  cases H;exact p1 T J [1,0] ⟨cW,cF,J,J⟩ J
 refine rc T 8 (aX (Iy T 1 [(ii key),(ii ag.len)] J J J J J J cF.1 J J J J (λH2 s2=>ro T 8 ?_)))
 cases H;exact p1 T J [1,0] ⟨H2,(And.intro s2 cF.2),J,J⟩ J
def y6.f (b:jO) (item:Int):Option jO:=if(List.length b.items+1<=1099511627776) then(some (jO.mk (b.items++[item]) b.gone)) else none
def y6.R (uG:Nat) (LL:TypeId) (LZ L0:List Value) (r:jO) (u:Value) (G:List Hp):Prop:= ∃(a0:Option Addr) (n0:Nat) (H0:Hp),ak (Fl.int .i64) 3 r.items a0 n0 H0/\u=(.tuple #[])/\G=[[(uG,Obj.cells (LZ++(([(ll a0 r.items n0),(ii r.gone)]:List Value)++L0)).toArray LL (0,0))],H0]
theorem y6.c (H:y6.f b item=some r) (zd:ak (Fl.int .i64) 3 b.items wm sH Bi):
 QR 302 [(.pointer (some ⟨uG,List.length Cw+0,none⟩)),(ii item)] [[(uG,Obj.cells (Cw++(([(ll wm b.items sH),(ii b.gone)]:List Value)++Kj)).toArray Il (0,0))],Bi] [] F (y6.R uG Il Cw Kj r):=by
 unfold y6.f at H;refine aB Tryz.func302 J J (λW=>rc T 5 (lg T J (B4 (j:=0) J 0 J) (ro T 1 (aX (cV (k:=(Fl.int .i64)) T [item] J J J J J J J J J (λa3 H3 s3=>?_))))));obtain⟨c1,H⟩:=az H;refine aX (dR (k:=(Fl.int .i64)) (xs:=b.items) T (g:=1) J J J J J J J J J J zd (oO s3 3) c1 J (λa4 n4 H4 s4=>ro T 2 (aX (IC T 0 0 [(ll a4 (b.items++[item]) n4),(ii b.gone)] J J J J J J J J J J ?_))));refine ro T 1 (jd ?_)
 cases H;exact p1 T J [0,0,0] ⟨a4,n4,H4,s4,J,J⟩ J
def sM.f (ag:ez) (key:Int) (item:Int):Option (Bool×ez):=(if key<ag.ba then(some true) else(some (decide ((aa (key-ag.ba))≥256)))).bind λx1=>if x1=true then(some (false,ag)) else(if(0<=(Int.tmod key 256)/\(Int.tmod key 256)<(List.length ag.buckets:Int)) then((y6.f (rd ag.buckets (Int.tmod key 256)) item).bind λv3=>some (true,(ez.mk ag.ba (aa (ag.len+1)) (List.set ag.buckets (Int.toNat (Int.tmod key 256)) v3)))) else none)
def sM.R (ng:Nat) (r:(Bool×ez)) (u:Value) (G:List Hp):Prop:= ∃(H0:Hp),kj r.2 ng H0/\u=(bb r.1)/\G=[H0]
theorem sM.c (H:sM.f ag key item=some r) (cF:kj ag aW cW):
 QR 291 [(pp aW),(ii key),(ii item)] [cW] [] F (sM.R aW r):=by
 unfold sM.f at H;refine aB Tryz.func291 J J (λW=>rc T 6 (mq H [0,1,2] [1,0] (λz2 (x1:Bool)=>(x1=z2,[(25,(bb x1))],[])) J J (λz2 Z1 _=>?_) ?_))
 ·refine rc T 8 (lg T J (Au (j:=0) J cF.1 J) (ro T 3 (ad 17 J Z1 (λZ1=>?_) (λZ1=>?_))))
  ·refine ro T 10 (am _ [1,0] (oi Z1) J J)
  refine ro T 4 (lg T J (Au (j:=0) J cF.1 J) (ro T 5 (am _ [1,0] (oi Z1) J J)))
 rintro _ x1 rfl H;refine cb J H (λH=>?_) (λH=>?_)
 ·refine rc T 7 ?_
  cases H;exact p1 T J [1,0] ⟨cW,cF,J,J⟩ J
 refine rc T 3 ?_;obtain⟨c4,H⟩:=az H;refine Lt (j:=1) J cF.1 c4 (λp2_ q2_ _ H3 _ o2_ WU=>?_);obtain⟨a5,n5,H5,s5,rfl,rfl⟩:=o2_;refine bP (As:=[H5]) 3 J (rc T 6 (br J (I1 T J J J J J (by rw[cF.2] at c4;exact c4) (by rw[wb.at WU];rfl)) (ro T 1 ?_)))
 refine kr (y6.R aW 396 p2_ q2_) [] [1,2] J adl H (y6.c · s5) (λv3 H=>?_);rintro _ _ ⟨a6,n6,H6,s6,rfl,rfl⟩;refine fz J (ro T 1 (gi [3] J (E_ (j:=2) (q1:=1) (q2:=3) v3 J WU J J J J J ⟨a6,n6,H6,s6,J,J⟩ (λH8 s8=>rx T 6 (lg T J (Au (j:=2) J s8 J) (ro T 3 (aX (Iy T 2 [(ii ag.ba),(ii (aa (ag.len+1)))] J J J J J J s8 J J J J (λH9 s9=>ro T 8 ?_)))))))))
 cases H;exact p1 T J [2,0] ⟨H9,(And.intro s9 (Kz cF.2)),J,J⟩ J
def xn.f (b:jO):Option Bool:=some (b.gone==(List.length b.items:Int))
theorem xn.c (H:xn.f b=some r) (zd:ak (Fl.int .i64) 3 b.items wm sH Bi):
 QU 292 [(.pointer (some ⟨uG,List.length Cw+0,none⟩))] [[(uG,Obj.cells (Cw++(([(ll wm b.items sH),(ii b.gone)]:List Value)++Kj)).toArray Il (0,0))],Bi] F (bb r):=by
 unfold xn.f at H;refine aB Tryz.func292 J J (λW=>rc T 6 (dA mix ay (aj T J (aj T J (aj T J (aO J J J (aw T J J J J (B4 (j:=0) J 1 J)) (aj T J (aj T J (aj T J (aO J J J (aw T J J J J (B4 (j:=0) J 0 J)) (aj T J (aj T J (aj T J (cH (rx T 2 ?_)))))))))))))))
 cases H;exact p0 T J [0,0,0] J
def rH.f (b:jO):Option (Int×jO):=if(0<=b.gone/\b.gone<(List.length b.items:Int)) then((xn.f (jO.mk b.items (aa (b.gone+1)))).bind λv1=>if v1=true then(if(0<=(0:Int)/\(0:Int)<=(0:Int)/\(0:Int)<=(List.length b.items:Int)) then(some ((rd b.items b.gone),(jO.mk (aA b.items 0 0) 0))) else none) else(some ((rd b.items b.gone),(jO.mk b.items (aa (b.gone+1)))))) else none
def rH.R (uG:Nat) (LL:TypeId) (LZ L0:List Value) (r:(Int×jO)) (u:Value) (G:List Hp):Prop:= ∃(a0:Option Addr) (n0:Nat) (H0:Hp),ak (Fl.int .i64) 3 r.2.items a0 n0 H0/\u=(ii r.1)/\G=[[(uG,Obj.cells (LZ++(([(ll a0 r.2.items n0),(ii r.2.gone)]:List Value)++L0)).toArray LL (0,0))],H0]
theorem rH.c (H:rH.f b=some r) (zd:ak (Fl.int .i64) 3 b.items wm sH Bi):
 QR 293 [(.pointer (some ⟨uG,List.length Cw+0,none⟩))] [[(uG,Obj.cells (Cw++(([(ll wm b.items sH),(ii b.gone)]:List Value)++Kj)).toArray Il (0,0))],Bi] [] F (rH.R uG Il Cw Kj r):=by
 unfold rH.f at H;refine aB Tryz.func293 J J (λW=>rc T 6 (dA mix ay (aj T J (aj T J (aj T J (aO J J J (aw T J J J J (B4 (j:=0) J 0 J)) (aj T J (aj T J (aj T J (aO J J J (aw T J J J J (B4 (j:=0) J 1 J)) ?_))))))))));obtain⟨c1,H⟩:=az H;obtain⟨q3,o3,e3⟩:=zd.r.addr c1.1 c1.2;refine aO J J J (cn T J J J J J e3 c1.1 c1.2) (aO J J J (aw T J J J J (e_ (k:=(Fl.int .i64)) (oO zd 1) e3 c1 0 J)) (aj T J (cH (rx T 6 (lg T J (B4 (j:=0) J 1 J) (ro T 3 (aX (IC T 0 1 [(ll wm b.items sH),(ii (aa (b.gone+1)))] J J J J J J J J J J ?_))))))));refine ro T 6 (k [0,0] J SV H (xn.c (b:=(jO.mk b.items (aa (b.gone+1)))) · zd) (λv1 H=>ro T 2 (cb J H (λH=>?_) (λH=>?_))))
 ·refine rc T 6 (lg T J (B4 (j:=0) J 0 J) ?_);obtain⟨c4,H⟩:=az H;refine br J (kt T J J J J J J c4 zd.bV) (ro T 2 (aX (IC T 0 0 [(ll (fU wm sH (Int.toNat 0) 1) (aA b.items 0 0) (sH-Int.toNat 0)),(ii (aa (b.gone+1)))] J J J J J J J J J J ?_)));refine ro T 2 (aX (IC T 0 1 [(ll (fU wm sH (Int.toNat 0) 1) (aA b.items 0 0) (sH-Int.toNat 0)),(ii 0)] J J J J J J J J J J ?_));refine ro T 9 ?_
  cases H;exact p1 T J [0,0,0] ⟨(fU wm sH (Int.toNat 0) 1),(sH-Int.toNat 0),Bi,(ak.pre zd c4),J,J⟩ J
 refine rc T 9 ?_
 cases H;exact p1 T J [0,0,0] ⟨wm,sH,Bi,zd,J,J⟩ J
def oq.l0:Nat->ez->Option ez
 |0,_=>none
 |k6+1,x5=>if(0<=(Int.tmod x5.ba 256)/\(Int.tmod x5.ba 256)<(List.length x5.buckets:Int)) then((xn.f (rd x5.buckets (Int.tmod x5.ba 256))).bind λv7=>if v7=true then(oq.l0 k6 (ez.mk (aa (x5.ba+1)) x5.len x5.buckets)) else(some x5)) else none
def oq.f (ag:ez):Option (Int×Int×Bool×ez):=(vD.f ag).bind λv1=>if(v1==0)=true then(some (0,0,false,ag)) else((oq.l0 fuel ag).bind λx2=>if(0<=(Int.tmod x2.ba 256)/\(Int.tmod x2.ba 256)<(List.length x2.buckets:Int)) then((rH.f (rd x2.buckets (Int.tmod x2.ba 256))).bind λv8=>some (x2.ba,v8.1,true,(ez.mk x2.ba (aa (x2.len-1)) (List.set x2.buckets (Int.toNat (Int.tmod x2.ba 256)) v8.2)))) else none)
def oq.R (ng:Nat) (r:(Int×Int×Bool×ez)) (u:Value) (G:List Hp):Prop:= ∃(H0:Hp),kj r.2.2.2 ng H0/\u=(.tuple #[(ii r.1),(ii r.2.1),(bb r.2.2.1)])/\G=[H0]
theorem oq.c (H:oq.f ag=some r) (cF:kj ag aW cW):
 QR 275 [(pp aW)] [cW] [] F (oq.R aW r):=by
 unfold oq.f at H;refine aB Tryz.func275 J J (λW=>rc T 11 (k [0] J MY H (vD.c · cF) (λv1 H=>ro T 3 (cb J H (λH=>?_) (λH=>?_)))))
 ·refine rc T 9 ?_
  cases H;exact p1 T J [0,0] ⟨cW,cF,J,J⟩ J
 refine rc T 2 (mq H [0] [1] (λz3 (⟨x2,H2⟩:ez×Hp)=>(x2=z3/\kj x2 aW H2,[],[H2])) J J (λz3 Z3 _=>?_) ?_)
 ·refine rc T 1 (lq [0] [1] (λ(⟨k6,x5,H4⟩:Nat×ez×Hp)=>(oq.l0 k6 x5=some z3/\kj x5 aW H4,[],[H4])) J J (fuel,ag,cW) [1,0] ⟨Z3,cF⟩ J J ?_);rintro k6 ⟨x5,H4⟩ ⟨Z4,s4⟩;rw[oq.l0] at Z4;refine rc T 2 ?_;obtain⟨c5,Z4⟩:=az Z4;refine Lt (j:=1) J s4.1 c5 (λp5_ q5_ _ H6 _ o5_ Pn=>?_);obtain⟨a8,n8,H8,s8,rfl,rfl⟩:=o5_;refine bP (As:=[H8]) 3 J (dA mix ay ?_)
  iterate 4 refine aj T J ?_
  refine aO J J J (aw T J J J J (DY (j:=1) J Pn J)) (aj T J (aj T J (aj T J (aO J J J (I1 T J J J J J (by rw[s4.2] at c5;exact c5) (by rw[wb.at Pn];rfl)) ?_))))
  obtain⟨v7,V6,Z4⟩:=gj Z4;refine wv [1,2] J J J J J J SV J (xn.c V6 s8) (cH (gi [3] J (Yn (j:=1) (q1:=2) (q2:=3) J Pn J J J J J ⟨a8,n8,H8,s8,J,J⟩ (λbX bS=>rx T 1 (cb J Z4 (λZ4=>?_) (λZ4=>?_))))))
  ·refine rc T 7 (lg T J (Au (j:=1) J bS J) (ro T 3 (aX (Iy T 1 [(ii (aa (x5.ba+1))),(ii x5.len)] J J J J J J bS J J J J (λcB cS=>ro T 3 (ar (_,_) [0,0] ⟨Z4,(And.intro cS s4.2)⟩ J J))))))
  refine rc T 5 (am (_,_) [0,0] ⟨oi Z4,(And.intro bS s4.2)⟩ J J)
 rintro _ ⟨x2,H2⟩ ⟨rfl,s2⟩ H;refine rc T 5 (lg T J (Au (j:=1) J s2.1 J) (ro T 3 (aX (Iy T 1 [(ii x2.ba),(ii (aa (x2.len-1)))] J J J J J J s2.1 J J J J (λdt dw=>ro T 3 ?_)))));obtain⟨c8,H⟩:=az H;refine Lt (j:=1) J dw c8 (λOj Oq _ fG _ af5 xM=>?_);obtain⟨jW,n16,fX,fR,rfl,rfl⟩:=af5;refine bP (As:=[fX]) 3 J (ks [0] J (fz J (rg [] [0,1] mix (bO bN) (λhg pf=>ha T 8 [0,1,2,4,5,6,7,10,11] (so [0,1]) hg pf J (gy 3 8 ?_ ?_)))))
 ·refine lv J (aw T J J J J (DY (j:=1) J xM J)) (an (so [0,1]) (ao 8 (lv J (aw T J J J J (DY (j:=1) J xM J)) (an (so [0,1]) (ha T 5 [9] (so [0,1]) hg pf J (av 12 (so [0,1]) hg pf J (I1 T J J J J J (by rw[s2.2] at c8;exact c8) (by rw[wb.at xM];rfl)) (ao 13 ?_)))))))
  refine kR (rH.R aW 396 Oj Oq) [] [1,2] J M0 H (rH.c · fR) (λv8 H=>?_);rintro _ _ ⟨a17,n17,ek,fq,rfl,rfl⟩;refine fz J (an (so [0,0]) (ha T 0 [14,15,16] (so [0,0]) hg pf J (ae (gi [3] J (E_ (j:=2) (q1:=1) (q2:=3) v8.2 J xM J J J J J ⟨a17,n17,ek,fq,J,J⟩ (λkJ gT=>rx T 2 ?_))))))
  cases H;exact p1 T J [2,0] ⟨kJ,(And.intro gT (Kz s2.2)),J,J⟩ J
 refine lv J (aw T J J J J (DY (j:=1) J xM J)) (an (so [0,1]) (ha T 6 [9] (so [0,1]) hg pf J (av 12 (so [0,1]) hg pf J (I1 T J J J J J (by rw[s2.2] at c8;exact c8) (by rw[wb.at xM];rfl)) ?_)))
 refine gy 3 13 ?_ ?_
 ·refine lv J (aw T J J J J (DY (j:=1) J xM J)) (an (so [0,1]) (ao 13 (kR (rH.R aW 396 Oj Oq) [] [1,2] J M0 H (rH.c · fR) (λv9 H=>?_))));rintro _ _ ⟨a20,n20,nU,lW,rfl,rfl⟩;refine fz J (an (so [0,0]) (ha T 0 [14,15,16] (so [0,0]) hg pf J (ae (gi [3] J (E_ (j:=2) (q1:=1) (q2:=3) v9.2 J xM J J J J J ⟨a20,n20,nU,lW,J,J⟩ (λmv iO=>rx T 2 ?_))))))
  cases H;exact p1 T J [2,0] ⟨mv,(And.intro iO (Kz s2.2)),J,J⟩ J
 refine kR (rH.R aW 396 Oj Oq) [] [1,2] J M0 H (rH.c · fR) (λv10 H=>?_);rintro _ _ ⟨a23,n23,jF,gU,rfl,rfl⟩;refine fz J (an (so [0,0]) (ao 3 (lv J (aw T J J J J (DY (j:=2) J xM J)) (an (so [0,0]) (ha T 0 [14,15,16] (so [0,0]) hg pf J (ae (gi [3] J (E_ (j:=2) (q1:=1) (q2:=3) v10.2 J xM J J J J J ⟨a23,n23,jF,gU,J,J⟩ (λgW jA=>rx T 2 ?_)))))))))
 cases H;exact p1 T J [2,0] ⟨gW,(And.intro jA (Kz s2.2)),J,J⟩ J
end
end Go.Proofs.YthodkonhneebbaaGreatDoor
