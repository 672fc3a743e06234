/- What the functions of some packages compute, each as a function of plain Lean, with its contract. No condition. -/
import Derived.Test.YthodkonhneebbaaGreatDoorKT
namespace Go.Proofs.YthodkonhneebbaaGreatDoor
open Go.Hx
set_option maxRecDepth 100000
set_option linter.unusedSimpArgs false
set_option linter.unusedVariables false
set_option maxHeartbeats 4000000
set_option autoImplicit true
set_option relaxedAutoImplicit true
noncomputable section
def vd.f:Option (Option eO):=some (some (eO.mk []))
def vd.R (r:(Option eO)) (u:Value) (G:List Hp):Prop:= ∃(u0:Value) (G0:List Hp),Xr r u0 G0/\u=u0/\G=G0
theorem vd.c (H:vd.f=some r):
 QR 213 [] [] [] F (vd.R r):=by
 unfold vd.f at H;refine aB Tryz.func213 J J (λW=>rc T 8 (nc T J (λb1=>ro T 4 ?_)))
 cases H;refine br (p1 T J [1,1,0] ⟨_,_,⟨b1,none,0,[],aj.nil,J,J⟩,J,J⟩ J)
def yG.f (ag:dC) (o:dC):Option Bool:=(if ag.key<o.key then(some true) else(if(ag.key==o.key)=true then(some (decide (ag.item<o.item))) else(some false))).bind λx1=>some x1
theorem yG.c (H:yG.f ag o=some r):
 QU 270 [(.agg #[(ii ag.key),(ii ag.item)]),(.agg #[(ii o.key),(ii o.item)])] [] F (bb r):=by
 unfold yG.f at H;refine aB Tryz.func270 J J (λW=>rc T 2 (nc T J (λb1=>nc T J (λb2=>ro T 3 (mq H [] [0] (λz2 (x1:Bool)=>(x1=z2,[(4,(bb x1))],[])) J J (λz2 Z1 _=>?_) ?_)))))
 ·refine rc T 2 (lf T 1 J (ro T 1 (lf T 2 J (ro T 2 (ad 10 J Z1 (λZ1=>?_) (λZ1=>?_))))))
  ·refine ro T 16 (am _ [0] (oi Z1) J J)
  refine ro T 1 (lf T 1 J (ro T 1 (lf T 2 J (ro T 2 (ab 16 J Z1 (λZ1=>?_) (λZ1=>?_))))))
  ·refine ro T 1 (lf T 1 J (ro T 1 (lf T 2 J (ro T 6 (am _ [0] (oi Z1) J J)))))
  refine ro T 10 (am _ [0] (oi Z1) J J)
 rintro _ x1 rfl H;refine rc T 1 ?_
 cases H;exact p0 T J [0] J
def oX.l0:Nat->List dC->Int->Option eO
 |0,_,_=>none
 |k5+1,x3,x4=>if x4>0 then(if(0<=x4/\x4<(List.length x3:Int)) then(if(0<=(aa (Int.tdiv (aa (x4-1)) 2))/\(aa (Int.tdiv (aa (x4-1)) 2))<(List.length x3:Int)) then((yG.f (rd x3 x4) (rd x3 (aa (Int.tdiv (aa (x4-1)) 2)))).bind λv6=>if(!v6)=true then(some (eO.mk x3)) else(if(0<=(aa (Int.tdiv (aa (x4-1)) 2))/\(aa (Int.tdiv (aa (x4-1)) 2))<(List.length (List.set x3 (Int.toNat x4) (rd x3 (aa (Int.tdiv (aa (x4-1)) 2)))):Int)) then(oX.l0 k5 (List.set (List.set x3 (Int.toNat x4) (rd x3 (aa (Int.tdiv (aa (x4-1)) 2)))) (Int.toNat (aa (Int.tdiv (aa (x4-1)) 2))) (rd x3 x4)) (aa (Int.tdiv (aa (x4-1)) 2))) else none)) else none) else none) else(some (eO.mk x3))
def oX.f (h:eO):Option eO:=oX.l0 fuel h.l (aa ((List.length h.l:Int)-1))
def oX.R (fj:Nat) (r:eO) (u:Value) (G:List Hp):Prop:= ∃(a0:Option Addr) (n0:Nat) (H0:Hp),aj fB 359 r.l a0 n0 H0/\u=(.tuple #[])/\G=[(cl fj 357 [(ll a0 r.l n0)]),H0]
theorem oX.c (H:oX.f h=some r) (pq:aj fB 359 h.l ka ku q_):
 QR 240 [(pp fj)] [(cl fj 357 [(ll ka h.l ku)]),q_] [] F (oX.R fj r):=by
 unfold oX.f at H;refine aB Tryz.func240 J J (λW=>rc T 5 (lf T 0 J (ro T 6 (lq [0] [2] (λ(⟨k5,x3,x4,a4,n4,H4⟩:Nat×List dC×Int×Option Addr×Nat×Hp)=>(oX.l0 k5 x3 x4=some r/\aj fB 359 x3 a4 n4 H4,[(2,(ii x4))],[(cl fj 357 [(ll a4 x3 n4)]),H4])) J J (fuel,h.l,(aa ((List.length h.l:Int)-1)),ka,ku,q_) [2,0,0] ⟨H,pq⟩ J J ?_))));rintro k5 ⟨x3,x4,a4,n4,H4⟩ ⟨Z1,s4⟩;rw[oX.l0] at Z1;refine rc T 7 (cd J Z1 (λZ1=>?_) (λZ1=>?_))
 ·refine rc T 13 (dj mix ay (au T J (au T J (au T J (aN J J J (aw T J J J J (aD (j:=1) J J)) (au T J ?_))))));obtain⟨c3,Z1⟩:=az Z1;obtain⟨q5,o5,e5⟩:=s4.r.addr c3.1 c3.2;refine aN J J J (cB T J J J J J e5 c3.1 c3.2) (aN J J J (fm T (cs:=[(ii (rd x3 x4).key),(ii (rd x3 x4).item)]) J J J J J J (gB (k:=fB) (oO s4 2) e5 c3 J)) (au T J (au T J (au T J (aN J J J (aw T J J J J (aD (j:=1) J J)) (au T J ?_))))));obtain⟨c4,Z1⟩:=az Z1;refine aN J J J (cB T J J J J J e5 c4.1 c4.2) (aN J J J (fm T (cs:=[(ii (rd x3 (aa (Int.tdiv (aa (x4-1)) 2))).key),(ii (rd x3 (aa (Int.tdiv (aa (x4-1)) 2))).item)]) J J J J J J (gB (k:=fB) (oO s4 2) e5 c4 J)) ?_);obtain⟨v6,V5,Z1⟩:=fY Z1;refine tF J J J J J J SR J (yG.c V5) (au T J (cR (rx T 1 (cb J Z1 (λZ1=>?_) (λZ1=>?_)))))
  ·refine rc T 5 ?_
   cases Z1;exact p1 T J [1,1,0] ⟨a4,n4,H4,s4,J,J⟩ J
  refine rc T 3 (fz J (rz [25,27] mix (bO bN) (λhg pf=>ha T 25 [0,1,2] sz hg pf J (av 3 sz hg pf J (aw T J J J J (aD (j:=1) J J)) (ha T 20 [4,5,6,7] sz hg pf J (av 8 sz hg pf J (aw T J J J J (aD (j:=1) J J)) (ha T 15 [9,10,11,12] sz hg pf J (av 13 sz hg pf J (aw T J J J J (aD (j:=1) J J)) (ha T 13 [14] sz hg pf J (av 15 sz hg pf J (cB T J J J J J e5 c4.1 c4.2) (av 16 sz hg pf J (fm T (cs:=[(ii (rd x3 (aa (Int.tdiv (aa (x4-1)) 2))).key),(ii (rd x3 (aa (Int.tdiv (aa (x4-1)) 2))).item)]) J J J J J J (gB (k:=fB) (oO s4 2) e5 c4 J)) (ha T 8 [17,18,19] sz hg pf J (av 20 sz hg pf J (aw T J J J J (aD (j:=1) J J)) (ha T 6 [21] sz hg pf J (av 22 sz hg pf J (cB T J J J J J e5 c3.1 c3.2) (av 23 sz hg pf J (fm T (cs:=[(ii (rd x3 x4).key),(ii (rd x3 x4).item)]) J J J J J J (gB (k:=fB) (oO s4 2) e5 c3 J)) (av 24 sz hg pf J (cB T J J J J J e5 c3.1 c3.2) (ao 25 (kI (k:=fB) T 2 0 (rd x3 (aa (Int.tdiv (aa (x4-1)) 2))) J J J J J J s4 e5 c3 J J J (λH6 s6=>kg [0,2,3,30,31,32,33,35,36,37,38,40,41,42,43,45,46,47,48,49,50,52,53,54,55] [0,1] [0,1,0] [(34,(ll a4 (List.set x3 (Int.toNat x4) (rd x3 (aa (Int.tdiv (aa (x4-1)) 2)))) n4)),(39,(ll a4 (List.set x3 (Int.toNat x4) (rd x3 (aa (Int.tdiv (aa (x4-1)) 2)))) n4)),(44,(ll a4 (List.set x3 (Int.toNat x4) (rd x3 (aa (Int.tdiv (aa (x4-1)) 2)))) n4)),(51,(ll a4 (List.set x3 (Int.toNat x4) (rd x3 (aa (Int.tdiv (aa (x4-1)) 2)))) n4))] [(cl fj 357 [(ll a4 (List.set x3 (Int.toNat x4) (rd x3 (aa (Int.tdiv (aa (x4-1)) 2)))) n4)])] J J ⟨(by first |rfl |(simp only[ll,List.length_set];rfl)),(by first |rfl |(simp only[ll,List.length_set];rfl)),(by first |rfl |(simp only[ll,List.length_set];rfl)),(by first |rfl |(simp only[ll,List.length_set];rfl)),trivial⟩ (by first |rfl |(simp only[ll,List.length_set];rfl)) (an sl (ao 26 ?_))))))))))))))))))))))
  obtain⟨c7,Z1⟩:=az Z1;refine lv J (cB T J J J J J e5 c7.1 c7.2) (an sl (ao 27 (kI (k:=fB) T 1 0 (rd x3 x4) J J J J J J s6 e5 c7 J J J (λH7 s7=>kg [0,2,3,30,31,32,33,35,36,37,38,40,41,42,43,45,46,47,48,49,50,52,53,54,55,56] [0,0] [0,0,0] [(34,(ll a4 (List.set (List.set x3 (Int.toNat x4) (rd x3 (aa (Int.tdiv (aa (x4-1)) 2)))) (Int.toNat (aa (Int.tdiv (aa (x4-1)) 2))) (rd x3 x4)) n4)),(39,(ll a4 (List.set (List.set x3 (Int.toNat x4) (rd x3 (aa (Int.tdiv (aa (x4-1)) 2)))) (Int.toNat (aa (Int.tdiv (aa (x4-1)) 2))) (rd x3 x4)) n4)),(44,(ll a4 (List.set (List.set x3 (Int.toNat x4) (rd x3 (aa (Int.tdiv (aa (x4-1)) 2)))) (Int.toNat (aa (Int.tdiv (aa (x4-1)) 2))) (rd x3 x4)) n4)),(51,(ll a4 (List.set (List.set x3 (Int.toNat x4) (rd x3 (aa (Int.tdiv (aa (x4-1)) 2)))) (Int.toNat (aa (Int.tdiv (aa (x4-1)) 2))) (rd x3 x4)) n4))] [(cl fj 357 [(ll a4 (List.set (List.set x3 (Int.toNat x4) (rd x3 (aa (Int.tdiv (aa (x4-1)) 2)))) (Int.toNat (aa (Int.tdiv (aa (x4-1)) 2))) (rd x3 x4)) n4)])] J J ⟨(by first |rfl |(simp only[ll,List.length_set];rfl)),(by first |rfl |(simp only[ll,List.length_set];rfl)),(by first |rfl |(simp only[ll,List.length_set];rfl)),(by first |rfl |(simp only[ll,List.length_set];rfl)),trivial⟩ (by first |rfl |(simp only[ll,List.length_set];rfl)) (an sl (ae (rx T 7 ?_)))))))
  exact ar (_,_,_,_,_) [0,1,0] ⟨Z1,s7⟩ J J
 refine rc T 4 (i_ ?_)
 cases Z1;exact p1 T J [1,1,0] ⟨a4,n4,H4,s4,J,J⟩ J
def nk.f (h:eO) (key:Int) (item:Int):Option eO:=if(List.length h.l+1<=1099511627776) then((oX.f (eO.mk (h.l++[(dC.mk key item)]))).bind λv1=>some v1) else none
def nk.R (fj:Nat) (r:eO) (u:Value) (G:List Hp):Prop:= ∃(a0:Option Addr) (n0:Nat) (H0:Hp),aj fB 359 r.l a0 n0 H0/\u=(.tuple #[])/\G=[(cl fj 357 [(ll a0 r.l n0)]),H0]
theorem nk.c (H:nk.f h key item=some r) (pq:aj fB 359 h.l ka ku q_):
 QR 217 [(pp fj),(ii key),(ii item)] [(cl fj 357 [(ll ka h.l ku)]),q_] [] F (nk.R fj r):=by
 unfold nk.f at H;refine aB Tryz.func217 J J (λW=>rc T 7 (dW J (rc T 8 (lf T 0 J (ro T 3 (aW (cU (k:=fB) T [(dC.mk key item)] J J J J J J J J J (λa3 H3 s3=>?_))))))));obtain⟨c1,H⟩:=az H;refine aW (dM (k:=fB) (xs:=h.l) T (g:=1) J J J J J J J J J J pq (oO s3 3) c1 J (λa4 n4 H4 s4=>ro T 2 (sg T 0 J (ro T 4 (kr (oX.R fj) [] [0,0] J acW H (oX.c (h:=(eO.mk (h.l++[(dC.mk key item)]))) · s4) (λv1 H=>?_))))));rintro _ _ ⟨a5,n5,H5,s5,rfl,rfl⟩;refine fz J (ro T 1 (i_ ?_))
 cases H;exact p1 T J [2,2,0] ⟨a5,n5,H5,s5,J,J⟩ J
def DN.f (h:eO):Option Int:=some (List.length h.l:Int)
theorem DN.c (H:DN.f h=some r) (pq:aj fB 359 h.l ka ku q_):
 QU 271 [(pp fj)] [(cl fj 357 [(ll ka h.l ku)]),q_] F (ii r):=by
 unfold DN.f at H;refine aB Tryz.func271 J J (λW=>rc T 12 (dW J (rc T 7 (lf T 0 J (ro T 5 ?_)))))
 cases H;exact p0 T J [0,0,0] J
def DO.f (h:eO):Option (Int×Int×Bool):=(DN.f h).bind λv1=>if(v1==0)=true then(some (0,0,false)) else(if(0<=(0:Int)/\(0:Int)<(List.length h.l:Int)) then(some ((rd h.l 0).key,(rd h.l 0).item,true)) else none)
theorem DO.c (H:DO.f h=some r) (pq:aj fB 359 h.l ka ku q_):
 QU 241 [(pp fj)] [(cl fj 357 [(ll ka h.l ku)]),q_] F (.tuple #[(ii r.1),(ii r.2.1),(bb r.2.2)]):=by
 unfold DO.f at H;refine aB Tryz.func241 J J (λW=>rc T 11 (k [0,0] J ac' H (DN.c · pq) (λv1 H=>ro T 3 (cb J H (λH=>?_) (λH=>?_)))))
 ·refine rc T 9 ?_
  cases H;exact p0 T J [0,0,0] J
 refine rc T 3 (dj mix ay (au T J (au T J (au T J (aN J J J (aw T J J J J (aD (j:=0) J J)) ?_)))));obtain⟨c3,H⟩:=az H;obtain⟨q3,o3,e3⟩:=pq.r.addr c3.1 c3.2;refine aN J J J (cB T J J J J J e3 c3.1 c3.2) (au T J (aN J J J (aw T J J J J (gM (k:=fB) (oO pq 1) e3 c3 0 J)) (au T J (au T J (au T J (aN J J J (aw T J J J J (aD (j:=0) J J)) (aN J J J (cB T J J J J J e3 c3.1 c3.2) (au T J (aN J J J (aw T J J J J (gM (k:=fB) (oO pq 1) e3 c3 1 J)) (au T J (au T J (au T J (cR (rx T 2 ?_))))))))))))))
 cases H;exact p0 T J [0,0,0] J
def jf.l1:Nat->List dC->Int->Int->Int->Option (Sum eO ((List dC)×Int))
 |0,_,_,_,_=>none
 |tZ+1,x3,x4,bf,bq=>(if bq<=(aa ((aa (2*x4))+2)) then(some (decide (bq<(List.length x3:Int)))) else(some false)).bind λbc=>if bc=true then(if(0<=bq/\bq<(List.length x3:Int)) then(if(0<=bf/\bf<(List.length x3:Int)) then((yG.f (rd x3 bq) (rd x3 bf)).bind λdU=>if dU=true then(jf.l1 tZ x3 x4 bq (aa (bq+1))) else(jf.l1 tZ x3 x4 bf (aa (bq+1)))) else none) else none) else(if(bf==x4)=true then(some (Sum.inl (eO.mk x3))) else(if(0<=bf/\bf<(List.length x3:Int)) then(if(0<=x4/\x4<(List.length x3:Int)) then(if(0<=bf/\bf<(List.length (List.set x3 (Int.toNat x4) (rd x3 bf)):Int)) then(some (Sum.inr ((List.set (List.set x3 (Int.toNat x4) (rd x3 bf)) (Int.toNat bf) (rd x3 x4)),bf))) else none) else none) else none))
def jf.l0:Nat->List dC->Int->Option eO
 |0,_,_=>none
 |k5+1,x3,x4=>(jf.l1 fuel x3 x4 x4 (aa ((aa (2*x4))+1))).bind λzz=>match zz with |Sum.inl q=>some q |Sum.inr (x6,x7)=>jf.l0 k5 x6 x7
def jf.f (h:eO):Option eO:=jf.l0 fuel h.l 0
def jf.R (fj:Nat) (r:eO) (u:Value) (G:List Hp):Prop:= ∃(a0:Option Addr) (n0:Nat) (H0:Hp),aj fB 359 r.l a0 n0 H0/\u=(.tuple #[])/\G=[(cl fj 357 [(ll a0 r.l n0)]),H0]
theorem jf.c (H:jf.f h=some r) (pq:aj fB 359 h.l ka ku q_):
 QR 242 [(pp fj)] [(cl fj 357 [(ll ka h.l ku)]),q_] [] F (jf.R fj r):=by
 unfold jf.f at H;refine aB Tryz.func242 J J (λW=>rc T 6 (lq [0] [2] (λ(⟨k5,x3,x4,a4,n4,H4⟩:Nat×List dC×Int×Option Addr×Nat×Hp)=>(jf.l0 k5 x3 x4=some r/\aj fB 359 x3 a4 n4 H4,[(2,(ii x4))],[(cl fj 357 [(ll a4 x3 n4)]),H4])) J J (fuel,h.l,0,ka,ku,q_) [2,0,0] ⟨H,pq⟩ J J ?_));rintro k5 ⟨x3,x4,a4,n4,H4⟩ ⟨Z1,s4⟩;rw[jf.l0] at Z1;refine mn Z1 [0] [0] (λz8 (⟨x6,x7,a5,n5,H5⟩:List dC×Int×Option Addr×Nat×Hp)=>((Sum.inr (x6,x7))=z8/\aj fB 359 x6 a5 n5 H5,[(2,(ii x7))],[(cl fj 357 [(ll a5 x6 n5)]),H5])) J J (λz8 Z2 Z1=>?_) ?_
 ·refine rc T 17 (lq [0,2] [0,0,0] (λ(⟨tZ,bf,bq⟩:Nat×Int×Int)=>(jf.l1 tZ x3 x4 bf bq=some z8,[(3,(ii bf)),(4,(ii bq))],[])) J J (fuel,x4,(aa ((aa (2*x4))+1))) [0,0,0] Z2 J J ?_);rintro tZ ⟨bf,bq⟩ Z3;replace Z3:jf.l1 (tZ+1) x3 x4 bf bq=some z8:=Z3;rw[jf.l1] at Z3;refine rc T 1 (mq Z3 [0,2,3,4] [0,0,0] (λH_ (bc:Bool)=>(bc=H_,[(22,(bb bc))],[])) J J (λH_ Z4 _=>?_) ?_)
  ·refine rc T 7 (ad 14 J Z4 (λZ4=>?_) (λZ4=>?_))
   ·refine ro T 4 (lf T 1 J (ro T 5 (am _ [0,0,0] (oi Z4) J J)))
   refine ro T 10 (am _ [0,0,0] (oi Z4) J J)
  rintro _ bc rfl Z3;refine cb J Z3 (λZ3=>?_) (λZ3=>?_)
  ·refine rc T 5 (dj mix ay (au T J (au T J (au T J (aN J J J (aw T J J J J (aD (j:=1) J J)) (au T J ?_))))));obtain⟨c7,Z3⟩:=az Z3;obtain⟨q6,o6,e6⟩:=s4.r.addr c7.1 c7.2;refine aN J J J (cB T J J J J J e6 c7.1 c7.2) (aN J J J (fm T (cs:=[(ii (rd x3 bq).key),(ii (rd x3 bq).item)]) J J J J J J (gB (k:=fB) (oO s4 2) e6 c7 J)) (au T J (au T J (au T J (aN J J J (aw T J J J J (aD (j:=1) J J)) (au T J ?_))))));obtain⟨c8,Z3⟩:=az Z3;refine aN J J J (cB T J J J J J e6 c8.1 c8.2) (aN J J J (fm T (cs:=[(ii (rd x3 bf).key),(ii (rd x3 bf).item)]) J J J J J J (gB (k:=fB) (oO s4 2) e6 c8 J)) ?_);obtain⟨dU,V9,Z3⟩:=fY Z3;refine tF J J J J J J SR J (yG.c V9) (cR (rx T 1 (cb J Z3 (λZ3=>?_) (λZ3=>?_))))
   ·refine rc T 12 (ar (_,_) [0,0,0] Z3 J J)
   refine rc T 9 (ar (_,_) [0,0,0] Z3 J J)
  refine rc T 13 (cb J Z3 (λZ3=>?_) (λZ3=>?_))
  ·refine rc T 6 ?_;obtain rfl:=Option.some.inj Z3;obtain rfl:=Option.some.inj (show some (eO.mk x3)=some r from Z1)
   exact p1 T J [1,1,0] ⟨a4,n4,H4,s4,J,J⟩ J
  refine rc T 3 (fz J (rz [25,27] mix (bO bN) (λhg pf=>ha T 25 [0,1,2] sz hg pf J (av 3 sz hg pf J (aw T J J J J (aD (j:=1) J J)) (ha T 20 [4,5,6,7] sz hg pf J (av 8 sz hg pf J (aw T J J J J (aD (j:=1) J J)) (ha T 15 [9,10,11,12] sz hg pf J (av 13 sz hg pf J (aw T J J J J (aD (j:=1) J J)) (ha T 13 [14] sz hg pf J ?_)))))))));obtain⟨gY,Z3⟩:=az Z3;obtain⟨q7,o7,e7⟩:=s4.r.addr gY.1 gY.2;refine av 15 sz hg pf J (cB T J J J J J e7 gY.1 gY.2) (av 16 sz hg pf J (fm T (cs:=[(ii (rd x3 bf).key),(ii (rd x3 bf).item)]) J J J J J J (gB (k:=fB) (oO s4 2) e7 gY J)) (ha T 8 [17,18,19] sz hg pf J (av 20 sz hg pf J (aw T J J J J (aD (j:=1) J J)) (ha T 6 [21] sz hg pf J ?_))));obtain⟨ja,Z3⟩:=az Z3;refine av 22 sz hg pf J (cB T J J J J J e7 ja.1 ja.2) (av 23 sz hg pf J (fm T (cs:=[(ii (rd x3 x4).key),(ii (rd x3 x4).item)]) J J J J J J (gB (k:=fB) (oO s4 2) e7 ja J)) (av 24 sz hg pf J (cB T J J J J J e7 ja.1 ja.2) (ao 25 (kI (k:=fB) T 2 0 (rd x3 bf) J J J J J J s4 e7 ja J J J (λH8 s8=>kg [0,2,3,43,44,45,46,48,49,50,51,53,54,55,56,58,59,60,61,62,63,65,66,67,68] [0,1] [0,1,0] [(47,(ll a4 (List.set x3 (Int.toNat x4) (rd x3 bf)) n4)),(52,(ll a4 (List.set x3 (Int.toNat x4) (rd x3 bf)) n4)),(57,(ll a4 (List.set x3 (Int.toNat x4) (rd x3 bf)) n4)),(64,(ll a4 (List.set x3 (Int.toNat x4) (rd x3 bf)) n4))] [(cl fj 357 [(ll a4 (List.set x3 (Int.toNat x4) (rd x3 bf)) n4)])] J J ⟨(by first |rfl |(simp only[ll,List.length_set];rfl)),(by first |rfl |(simp only[ll,List.length_set];rfl)),(by first |rfl |(simp only[ll,List.length_set];rfl)),(by first |rfl |(simp only[ll,List.length_set];rfl)),trivial⟩ (by first |rfl |(simp only[ll,List.length_set];rfl)) (an sl (ao 26 ?_)))))))
  obtain⟨oJ,Z3⟩:=az Z3;refine lv J (cB T J J J J J e7 oJ.1 oJ.2) (an sl (ao 27 (kI (k:=fB) T 1 0 (rd x3 x4) J J J J J J s8 e7 oJ J J J (λH9 s9=>kg [0,2,3,43,44,45,46,48,49,50,51,53,54,55,56,58,59,60,61,62,63,65,66,67,68,69] [0,0] [0,0,0] [(47,(ll a4 (List.set (List.set x3 (Int.toNat x4) (rd x3 bf)) (Int.toNat bf) (rd x3 x4)) n4)),(52,(ll a4 (List.set (List.set x3 (Int.toNat x4) (rd x3 bf)) (Int.toNat bf) (rd x3 x4)) n4)),(57,(ll a4 (List.set (List.set x3 (Int.toNat x4) (rd x3 bf)) (Int.toNat bf) (rd x3 x4)) n4)),(64,(ll a4 (List.set (List.set x3 (Int.toNat x4) (rd x3 bf)) (Int.toNat bf) (rd x3 x4)) n4))] [(cl fj 357 [(ll a4 (List.set (List.set x3 (Int.toNat x4) (rd x3 bf)) (Int.toNat bf) (rd x3 x4)) n4)])] J J ⟨(by first |rfl |(simp only[ll,List.length_set];rfl)),(by first |rfl |(simp only[ll,List.length_set];rfl)),(by first |rfl |(simp only[ll,List.length_set];rfl)),(by first |rfl |(simp only[ll,List.length_set];rfl)),trivial⟩ (by first |rfl |(simp only[ll,List.length_set];rfl)) (an sl (ae (rx T 7 ?_)))))))
  exact am (_,_,_,_,_) [0,1,0] ⟨oi Z3,s9⟩ J J
 rintro _ ⟨x6,x7,a5,n5,H5⟩ ⟨rfl,s5⟩ Z1;refine rx T 1 (ar (_,_,_,_,_) [0,0,0] ⟨Z1,s5⟩ J J)
def nj.f (h:eO):Option (Int×Int×Bool×eO):=(DO.f h).bind λv1=>if v1.2.2=true then(if(0<=(aa ((List.length h.l:Int)-1))/\(aa ((List.length h.l:Int)-1))<(List.length h.l:Int)) then(if(0<=(0:Int)/\(0:Int)<(List.length h.l:Int)) then(if(0<=(0:Int)/\(0:Int)<=(aa ((List.length h.l:Int)-1))/\(aa ((List.length h.l:Int)-1))<=(List.length (List.set h.l (Int.toNat 0) (rd h.l (aa ((List.length h.l:Int)-1)))):Int)) then((jf.f (eO.mk (aA (List.set h.l (Int.toNat 0) (rd h.l (aa ((List.length h.l:Int)-1)))) 0 (aa ((List.length h.l:Int)-1))))).bind λv2=>some (v1.1,v1.2.1,v1.2.2,v2)) else none) else none) else none) else(some (v1.1,v1.2.1,v1.2.2,h))
def nj.R (fj:Nat) (r:(Int×Int×Bool×eO)) (u:Value) (G:List Hp):Prop:= ∃(a0:Option Addr) (n0:Nat) (H0:Hp),aj fB 359 r.2.2.2.l a0 n0 H0/\u=(.tuple #[(ii r.1),(ii r.2.1),(bb r.2.2.1)])/\G=[(cl fj 357 [(ll a0 r.2.2.2.l n0)]),H0]
theorem nj.c (H:nj.f h=some r) (pq:aj fB 359 h.l ka ku q_):
 QR 218 [(pp fj)] [(cl fj 357 [(ll ka h.l ku)]),q_] [] F (nj.R fj r):=by
 unfold nj.f at H;refine aB Tryz.func218 J J (λW=>rc T 10 (k [0,0] J acX H (DO.c · pq) (λv1 H=>ro T 15 (cb J H (λH=>?_) (λH=>?_)))))
 ·refine rc T 5 (lf T 0 J (ro T 6 (fz J (rz [12] mix (bO bN) (λhg pf=>ha T 10 [0,1,2] sz hg pf J (av 3 sz hg pf J (aw T J J J J (aD (j:=0) J J)) (ha T 6 [4,5,6] sz hg pf J (av 7 sz hg pf J (aw T J J J J (aD (j:=0) J J)) (ha T 4 [8] sz hg pf J ?_)))))))));obtain⟨c3,H⟩:=az H;obtain⟨q3,o3,e3⟩:=pq.r.addr c3.1 c3.2;refine av 9 sz hg pf J (cB T J J J J J e3 c3.1 c3.2) (av 10 sz hg pf J (fm T (cs:=[(ii (rd h.l (aa ((List.length h.l:Int)-1))).key),(ii (rd h.l (aa ((List.length h.l:Int)-1))).item)]) J J J J J J (gB (k:=fB) (oO pq 1) e3 c3 J)) ?_);obtain⟨c4,H⟩:=az H;refine av 11 sz hg pf J (cB T J J J J J e3 c4.1 c4.2) (ao 12 (kI (k:=fB) T 1 0 (rd h.l (aa ((List.length h.l:Int)-1))) J J J J J J pq e3 c4 J J J (λH4 s4=>kg [0,2,3,4,5,19,20,21,23,24,25,27,28,29,30] [1,1] [1,1,0] [(22,(ll ka (List.set h.l (Int.toNat 0) (rd h.l (aa ((List.length h.l:Int)-1)))) ku)),(26,(ll ka (List.set h.l (Int.toNat 0) (rd h.l (aa ((List.length h.l:Int)-1)))) ku))] [(cl fj 357 [(ll ka (List.set h.l (Int.toNat 0) (rd h.l (aa ((List.length h.l:Int)-1)))) ku)])] J J ⟨(by first |rfl |(simp only[ll,List.length_set];rfl)),(by first |rfl |(simp only[ll,List.length_set];rfl)),trivial⟩ (by first |rfl |(simp only[ll,List.length_set];rfl)) (an sl (ae (rx T 7 (lf T 2 J (ro T 1 ?_))))))))
  obtain⟨c5,H⟩:=az H;refine bp J (kn T J J J J J J c5 s4.bW) (ro T 2 (sg T 2 J (ro T 4 (kr (jf.R fj) [] [2,0] J acY H (jf.c (h:=(eO.mk (aA (List.set h.l (Int.toNat 0) (rd h.l (aa ((List.length h.l:Int)-1)))) 0 (aa ((List.length h.l:Int)-1))))) · (aj.pre s4 c5)) (λv2 H=>?_)))));rintro _ _ ⟨a5,n5,H5,s5,rfl,rfl⟩;refine fz J (ro T 1 (ks [2,3,4] J (rx T 12 ?_)))
  cases H;exact p1 T J [1,1,0] ⟨a5,n5,H5,s5,J,J⟩ J
 refine rc T 13 ?_
 cases H;exact p1 T J [0,0,0] ⟨ka,ku,q_,pq,J,J⟩ J
end
noncomputable section
def vI.f (ag:Int):Option (Option eB):=if((decide (ag<0))||(decide (ag>1099511627776)))=true then(some none) else(some (some (eB.mk ag 0 (List.replicate 256 (default:jM)))))
def vI.R (r:(Option eB)) (u:Value) (G:List Hp):Prop:= ∃(u0:Value) (G0:List Hp),Xv r u0 G0/\u=u0/\G=G0
theorem vI.c (H:vI.f ag=some r):
 QR 247 [(ii ag)] [] [] F (vI.R r):=by
 unfold vI.f at H;refine aB Tryz.func247 J J (λW=>rc T 11 (go T [3,4,5] 5 [0] 8 J J J J J J J (ro T 2 (cb J H (λH=>?_) (λH=>?_)))))
 ·refine rc T 7 ?_
  cases H;exact p1 T J [0] ⟨_,_,⟨J,J⟩,J,J⟩ J
 refine rc T 6 (aW (Yv (kd:=VS) T [(ii ag),(ii 0)] 256 (default:jM) [nl,(ii 0)] J J J J ⟨none,0,[],(aj.nil (k:=(Fl.int .i64)) (E:=3)),J,J⟩ (λb1 H1 s1=>ro T 4 ?_)))
 cases H;exact p1 T J [1,0] ⟨_,_,⟨b1,H1,(And.intro s1 (List.length_replicate ..)),J,J⟩,J,J⟩ J
def vJ.f (ag:eB):Option Int:=some ag.len
theorem vJ.c (H:vJ.f ag=some r) (cE:j_ ag aV cX):
 QU 274 [(pp aV)] [cX] F (ii r):=by
 unfold vJ.f at H;refine aB Tryz.func274 J J (λW=>rc T 12 (dW J (rc T 7 (lg T J (Av (j:=0) J cE.1 J) (ro T 4 ?_)))))
 cases H;exact p0 T J [0,0] J
def xy.f (ag:eB) (key:Int):Option (Bool×eB):=(if ag.len>0 then(some true) else(some ((decide (key<ag.a_))||(decide (key>1099511627776))))).bind λx1=>if x1=true then(some (false,ag)) else(some (true,(eB.mk key ag.len ag.buckets)))
def xy.R (na:Nat) (r:(Bool×eB)) (u:Value) (G:List Hp):Prop:= ∃(H0:Hp),j_ r.2 na H0/\u=(bb r.1)/\G=[H0]
theorem xy.c (H:xy.f ag key=some r) (cE:j_ ag aV cX):
 QR 290 [(pp aV),(ii key)] [cX] [] F (xy.R aV r):=by
 unfold xy.f at H;refine aB Tryz.func290 J J (λW=>rc T 6 (mq H [0,1] [1,0] (λz2 (x1:Bool)=>(x1=z2,[(25,(bb x1))],[])) J J (λz2 Z1 _=>?_) ?_))
 ·refine rc T 7 (lg T J (Av (j:=0) J cE.1 J) (ro T 3 (ad 14 J Z1 (λZ1=>?_) (λZ1=>?_))))
  ·refine ro T 13 (am _ [1,0] (oi Z1) J J)
  refine ro T 4 (lg T J (Av (j:=0) J cE.1 J) (ro T 3 (go T [18,19,20] 22 [0,1] 25 J J J J J J J (ro T 2 (am _ [1,0] (oi Z1) J J)))))
 rintro _ x1 rfl H;refine cb J H (λH=>?_) (λH=>?_)
 ·refine rc T 7 ?_
  cases H;exact p1 T J [1,0] ⟨cX,cE,J,J⟩ J
 refine rc T 8 (aW (IE T 1 [(ii key),(ii ag.len)] J J J J J J cE.1 J J J J (λH2 s2=>ro T 8 ?_)))
 cases H;exact p1 T J [1,0] ⟨H2,(And.intro s2 cE.2),J,J⟩ J
def zh.f (b:jM) (item:Int):Option jM:=if(List.length b.items+1<=1099511627776) then(some (jM.mk (b.items++[item]) b.gone)) else none
def zh.R (uK:Nat) (LR:TypeId) (L7 L8:List Value) (r:jM) (u:Value) (G:List Hp):Prop:= ∃(a0:Option Addr) (n0:Nat) (H0:Hp),aj (Fl.int .i64) 3 r.items a0 n0 H0/\u=(.tuple #[])/\G=[[(uK,Obj.cells (L7++(([(ll a0 r.items n0),(ii r.gone)]:List Value)++L8)).toArray LR (0,0))],H0]
theorem zh.c (H:zh.f b item=some r) (zl:aj (Fl.int .i64) 3 b.items wy sO Bi):
 QR 302 [(.pointer (some ⟨uK,List.length Cx+0,none⟩)),(ii item)] [[(uK,Obj.cells (Cx++(([(ll wy b.items sO),(ii b.gone)]:List Value)++Kn)).toArray Is (0,0))],Bi] [] F (zh.R uK Is Cx Kn r):=by
 unfold zh.f at H;refine aB Tryz.func302 J J (λW=>rc T 5 (lg T J (B7 (j:=0) J 0 J) (ro T 1 (aW (cU (k:=(Fl.int .i64)) T [item] J J J J J J J J J (λa3 H3 s3=>?_))))));obtain⟨c1,H⟩:=az H;refine aW (dM (k:=(Fl.int .i64)) (xs:=b.items) T (g:=1) J J J J J J J J J J zl (oO s3 3) c1 J (λa4 n4 H4 s4=>ro T 2 (aW (II T 0 0 [(ll a4 (b.items++[item]) n4),(ii b.gone)] J J J J J J J J J J ?_))));refine ro T 1 (i_ ?_)
 cases H;exact p1 T J [0,0,0] ⟨a4,n4,H4,s4,J,J⟩ J
def sV.f (ag:eB) (key:Int) (item:Int):Option (Bool×eB):=(if key<ag.a_ then(some true) else(some (decide ((aa (key-ag.a_))≥256)))).bind λx1=>if x1=true then(some (false,ag)) else(if(0<=(Int.tmod key 256)/\(Int.tmod key 256)<(List.length ag.buckets:Int)) then((zh.f (rd ag.buckets (Int.tmod key 256)) item).bind λv3=>some (true,(eB.mk ag.a_ (aa (ag.len+1)) (List.set ag.buckets (Int.toNat (Int.tmod key 256)) v3)))) else none)
def sV.R (na:Nat) (r:(Bool×eB)) (u:Value) (G:List Hp):Prop:= ∃(H0:Hp),j_ r.2 na H0/\u=(bb r.1)/\G=[H0]
theorem sV.c (H:sV.f ag key item=some r) (cE:j_ ag aV cX):
 QR 291 [(pp aV),(ii key),(ii item)] [cX] [] F (sV.R aV r):=by
 unfold sV.f at H;refine aB Tryz.func291 J J (λW=>rc T 6 (mq H [0,1,2] [1,0] (λz2 (x1:Bool)=>(x1=z2,[(25,(bb x1))],[])) J J (λz2 Z1 _=>?_) ?_))
 ·refine rc T 8 (lg T J (Av (j:=0) J cE.1 J) (ro T 3 (ad 17 J Z1 (λZ1=>?_) (λZ1=>?_))))
  ·refine ro T 10 (am _ [1,0] (oi Z1) J J)
  refine ro T 4 (lg T J (Av (j:=0) J cE.1 J) (ro T 5 (am _ [1,0] (oi Z1) J J)))
 rintro _ x1 rfl H;refine cb J H (λH=>?_) (λH=>?_)
 ·refine rc T 7 ?_
  cases H;exact p1 T J [1,0] ⟨cX,cE,J,J⟩ J
 refine rc T 3 ?_;obtain⟨c4,H⟩:=az H;refine Ly (j:=1) J cE.1 c4 (λp2_ q2_ _ H3 _ o2_ W3=>?_);obtain⟨a5,n5,H5,s5,rfl,rfl⟩:=o2_;refine bz (As:=[H5]) 3 J (rc T 6 (bp J (I8 T J J J J J (by rw[cE.2] at c4;exact c4) (by rw[wk.at W3];rfl)) (ro T 1 ?_)))
 refine kr (zh.R aV 396 p2_ q2_) [] [1,2] J adq H (zh.c · s5) (λv3 H=>?_);rintro _ _ ⟨a6,n6,H6,s6,rfl,rfl⟩;refine fz J (ro T 1 (gj [3] J (Fb (j:=2) (q1:=1) (q2:=3) v3 J W3 J J J J J ⟨a6,n6,H6,s6,J,J⟩ (λH8 s8=>rx T 6 (lg T J (Av (j:=2) J s8 J) (ro T 3 (aW (IE T 2 [(ii ag.a_),(ii (aa (ag.len+1)))] J J J J J J s8 J J J J (λH9 s9=>ro T 8 ?_)))))))))
 cases H;exact p1 T J [2,0] ⟨H9,(And.intro s9 (KE cE.2)),J,J⟩ J
def xz.f (b:jM):Option Bool:=some (b.gone==(List.length b.items:Int))
theorem xz.c (H:xz.f b=some r) (zl:aj (Fl.int .i64) 3 b.items wy sO Bi):
 QU 292 [(.pointer (some ⟨uK,List.length Cx+0,none⟩))] [[(uK,Obj.cells (Cx++(([(ll wy b.items sO),(ii b.gone)]:List Value)++Kn)).toArray Is (0,0))],Bi] F (bb r):=by
 unfold xz.f at H;refine aB Tryz.func292 J J (λW=>rc T 6 (dj mix ay (au T J (au T J (au T J (aN J J J (aw T J J J J (B7 (j:=0) J 1 J)) (au T J (au T J (au T J (aN J J J (aw T J J J J (B7 (j:=0) J 0 J)) (au T J (au T J (au T J (cR (rx T 2 ?_)))))))))))))))
 cases H;exact p0 T J [0,0,0] J
def rL.f (b:jM):Option (Int×jM):=if(0<=b.gone/\b.gone<(List.length b.items:Int)) then((xz.f (jM.mk b.items (aa (b.gone+1)))).bind λv1=>if v1=true then(if(0<=(0:Int)/\(0:Int)<=(0:Int)/\(0:Int)<=(List.length b.items:Int)) then(some ((rd b.items b.gone),(jM.mk (aA b.items 0 0) 0))) else none) else(some ((rd b.items b.gone),(jM.mk b.items (aa (b.gone+1)))))) else none
def rL.R (uK:Nat) (LR:TypeId) (L7 L8:List Value) (r:(Int×jM)) (u:Value) (G:List Hp):Prop:= ∃(a0:Option Addr) (n0:Nat) (H0:Hp),aj (Fl.int .i64) 3 r.2.items a0 n0 H0/\u=(ii r.1)/\G=[[(uK,Obj.cells (L7++(([(ll a0 r.2.items n0),(ii r.2.gone)]:List Value)++L8)).toArray LR (0,0))],H0]
theorem rL.c (H:rL.f b=some r) (zl:aj (Fl.int .i64) 3 b.items wy sO Bi):
 QR 293 [(.pointer (some ⟨uK,List.length Cx+0,none⟩))] [[(uK,Obj.cells (Cx++(([(ll wy b.items sO),(ii b.gone)]:List Value)++Kn)).toArray Is (0,0))],Bi] [] F (rL.R uK Is Cx Kn r):=by
 unfold rL.f at H;refine aB Tryz.func293 J J (λW=>rc T 6 (dj mix ay (au T J (au T J (au T J (aN J J J (aw T J J J J (B7 (j:=0) J 0 J)) (au T J (au T J (au T J (aN J J J (aw T J J J J (B7 (j:=0) J 1 J)) ?_))))))))));obtain⟨c1,H⟩:=az H;obtain⟨q3,o3,e3⟩:=zl.r.addr c1.1 c1.2;refine aN J J J (cB T J J J J J e3 c1.1 c1.2) (aN J J J (aw T J J J J (gM (k:=(Fl.int .i64)) (oO zl 1) e3 c1 0 J)) (au T J (cR (rx T 6 (lg T J (B7 (j:=0) J 1 J) (ro T 3 (aW (II T 0 1 [(ll wy b.items sO),(ii (aa (b.gone+1)))] J J J J J J J J J J ?_))))))));refine ro T 6 (k [0,0] J SX H (xz.c (b:=(jM.mk b.items (aa (b.gone+1)))) · zl) (λv1 H=>ro T 2 (cb J H (λH=>?_) (λH=>?_))))
 ·refine rc T 6 (lg T J (B7 (j:=0) J 0 J) ?_);obtain⟨c4,H⟩:=az H;refine bp J (kn T J J J J J J c4 zl.bW) (ro T 2 (aW (II T 0 0 [(ll (fS wy sO (Int.toNat 0) 1) (aA b.items 0 0) (sO-Int.toNat 0)),(ii (aa (b.gone+1)))] J J J J J J J J J J ?_)));refine ro T 2 (aW (II T 0 1 [(ll (fS wy sO (Int.toNat 0) 1) (aA b.items 0 0) (sO-Int.toNat 0)),(ii 0)] J J J J J J J J J J ?_));refine ro T 9 ?_
  cases H;exact p1 T J [0,0,0] ⟨(fS wy sO (Int.toNat 0) 1),(sO-Int.toNat 0),Bi,(aj.pre zl c4),J,J⟩ J
 refine rc T 9 ?_
 cases H;exact p1 T J [0,0,0] ⟨wy,sO,Bi,zl,J,J⟩ J
def ot.l0:Nat->eB->Option eB
 |0,_=>none
 |k6+1,x5=>if(0<=(Int.tmod x5.a_ 256)/\(Int.tmod x5.a_ 256)<(List.length x5.buckets:Int)) then((xz.f (rd x5.buckets (Int.tmod x5.a_ 256))).bind λv7=>if v7=true then(ot.l0 k6 (eB.mk (aa (x5.a_+1)) x5.len x5.buckets)) else(some x5)) else none
def ot.f (ag:eB):Option (Int×Int×Bool×eB):=(vJ.f ag).bind λv1=>if(v1==0)=true then(some (0,0,false,ag)) else((ot.l0 fuel ag).bind λx2=>if(0<=(Int.tmod x2.a_ 256)/\(Int.tmod x2.a_ 256)<(List.length x2.buckets:Int)) then((rL.f (rd x2.buckets (Int.tmod x2.a_ 256))).bind λv8=>some (x2.a_,v8.1,true,(eB.mk x2.a_ (aa (x2.len-1)) (List.set x2.buckets (Int.toNat (Int.tmod x2.a_ 256)) v8.2)))) else none)
def ot.R (na:Nat) (r:(Int×Int×Bool×eB)) (u:Value) (G:List Hp):Prop:= ∃(H0:Hp),j_ r.2.2.2 na H0/\u=(.tuple #[(ii r.1),(ii r.2.1),(bb r.2.2.1)])/\G=[H0]
theorem ot.c (H:ot.f ag=some r) (cE:j_ ag aV cX):
 QR 275 [(pp aV)] [cX] [] F (ot.R aV r):=by
 unfold ot.f at H;refine aB Tryz.func275 J J (λW=>rc T 11 (k [0] J M5 H (vJ.c · cE) (λv1 H=>ro T 3 (cb J H (λH=>?_) (λH=>?_)))))
 ·refine rc T 9 ?_
  cases H;exact p1 T J [0,0] ⟨cX,cE,J,J⟩ J
 refine rc T 2 (mq H [0] [1] (λz3 (⟨x2,H2⟩:eB×Hp)=>(x2=z3/\j_ x2 aV H2,[],[H2])) J J (λz3 Z3 _=>?_) ?_)
 ·refine rc T 1 (lq [0] [1] (λ(⟨k6,x5,H4⟩:Nat×eB×Hp)=>(ot.l0 k6 x5=some z3/\j_ x5 aV H4,[],[H4])) J J (fuel,ag,cX) [1,0] ⟨Z3,cE⟩ J J ?_);rintro k6 ⟨x5,H4⟩ ⟨Z4,s4⟩;rw[ot.l0] at Z4;refine rc T 2 ?_;obtain⟨c5,Z4⟩:=az Z4;refine Ly (j:=1) J s4.1 c5 (λp5_ q5_ _ H6 _ o5_ Pp=>?_);obtain⟨a8,n8,H8,s8,rfl,rfl⟩:=o5_;refine bz (As:=[H8]) 3 J (dj mix ay ?_)
  iterate 4 refine au T J ?_
  refine aN J J J (aw T J J J J (D1 (j:=1) J Pp J)) (au T J (au T J (au T J (aN J J J (I8 T J J J J J (by rw[s4.2] at c5;exact c5) (by rw[wk.at Pp];rfl)) ?_))))
  obtain⟨v7,V6,Z4⟩:=fY Z4;refine wC [1,2] J J J J J J SX J (xz.c V6 s8) (cR (gj [3] J (Yw (j:=1) (q1:=2) (q2:=3) J Pp J J J J J ⟨a8,n8,H8,s8,J,J⟩ (λbV bS=>rx T 1 (cb J Z4 (λZ4=>?_) (λZ4=>?_))))))
  ·refine rc T 7 (lg T J (Av (j:=1) J bS J) (ro T 3 (aW (IE T 1 [(ii (aa (x5.a_+1))),(ii x5.len)] J J J J J J bS J J J J (λcA cS=>ro T 3 (ar (_,_) [0,0] ⟨Z4,(And.intro cS s4.2)⟩ J J))))))
  refine rc T 5 (am (_,_) [0,0] ⟨oi Z4,(And.intro bS s4.2)⟩ J J)
 rintro _ ⟨x2,H2⟩ ⟨rfl,s2⟩ H;refine rc T 5 (lg T J (Av (j:=1) J s2.1 J) (ro T 3 (aW (IE T 1 [(ii x2.a_),(ii (aa (x2.len-1)))] J J J J J J s2.1 J J J J (λdw dD=>ro T 3 ?_)))));obtain⟨c8,H⟩:=az H;refine Ly (j:=1) J dD c8 (λOq Ox _ fx _ agi xX=>?_);obtain⟨jU,n16,fV,fP,rfl,rfl⟩:=agi;refine bz (As:=[fV]) 3 J (ks [0] J (fz J (rg [] [0,1] mix (bO bN) (λhg pf=>ha T 8 [0,1,2,4,5,6,7,10,11] (so [0,1]) hg pf J (gw 3 8 ?_ ?_)))))
 ·refine lv J (aw T J J J J (D1 (j:=1) J xX J)) (an (so [0,1]) (ao 8 (lv J (aw T J J J J (D1 (j:=1) J xX J)) (an (so [0,1]) (ha T 5 [9] (so [0,1]) hg pf J (av 12 (so [0,1]) hg pf J (I8 T J J J J J (by rw[s2.2] at c8;exact c8) (by rw[wk.at xX];rfl)) (ao 13 ?_)))))))
  refine kR (rL.R aV 396 Oq Ox) [] [1,2] J M7 H (rL.c · fP) (λv8 H=>?_);rintro _ _ ⟨a17,n17,dV,fh,rfl,rfl⟩;refine fz J (an (so [0,0]) (ha T 0 [14,15,16] (so [0,0]) hg pf J (ae (gj [3] J (Fb (j:=2) (q1:=1) (q2:=3) v8.2 J xX J J J J J ⟨a17,n17,dV,fh,J,J⟩ (λkF gQ=>rx T 2 ?_))))))
  cases H;exact p1 T J [2,0] ⟨kF,(And.intro gQ (KE s2.2)),J,J⟩ J
 refine lv J (aw T J J J J (D1 (j:=1) J xX J)) (an (so [0,1]) (ha T 6 [9] (so [0,1]) hg pf J (av 12 (so [0,1]) hg pf J (I8 T J J J J J (by rw[s2.2] at c8;exact c8) (by rw[wk.at xX];rfl)) ?_)))
 refine gw 3 13 ?_ ?_
 ·refine lv J (aw T J J J J (D1 (j:=1) J xX J)) (an (so [0,1]) (ao 13 (kR (rL.R aV 396 Oq Ox) [] [1,2] J M7 H (rL.c · fP) (λv9 H=>?_))));rintro _ _ ⟨a20,n20,nS,lT,rfl,rfl⟩;refine fz J (an (so [0,0]) (ha T 0 [14,15,16] (so [0,0]) hg pf J (ae (gj [3] J (Fb (j:=2) (q1:=1) (q2:=3) v9.2 J xX J J J J J ⟨a20,n20,nS,lT,J,J⟩ (λmj iI=>rx T 2 ?_))))))
  cases H;exact p1 T J [2,0] ⟨mj,(And.intro iI (KE s2.2)),J,J⟩ J
 refine kR (rL.R aV 396 Oq Ox) [] [1,2] J M7 H (rL.c · fP) (λv10 H=>?_);rintro _ _ ⟨a23,n23,jF,gR,rfl,rfl⟩;refine fz J (an (so [0,0]) (ao 3 (lv J (aw T J J J J (D1 (j:=2) J xX J)) (an (so [0,0]) (ha T 0 [14,15,16] (so [0,0]) hg pf J (ae (gj [3] J (Fb (j:=2) (q1:=1) (q2:=3) v10.2 J xX J J J J J ⟨a23,n23,jF,gR,J,J⟩ (λgV jB=>rx T 2 ?_)))))))))
 cases H;exact p1 T J [2,0] ⟨gV,(And.intro jB (KE s2.2)),J,J⟩ J
end
end Go.Proofs.YthodkonhneebbaaGreatDoor
