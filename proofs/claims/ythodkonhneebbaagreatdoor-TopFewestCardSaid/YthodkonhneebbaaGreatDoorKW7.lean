/- What the functions of some packages compute, each as a function of plain Lean, with its contract. No condition. -/
import Derived.Test.YthodkonhneebbaaGreatDoorKWT
import Derived.Test.YthodkonhneebbaaGreatDoorKW5
import Derived.Test.YthodkonhneebbaaGreatDoorKW6
namespace Go.Proofs.YthodkonhneebbaaGreatDoor
open Go.Hx
set_option maxRecDepth 100000
set_option linter.unusedSimpArgs false
set_option linter.unusedVariables false
set_option maxHeartbeats 4000000
set_option autoImplicit true
set_option relaxedAutoImplicit true
noncomputable section
def En.f (dir:Int):Option Bool:=some ((decide (dir<0))||(decide (dir>5)))
theorem En.c (H:En.f dir=some r):
 QU 197 [(ii dir)] [] F (bb r):=by
 unfold En.f at H;refine aG Tryz.func197 J J (λW=>rc T 10 (go T [3,4,5] 5 [] 8 J J J J J J J (ro T 4 ?_)))
 cases H;exact p0 T J [0] J
def qV.l0:Nat->(List Int)->Int->Option Int
 |0,_,_=>none
 |k3+1,s,x2=>if x2<(List.length s:Int) then(if(0<=x2/\x2<(List.length s:Int)) then((En.f (rd s x2)).bind λv4=>if v4=true then(some x2) else(qV.l0 k3 s (aa (x2+1)))) else none) else(some (-1))
def qV.f (s:(List Int)):Option Int:=qV.l0 fuel s 0
theorem qV.c (H:qV.f s=some r) (jG:aU (Fl.int .i64) s iV F) (rA:List.length s<=iZ):
 QU 232 [(ll iV s iZ),(.func (.func 197) #[] #[])] [] F (ii r):=by
 unfold qV.f at H;refine aG Tryz.func232 J J (λW=>rc T 14 (lq [0,1,7] [0] (λ(⟨k3,x2⟩:Nat×Int)=>(qV.l0 k3 s x2=some r,[(8,(ii x2))],[])) J J (fuel,0) [0] H J J ?_));rintro k3 x2 Z1;replace Z1:qV.l0 (k3+1) s x2=some r:=Z1;rw[qV.l0] at Z1;refine rc T 6 (cd J Z1 (λZ1=>?_) (λZ1=>?_))
 ·refine rc T 15 ?_;obtain⟨c3,Z1⟩:=aA Z1;obtain⟨q1,o1,e1⟩:=jG.addr c3.1 c3.2;refine ix T J e1 c3 (le T 0 (rO jG 0) e1 c3 J J (k [] J acW Z1 (En.c ·) (λv4 Z1=>ro T 2 (cb J Z1 (λZ1=>?_) (λZ1=>?_)))))
  ·refine rc T 12 ?_
   cases Z1;exact p0 T J [0] J
  refine rc T 8 (ar _ [0] Z1 J J)
 refine rc T 11 ?_
 cases Z1;exact p0 T J [0] J
def Dd.f (s:(List Int)):Option Bool:=(qV.f s).bind λv1=>some (decide (v1≥0))
theorem Dd.c (H:Dd.f s=some r) (jG:aU (Fl.int .i64) s iV F) (rA:List.length s<=iZ):
 QU 198 [(ll iV s iZ),(.func (.func 197) #[] #[])] [] F (bb r):=by
 unfold Dd.f at H;refine aG Tryz.func198 J J (λW=>rc T 9 (k [] J adh H (qV.c · (rO jG 0) rA) (λv1 H=>ro T 5 ?_)))
 cases H;exact p0 T J [0] J
def vG.f (ag:mC) (u:aD) (dir:Int):Option (Bool×mC×aD):=if(dir==0)=true then((mh.f ag.w ag.h u.Cell dir).bind λv1=>(if v1<0 then(some true) else(some (aQ ag.j3 v1))).bind λx2=>if x2=true then(some (true,ag,u)) else(if(List.length ag.kI+1<=1099511627776) then(if(v1==u.Goal)=true then(if(List.length ag.gone+1<=1099511627776) then(some (false,(mC.mk ag.w ag.h (dU ag.j3 u.Cell) (ag.kI++[(ff.mk u.Id v1)]) (ag.gone++[u.Id])),(aD.mk u.Id v1 u.Goal))) else none) else(some (true,(mC.mk ag.w ag.h (cE (dU ag.j3 u.Cell) v1 true) (ag.kI++[(ff.mk u.Id v1)]) ag.gone),(aD.mk u.Id v1 u.Goal)))) else none)) else(if(dir==1)=true then((mh.f ag.w ag.h u.Cell dir).bind λv4=>(if v4<0 then(some true) else(some (aQ ag.j3 v4))).bind λx5=>if x5=true then(some (true,ag,u)) else(if(List.length ag.kI+1<=1099511627776) then(if(v4==u.Goal)=true then(if(List.length ag.gone+1<=1099511627776) then(some (false,(mC.mk ag.w ag.h (dU ag.j3 u.Cell) (ag.kI++[(ff.mk u.Id v4)]) (ag.gone++[u.Id])),(aD.mk u.Id v4 u.Goal))) else none) else(some (true,(mC.mk ag.w ag.h (cE (dU ag.j3 u.Cell) v4 true) (ag.kI++[(ff.mk u.Id v4)]) ag.gone),(aD.mk u.Id v4 u.Goal)))) else none)) else(if(dir==2)=true then((mh.f ag.w ag.h u.Cell dir).bind λv7=>(if v7<0 then(some true) else(some (aQ ag.j3 v7))).bind λx8=>if x8=true then(some (true,ag,u)) else(if(List.length ag.kI+1<=1099511627776) then(if(v7==u.Goal)=true then(if(List.length ag.gone+1<=1099511627776) then(some (false,(mC.mk ag.w ag.h (dU ag.j3 u.Cell) (ag.kI++[(ff.mk u.Id v7)]) (ag.gone++[u.Id])),(aD.mk u.Id v7 u.Goal))) else none) else(some (true,(mC.mk ag.w ag.h (cE (dU ag.j3 u.Cell) v7 true) (ag.kI++[(ff.mk u.Id v7)]) ag.gone),(aD.mk u.Id v7 u.Goal)))) else none)) else(if(dir==3)=true then((mh.f ag.w ag.h u.Cell dir).bind λv10=>(if v10<0 then(some true) else(some (aQ ag.j3 v10))).bind λbd=>if bd=true then(some (true,ag,u)) else(if(List.length ag.kI+1<=1099511627776) then(if(v10==u.Goal)=true then(if(List.length ag.gone+1<=1099511627776) then(some (false,(mC.mk ag.w ag.h (dU ag.j3 u.Cell) (ag.kI++[(ff.mk u.Id v10)]) (ag.gone++[u.Id])),(aD.mk u.Id v10 u.Goal))) else none) else(some (true,(mC.mk ag.w ag.h (cE (dU ag.j3 u.Cell) v10 true) (ag.kI++[(ff.mk u.Id v10)]) ag.gone),(aD.mk u.Id v10 u.Goal)))) else none)) else(some (true,ag,u)))))
def vG.R (aY:Nat) (eO:Nat) (r:(Bool×mC×aD)):bm:=λu G=> ∃(a0:Nat) (H0:Hp) (a1 n1 H1:_) (a2 n2 H2:_),cQ (Ky.int .i64 u3) (λx:Bool=>Value.bool x) r.2.1.j3 a0 H0/\aj jJ 94 r.2.1.kI a1 n1 H1/\aj (Fl.int .i64) 3 r.2.1.gone a2 n2 H2/\u=(bb r.1)/\G=[(cl aY 309 [(ii r.2.1.w),(ii r.2.1.h),(.map (some a0)),(ll a1 r.2.1.kI n1),(ll a2 r.2.1.gone n2)]),H0,H1,H2,(cl eO 67 [(ii r.2.2.Id),(ii r.2.2.Cell),(ii r.2.2.Goal)])]
theorem vG.c (H:vG.f ag u dir=some r) (tm:cQ (Ky.int .i64 u3) (λx:Bool=>Value.bool x) ag.j3 ry Dv) (zD:aj jJ 94 ag.kI DC Et Du) (tl:aj (Fl.int .i64) 3 ag.gone wM xw wG):
 QR 199 [(pp aY),(pp eO),(ii dir)] [(cl aY 309 [(ii ag.w),(ii ag.h),(.map (some ry)),(ll DC ag.kI Et),(ll wM ag.gone xw)]),Dv,Du,wG,(cl eO 67 [(ii u.Id),(ii u.Cell),(ii u.Goal)])] [] F (vG.R aY eO r):=by
 unfold vG.f at H;refine aG Tryz.func199 J J (λW=>rc T 25 (cb J H (λH=>?_) (λH=>?_)))
 ·refine rc T 10 (dD mix az (au T J (au T J (au T J (aO J J J (aw T J J J J (aI (j:=0) J J)) (au T J (au T J (au T J (aO J J J (aw T J J J J (aI (j:=0) J J)) (au T J (au T J (au T J (aO J J J (aw T J J J J (aI (j:=4) J J)) (au T J ?_))))))))))))));obtain⟨v1,V2,H⟩:=gx H;refine uV J J J J J J AA J (mh.c V2) (au T J (dg (rx T 2 (mq H [0,1,7] [5,0,0,0,0,0] (λz3 (x2:Bool)=>(x2=z3,[(40,(bb x2))],[])) J J (λz3 Z3 _=>?_) ?_))))
  ·refine rc T 4 (ad 33 J Z3 (λZ3=>?_) (λZ3=>?_))
   ·refine ro T 9 (am _ [5,0,0,0,0,0] (oi Z3) J J)
   refine ro T 3 (lf T 0 J (ro T 1 (bz J (p9 (k:=v1) T (Ky.int .i64 u3) (λx:Bool=>Value.bool x) J J J J J (oE tm (j:=1) J)) (ro T 3 (am _ [5,0,0,0,0,0] (oi Z3) J J)))))
  rintro _ x2 rfl H;refine cb J H (λH=>?_) (λH=>?_)
  ·refine rc T 10 ?_
   cases H;exact p1 T J [1,1,1,1,1,0] ⟨ry,Dv,DC,Et,Du,wM,xw,wG,tm,zD,tl,J,J⟩ J
  refine rc T 3 (fz J (rz [8] mix (bM bL) (λhg pf=>ha T 6 [0,1,2] sz hg pf J (av 3 sz hg pf J (aw T J J J J (aI (j:=1) J J)) (ha T 2 [4,5,6] sz hg pf J (av 7 sz hg pf J (aw T J J J J (aI (j:=5) J J)) (ao 8 (DF (g:=2) (m:=ag.j3) (k:=u.Cell) T (Ky.int .i64 u3) (λx:Bool=>Value.bool x) J J J J J J J J tm (λH6 s6=>an sl (ae (rx T 7 (sg T 5 J (ro T 3 (ks [0,1,7] J (fz J (rg [12,15] [0,0,0,0,0,0] mix (bM bL) (λhg pf=>ha T 12 [0,1,2,3] sz hg pf J (av 4 sz hg pf J (aw T J J J J (aI (j:=1) J J)) (ha T 8 [5,6,7] sz hg pf J (av 8 sz hg pf J (aw T J J J J (aI (j:=5) J J)) (ha T 5 [9,10] sz hg pf J (ao 11 (cV (k:=jJ) T [(ff.mk u.Id v1)] J J J J J J J J J (λa7 H7 s7=>an (so [0,0,0,0,0,0]) (ao 12 ?_)))))))))))))))))))))))));obtain⟨c6,H⟩:=aA H;refine ez (k:=jJ) (xs:=ag.kI) T (g:=3) J J J J J J J J J J zD (oO s7 6) c6 J (λa8 n8 H8 s8=>an sl (hb T 13 sl hg pf J (hb T 14 sl hg pf J (ao 15 (sf T 1 J (an sl (ae (rx T 1 (rc T 7 (lf T 5 J (ro T 3 (cb J H (λH=>?_) (λH=>?_)))))))))))))
  ·refine rc T 1 (ke [0,1] [0,0,0,0,0,0] J J (fz J (rg [10,13] [0,0,0,0,0,0] mix (bM bL) (λhg pf=>ha T 10 [0,1,2,3] sz hg pf J (av 4 sz hg pf J (aw T J J J J (aI (j:=1) J J)) (ha T 6 [5,6,7] sz hg pf J (av 8 sz hg pf J (aw T J J J J (aI (j:=5) J J)) (ao 9 (cV (k:=(Fl.int .i64)) T [u.Id] J J J J J J J J J (λa9 H9 s9=>an (so [0,0,0,0,0,0]) (ao 10 ?_)))))))))));obtain⟨c8,H⟩:=aA H;refine ez (k:=(Fl.int .i64)) (xs:=ag.gone) T (g:=4) J J J J J J J J J J tl (oO s9 6) c8 J (λcw n10 bZ bU=>an sl (hb T 11 sl hg pf J (hb T 12 sl hg pf J (ao 13 (sf T 1 J (an sl (ae (rx T 1 (rc T 10 ?_)))))))))
   cases H;exact p1 T J [1,1,1,1,1,0] ⟨ry,H6,a8,n8,H8,cw,n10,bZ,s6,s8,bU,J,J⟩ J
  refine rc T 6 (lf T 1 J (ro T 1 (aZ (pU (g:=2) (m:=(dU ag.j3 u.Cell)) (k:=v1) (v:=true) T (Ky.int .i64 u3) (λx:Bool=>Value.bool x) J J J J J J J s6 (λcB dj=>ro T 11 ?_)))))
  cases H;exact p1 T J [1,1,1,1,1,0] ⟨ry,cB,a8,n8,H8,wM,xw,wG,dj,s8,tl,J,J⟩ J
 refine rc T 9 (cb J H (λH=>?_) (λH=>?_))
 ·refine rc T 10 (dD mix az (au T J (au T J (au T J (aO J J J (aw T J J J J (aI (j:=0) J J)) (au T J (au T J (au T J (aO J J J (aw T J J J J (aI (j:=0) J J)) (au T J (au T J (au T J (aO J J J (aw T J J J J (aI (j:=4) J J)) (au T J ?_))))))))))))));obtain⟨v4,Yd,H⟩:=gx H;refine uV J J J J J J AA J (mh.c Yd) (au T J (dg (rx T 2 (mq H [0,1,7] [5,0,0,0,0,0] (λz6 (x5:Bool)=>(x5=z6,[(40,(bb x5))],[])) J J (λz6 aW _=>?_) ?_))))
  ·refine rc T 4 (ad 33 J aW (λaW=>?_) (λaW=>?_))
   ·refine ro T 9 (am _ [5,0,0,0,0,0] (oi aW) J J)
   refine ro T 3 (lf T 0 J (ro T 1 (bz J (p9 (k:=v4) T (Ky.int .i64 u3) (λx:Bool=>Value.bool x) J J J J J (oE tm (j:=1) J)) (ro T 3 (am _ [5,0,0,0,0,0] (oi aW) J J)))))
  rintro _ x5 rfl H;refine cb J H (λH=>?_) (λH=>?_)
  ·refine rc T 10 ?_
   cases H;exact p1 T J [1,1,1,1,1,0] ⟨ry,Dv,DC,Et,Du,wM,xw,wG,tm,zD,tl,J,J⟩ J
  refine rc T 3 (fz J (rz [8] mix (bM bL) (λhg pf=>ha T 6 [0,1,2] sz hg pf J (av 3 sz hg pf J (aw T J J J J (aI (j:=1) J J)) (ha T 2 [4,5,6] sz hg pf J (av 7 sz hg pf J (aw T J J J J (aI (j:=5) J J)) (ao 8 (DF (g:=2) (m:=ag.j3) (k:=u.Cell) T (Ky.int .i64 u3) (λx:Bool=>Value.bool x) J J J J J J J J tm (λdz dL=>an sl (ae (rx T 7 (sg T 5 J (ro T 3 (ks [0,1,7] J (fz J (rg [12,15] [0,0,0,0,0,0] mix (bM bL) (λhg pf=>ha T 12 [0,1,2,3] sz hg pf J (av 4 sz hg pf J (aw T J J J J (aI (j:=1) J J)) (ha T 8 [5,6,7] sz hg pf J (av 8 sz hg pf J (aw T J J J J (aI (j:=5) J J)) (ha T 5 [9,10] sz hg pf J (ao 11 (cV (k:=jJ) T [(ff.mk u.Id v4)] J J J J J J J J J (λdH eJ dm=>an (so [0,0,0,0,0,0]) (ao 12 ?_)))))))))))))))))))))))));obtain⟨pc,H⟩:=aA H;refine ez (k:=jJ) (xs:=ag.kI) T (g:=3) J J J J J J J J J J zD (oO dm 6) pc J (λiT n14 fV gC=>an sl (hb T 13 sl hg pf J (hb T 14 sl hg pf J (ao 15 (sf T 1 J (an sl (ae (rx T 1 (rc T 7 (lf T 5 J (ro T 3 (cb J H (λH=>?_) (λH=>?_)))))))))))))
  ·refine rc T 1 (ke [0,1] [0,0,0,0,0,0] J J (fz J (rg [10,13] [0,0,0,0,0,0] mix (bM bL) (λhg pf=>ha T 10 [0,1,2,3] sz hg pf J (av 4 sz hg pf J (aw T J J J J (aI (j:=1) J J)) (ha T 6 [5,6,7] sz hg pf J (av 8 sz hg pf J (aw T J J J J (aI (j:=5) J J)) (ao 9 (cV (k:=(Fl.int .i64)) T [u.Id] J J J J J J J J J (λjz dP dV=>an (so [0,0,0,0,0,0]) (ao 10 ?_)))))))))));obtain⟨pX,H⟩:=aA H;refine ez (k:=(Fl.int .i64)) (xs:=ag.gone) T (g:=4) J J J J J J J J J J tl (oO dV 6) pX J (λj6 n16 gk gd=>an sl (hb T 11 sl hg pf J (hb T 12 sl hg pf J (ao 13 (sf T 1 J (an sl (ae (rx T 1 (rc T 10 ?_)))))))))
   cases H;exact p1 T J [1,1,1,1,1,0] ⟨ry,dz,iT,n14,fV,j6,n16,gk,dL,gC,gd,J,J⟩ J
  refine rc T 6 (lf T 1 J (ro T 1 (aZ (pU (g:=2) (m:=(dU ag.j3 u.Cell)) (k:=v4) (v:=true) T (Ky.int .i64 u3) (λx:Bool=>Value.bool x) J J J J J J J dL (λeF fq=>ro T 11 ?_)))))
  cases H;exact p1 T J [1,1,1,1,1,0] ⟨ry,eF,iT,n14,fV,wM,xw,wG,fq,gC,tl,J,J⟩ J
 refine rc T 9 (cb J H (λH=>?_) (λH=>?_))
 ·refine rc T 10 (dD mix az (au T J (au T J (au T J (aO J J J (aw T J J J J (aI (j:=0) J J)) (au T J (au T J (au T J (aO J J J (aw T J J J J (aI (j:=0) J J)) (au T J (au T J (au T J (aO J J J (aw T J J J J (aI (j:=4) J J)) (au T J ?_))))))))))))));obtain⟨v7,P8,H⟩:=gx H;refine uV J J J J J J AA J (mh.c P8) (au T J (dg (rx T 2 (mq H [0,1,7] [5,0,0,0,0,0] (λz9 (x8:Bool)=>(x8=z9,[(40,(bb x8))],[])) J J (λz9 c_ _=>?_) ?_))))
  ·refine rc T 4 (ad 33 J c_ (λc_=>?_) (λc_=>?_))
   ·refine ro T 9 (am _ [5,0,0,0,0,0] (oi c_) J J)
   refine ro T 3 (lf T 0 J (ro T 1 (bz J (p9 (k:=v7) T (Ky.int .i64 u3) (λx:Bool=>Value.bool x) J J J J J (oE tm (j:=1) J)) (ro T 3 (am _ [5,0,0,0,0,0] (oi c_) J J)))))
  rintro _ x8 rfl H;refine cb J H (λH=>?_) (λH=>?_)
  ·refine rc T 10 ?_
   cases H;exact p1 T J [1,1,1,1,1,0] ⟨ry,Dv,DC,Et,Du,wM,xw,wG,tm,zD,tl,J,J⟩ J
  refine rc T 3 (fz J (rz [8] mix (bM bL) (λhg pf=>ha T 6 [0,1,2] sz hg pf J (av 3 sz hg pf J (aw T J J J J (aI (j:=1) J J)) (ha T 2 [4,5,6] sz hg pf J (av 7 sz hg pf J (aw T J J J J (aI (j:=5) J J)) (ao 8 (DF (g:=2) (m:=ag.j3) (k:=u.Cell) T (Ky.int .i64 u3) (λx:Bool=>Value.bool x) J J J J J J J J tm (λfe ft=>an sl (ae (rx T 7 (sg T 5 J (ro T 3 (ks [0,1,7] J (fz J (rg [12,15] [0,0,0,0,0,0] mix (bM bL) (λhg pf=>ha T 12 [0,1,2,3] sz hg pf J (av 4 sz hg pf J (aw T J J J J (aI (j:=1) J J)) (ha T 8 [5,6,7] sz hg pf J (av 8 sz hg pf J (aw T J J J J (aI (j:=5) J J)) (ha T 5 [9,10] sz hg pf J (ao 11 (cV (k:=jJ) T [(ff.mk u.Id v7)] J J J J J J J J J (λmr kn gp=>an (so [0,0,0,0,0,0]) (ao 12 ?_)))))))))))))))))))))))));obtain⟨Ai,H⟩:=aA H;refine ez (k:=jJ) (xs:=ag.kI) T (g:=3) J J J J J J J J J J zD (oO gp 6) Ai J (λa20 n20 oh me=>an sl (hb T 13 sl hg pf J (hb T 14 sl hg pf J (ao 15 (sf T 1 J (an sl (ae (rx T 1 (rc T 7 (lf T 5 J (ro T 3 (cb J H (λH=>?_) (λH=>?_)))))))))))))
  ·refine rc T 1 (ke [0,1] [0,0,0,0,0,0] J J (fz J (rg [10,13] [0,0,0,0,0,0] mix (bM bL) (λhg pf=>ha T 10 [0,1,2,3] sz hg pf J (av 4 sz hg pf J (aw T J J J J (aI (j:=1) J J)) (ha T 6 [5,6,7] sz hg pf J (av 8 sz hg pf J (aw T J J J J (aI (j:=5) J J)) (ao 9 (cV (k:=(Fl.int .i64)) T [u.Id] J J J J J J J J J (λa21 lC jY=>an (so [0,0,0,0,0,0]) (ao 10 ?_)))))))))));obtain⟨L8,H⟩:=aA H;refine ez (k:=(Fl.int .i64)) (xs:=ag.gone) T (g:=4) J J J J J J J J J J tl (oO jY 6) L8 J (λa22 n22 mN iO=>an sl (hb T 11 sl hg pf J (hb T 12 sl hg pf J (ao 13 (sf T 1 J (an sl (ae (rx T 1 (rc T 10 ?_)))))))))
   cases H;exact p1 T J [1,1,1,1,1,0] ⟨ry,fe,a20,n20,oh,a22,n22,mN,ft,me,iO,J,J⟩ J
  refine rc T 6 (lf T 1 J (ro T 1 (aZ (pU (g:=2) (m:=(dU ag.j3 u.Cell)) (k:=v7) (v:=true) T (Ky.int .i64 u3) (λx:Bool=>Value.bool x) J J J J J J J ft (λjQ g_=>ro T 11 ?_)))))
  cases H;exact p1 T J [1,1,1,1,1,0] ⟨ry,jQ,a20,n20,oh,wM,xw,wG,g_,me,tl,J,J⟩ J
 refine rc T 8 (cb J H (λH=>?_) (λH=>?_))
 ·refine rc T 9 (dD mix az (au T J (au T J (au T J (aO J J J (aw T J J J J (aI (j:=0) J J)) (au T J (au T J (au T J (aO J J J (aw T J J J J (aI (j:=0) J J)) (au T J (au T J (au T J (aO J J J (aw T J J J J (aI (j:=4) J J)) (au T J ?_))))))))))))));obtain⟨v10,Yf,H⟩:=gx H;refine uV J J J J J J AA J (mh.c Yf) (au T J (dg (rx T 2 (mq H [0,1,7] [5,0,0,0,0,0] (λz12 (bd:Bool)=>(bd=z12,[(40,(bb bd))],[])) J J (λz12 Fj _=>?_) ?_))))
  ·refine rc T 4 (ad 33 J Fj (λFj=>?_) (λFj=>?_))
   ·refine ro T 9 (am _ [5,0,0,0,0,0] (oi Fj) J J)
   refine ro T 3 (lf T 0 J (ro T 1 (bz J (p9 (k:=v10) T (Ky.int .i64 u3) (λx:Bool=>Value.bool x) J J J J J (oE tm (j:=1) J)) (ro T 3 (am _ [5,0,0,0,0,0] (oi Fj) J J)))))
  rintro _ bd rfl H;refine cb J H (λH=>?_) (λH=>?_)
  ·refine rc T 10 ?_
   cases H;exact p1 T J [1,1,1,1,1,0] ⟨ry,Dv,DC,Et,Du,wM,xw,wG,tm,zD,tl,J,J⟩ J
  refine rc T 3 (fz J (rz [8] mix (bM bL) (λhg pf=>ha T 6 [0,1,2] sz hg pf J (av 3 sz hg pf J (aw T J J J J (aI (j:=1) J J)) (ha T 2 [4,5,6] sz hg pf J (av 7 sz hg pf J (aw T J J J J (aI (j:=5) J J)) (ao 8 (DF (g:=2) (m:=ag.j3) (k:=u.Cell) T (Ky.int .i64 u3) (λx:Bool=>Value.bool x) J J J J J J J J tm (λqx lO=>an sl (ae (rx T 7 (sg T 5 J (ro T 3 (ks [0,1,7] J (fz J (rg [12,15] [0,0,0,0,0,0] mix (bM bL) (λhg pf=>ha T 12 [0,1,2,3] sz hg pf J (av 4 sz hg pf J (aw T J J J J (aI (j:=1) J J)) (ha T 8 [5,6,7] sz hg pf J (av 8 sz hg pf J (aw T J J J J (aI (j:=5) J J)) (ha T 5 [9,10] sz hg pf J (ao 11 (cV (k:=jJ) T [(ff.mk u.Id v10)] J J J J J J J J J (λa25 gS jt=>an (so [0,0,0,0,0,0]) (ao 12 ?_)))))))))))))))))))))))));obtain⟨c30,H⟩:=aA H;refine ez (k:=jJ) (xs:=ag.kI) T (g:=3) J J J J J J J J J J zD (oO jt 6) c30 J (λa26 n26 oo mF=>an sl (hb T 13 sl hg pf J (hb T 14 sl hg pf J (ao 15 (sf T 1 J (an sl (ae (rx T 1 (rc T 7 (lf T 5 J (ro T 3 (cb J H (λH=>?_) (λH=>?_)))))))))))))
  ·refine rc T 1 (ke [0,1] [0,0,0,0,0,0] J J (fz J (rg [10,13] [0,0,0,0,0,0] mix (bM bL) (λhg pf=>ha T 10 [0,1,2,3] sz hg pf J (av 4 sz hg pf J (aw T J J J J (aI (j:=1) J J)) (ha T 6 [5,6,7] sz hg pf J (av 8 sz hg pf J (aw T J J J J (aI (j:=5) J J)) (ao 9 (cV (k:=(Fl.int .i64)) T [u.Id] J J J J J J J J J (λIL E9 vX=>an (so [0,0,0,0,0,0]) (ao 10 ?_)))))))))));obtain⟨c32,H⟩:=aA H;refine ez (k:=(Fl.int .i64)) (xs:=ag.gone) T (g:=4) J J J J J J J J J J tl (oO vX 6) c32 J (λa28 n28 uH ki=>an sl (hb T 11 sl hg pf J (hb T 12 sl hg pf J (ao 13 (sf T 1 J (an sl (ae (rx T 1 (rc T 10 ?_)))))))))
   cases H;exact p1 T J [1,1,1,1,1,0] ⟨ry,qx,a26,n26,oo,a28,n28,uH,lO,mF,ki,J,J⟩ J
  refine rc T 6 (lf T 1 J (ro T 1 (aZ (pU (g:=2) (m:=(dU ag.j3 u.Cell)) (k:=v10) (v:=true) T (Ky.int .i64 u3) (λx:Bool=>Value.bool x) J J J J J J J lO (λrk qQ=>ro T 11 ?_)))))
  cases H;exact p1 T J [1,1,1,1,1,0] ⟨ry,rk,a26,n26,oo,wM,xw,wG,qQ,mF,tl,J,J⟩ J
 refine rc T 16 ?_
 cases H;exact p1 T J [0,0,0,0,0,0] ⟨ry,Dv,DC,Et,Du,wM,xw,wG,tm,zD,tl,J,J⟩ J
def jK.l1:Nat->Int->Int->(List aD)->(List Int)->List aD->Int->Int->(List (Int×Bool))->List ff->List Int->Int->Option ((List aD)×(List ff)×(List Int)×Int)
 |0,_,_,_,_,_,_,_,_,_,_,_=>none
 |py+1,w,h,l,aF,cZ,dw,dC,lA,dM,bX,eh=>if eh<(List.length l:Int) then(if(0<=eh/\eh<(List.length l:Int)) then(if(0<=eh/\eh<(List.length aF:Int)) then((vG.f (mC.mk dw dC lA dM bX) (rd l eh) (rd aF eh)).bind λv25=>if v25.1=true then(if(List.length cZ+1<=1099511627776) then(jK.l1 py w h l aF (cZ++[v25.2.2]) v25.2.1.w v25.2.1.h v25.2.1.j3 v25.2.1.kI v25.2.1.gone (aa (eh+1))) else none) else(jK.l1 py w h l aF cZ v25.2.1.w v25.2.1.h v25.2.1.j3 v25.2.1.kI v25.2.1.gone (aa (eh+1)))) else none) else none) else(some (cZ,dM,bX,0))
def jK.l0:Nat->Int->Int->(List aD)->(List Int)->(List (Int×Bool))->Int->Option ((List aD)×(List ff)×(List Int)×Int)
 |0,_,_,_,_,_,_=>none
 |k9+1,w,h,l,aF,x7,x8=>if x8<(List.length l:Int) then(if(0<=x8/\x8<(List.length l:Int)) then(jK.l0 k9 w h l aF (cE x7 ((rd l x8).Cell) true) (aa (x8+1))) else none) else(jK.l1 fuel w h l aF [] w h x7 [] [] 0)
def jK.f (w:Int) (h:Int) (l:(List aD)) (aF:(List Int)):Option ((List aD)×(List ff)×(List Int)×Int):=((pF.f w h l).bind λv3=>if((!v3)||((List.length aF:Int)!=(List.length l:Int)))=true then(some true) else((Dd.f aF).bind λv4=>some v4)).bind λx1=>if x1=true then(some ([],[],[],1)) else(jK.l0 fuel w h l aF ([]:(List (Int×Bool))) 0)
def jK.R (r:((List aD)×(List ff)×(List Int)×Int)):bm:=λu G=> ∃a0 n0 H0 a1 n1 H1 a2 n2 H2,aj lL 67 r.1 a0 n0 H0/\aj jJ 94 r.2.1 a1 n1 H1/\aj (Fl.int .i64) 3 r.2.2.1 a2 n2 H2/\u=(.tuple #[(ll a0 r.1 n0),(ll a1 r.2.1 n1),(ll a2 r.2.2.1 n2),(ii r.2.2.2)])/\G=[H0,H1,H2]
theorem jK.c (H:jK.f w h l aF=some r) (dh:aU lL l iy F) (gz:List.length l<=iq) (F6:aU (Fl.int .i64) aF LA F) (Mb:List.length aF<=Oz):
 QR 166 [(ii w),(ii h),(ll iy l iq),(ll LA aF Oz)] [] [] F (jK.R r):=by
 unfold jK.f at H;refine aG Tryz.func166 J J (λW=>rc T 14 (mq H [0,1,2,3,8] [0] (λz2 (x1:Bool)=>(x1=z2,[(34,(bb x1))],[])) J J (λz2 Z1 _=>?_) ?_))
 ·refine rc T 4 (k [] J TB Z1 (pF.c · (rO dh 0) gz) (λv3 Z1=>ro T 2 (go T [6,7,8,9,10,11] 23 [0,1,2,3,8,12] 29 J J J J J J J (ro T 1 (ab 30 J Z1 (λZ1=>?_) (λZ1=>?_))))))
  ·refine ro T 6 (am _ [0] (oi Z1) J J)
  refine ro T 2 (k [] J acX Z1 (Dd.c · (rO F6 0) Mb) (λv4 Z1=>ro T 3 (am _ [0] (oi Z1) J J)))
 rintro _ x1 rfl H;refine cb J H (λH=>?_) (λH=>?_)
 ·refine rc T 10 ?_
  cases H;refine bC (bC (bC (p1 T J [1,1,1,0] ⟨none,0,[],none,0,[],none,0,[],aj.nil,aj.nil,aj.nil,J,J⟩ J)))
 refine rc T 8 (aZ (uU T (Ky.int .i64 u3) (λx:Bool=>Value.bool x) J J J ⟨_,_,J⟩ (λa4 H4 s4=>ro T 1 (nc T J (λb5=>ro T 12 (lq [2,3,8,13,42,43] [0] (λ(⟨k9,x7,x8,a7,H7⟩:Nat×(List (Int×Bool))×Int×Nat×Hp)=>(jK.l0 k9 w h l aF x7 x8=some r/\cQ (Ky.int .i64 u3) (λx:Bool=>Value.bool x) x7 a7 H7,[(44,(ii x8))],[(cl b5 309 [(ii w),(ii h),(.map (some a7)),nl,nl]),H7])) J J (fuel,([]:(List (Int×Bool))),0,a4,H4) [0,1,0] ⟨H,s4⟩ J J ?_))))));rintro k9 ⟨x7,x8,a7,H7⟩ ⟨Z6,s7⟩;rw[jK.l0] at Z6;refine rc T 6 (cd J Z6 (λZ6=>?_) (λZ6=>?_))
 ·refine rc T 6 ?_;obtain⟨c8,Z6⟩:=aA Z6;obtain⟨q8,o8,e8⟩:=dh.addr c8.1 c8.2;refine ix T J e8 c8 (bz J (fX T (cs:=[(ii (rd l x8).Id),(ii (rd l x8).Cell),(ii (rd l x8).Goal)]) J J J J J J (ig (k:=lL) (rO dh 0) e8 c8 J)) (nc T J (λb9=>sg T 3 J (ro T 2 (ks [2,3,8,13,15,42,43,44] J (fz J (rz [6] mix (bM bL) (λhg pf=>ha T 4 [0,1,2] sz hg pf J (av 3 sz hg pf J (aw T J J J J (aI (j:=1) J J)) (ha T 2 [4] sz hg pf J (av 5 sz hg pf J (aw T J J J J (aI (j:=3) J J)) (ao 6 (pU (g:=2) (m:=x7) (k:=(rd l x8).Cell) (v:=true) T (Ky.int .i64 u3) (λx:Bool=>Value.bool x) J J J J J J J s7 (λbZ bU=>an sl (ae (rx T 7 (ar (_,_,_,_) [0,0,0] ⟨Z6,bU⟩ J J)))))))))))))))))
 refine rc T 14 (bC (bC (bC (lq [3,13,55,56] [0] (λ(⟨py,cZ,dw,dC,lA,dM,bX,eh,jz,n15,dP,j6,gk,a17,n17,eF,iU,n18,fe⟩:Nat×List aD×Int×Int×(List (Int×Bool))×List ff×List Int×Int×Option Addr×Nat×Hp×Nat×Hp×Option Addr×Nat×Hp×Option Addr×Nat×Hp)=>(jK.l1 py w h l aF cZ dw dC lA dM bX eh=some r/\aj lL 67 cZ jz n15 dP/\cQ (Ky.int .i64 u3) (λx:Bool=>Value.bool x) lA j6 gk/\aj jJ 94 dM a17 n17 eF/\aj (Fl.int .i64) 3 bX iU n18 fe,[(8,(ll jz cZ n15)),(57,(ii eh))],[dP,(cl b5 309 [(ii dw),(ii dC),(.map (some j6)),(ll a17 dM n17),(ll iU bX n18)]),gk,eF,fe])) J J (fuel,[],w,h,x7,[],[],0,none,0,[],a7,H7,none,0,[],none,0,[]) [0,2,0,0,0,0] ⟨Z6,aj.nil,s7,aj.nil,aj.nil⟩ J J ?_))));rintro py ⟨cZ,dw,dC,lA,dM,bX,eh,jz,n15,dP,j6,gk,a17,n17,eF,iU,n18,fe⟩ ⟨Z9,dV,gd,fq,ft⟩;rw[jK.l1] at Z9;refine rc T 6 (cd J Z9 (λZ9=>?_) (λZ9=>?_))
 ·refine rc T 7 ?_;obtain⟨eH,Z9⟩:=aA Z9;obtain⟨q19,o19,FU⟩:=dh.addr eH.1 eH.2;refine ix T J FU eH (bz J (fX T (cs:=[(ii (rd l eh).Id),(ii (rd l eh).Cell),(ii (rd l eh).Goal)]) J J J J J J (ig (k:=lL) (rO dh 0) FU eH J)) (nc T J (λDH=>ro T 1 (sg T 6 J (ro T 7 ?_)))));obtain⟨fW,Z9⟩:=aA Z9;obtain⟨CX,Vs,Av⟩:=F6.addr fW.1 fW.2;refine ix T J Av fW (le T 0 (rO F6 0) Av fW J J (kr (vG.R b5 DH) [] [2,2,2,2,2] J acY Z9 (vG.c (ag:=(mC.mk dw dC lA dM bX)) · gd fq ft) (λv25 Z9=>?_)));rintro _ _ ⟨a22,mN,a23,n23,jQ,a24,n24,qx,iO,g_,lO,rfl,rfl⟩;refine fz J (ro T 2 (cb J Z9 (λZ9=>?_) (λZ9=>?_)))
  ·refine rc T 2 (lm T 6 J (aZ (cV (k:=lL) T [v25.2.2] J J J J J J J J J (λa25 gS jt=>?_))));obtain⟨yC,Z9⟩:=aA Z9;refine aZ (ez (k:=lL) (xs:=cZ) T (g:=1) J J J J J J J J J J dV (oO jt 7) yC J (λa26 n26 oo mF=>ro T 2 (ke [3,8,13,55,56,57] [0,0,0,0,0,0] J J (rx T 7 (ar (_,_,_,_,_,_,_,_,_,_,_,_,_,_,_,_,_,_) [0,0,0,0,0,0] ⟨Z9,mF,iO,g_,lO⟩ J J)))))
  refine rc T 8 (ar (_,_,_,_,_,_,_,_,_,_,_,_,_,_,_,_,_,_) [0,0,0,0,0,0] ⟨Z9,dV,iO,g_,lO⟩ J J)
 refine rc T 6 (dD mix az ?_)
 iterate 4 refine au T J ?_
 refine aO J J J (aw T J J J J (aI (j:=2) J J)) (au T J (au T J (au T J (aO J J J (aw T J J J J (aI (j:=2) J J)) ?_))))
 iterate 4 refine au T J ?_
 refine dg (rx T 2 ?_)
 cases Z9;exact p1 T J [1,3,3,0] ⟨jz,n15,dP,a17,n17,eF,iU,n18,fe,dV,fq,ft,J,J⟩ J
end
noncomputable section
def lR.l0:Nat->fb->List Int->Int->Option (List Int)
 |0,_,_,_=>none
 |k5+1,u,x3,x4=>if x4<(List.length u.order:Int) then(if(0<=x4/\x4<(List.length u.order:Int)) then(if(bO u.live (rd u.order x4))=true then(if(List.length x3+1<=1099511627776) then(lR.l0 k5 u (x3++[(rd u.order x4)]) (aa (x4+1))) else none) else(lR.l0 k5 u x3 (aa (x4+1)))) else none) else(some x3)
def lR.f (u:fb):Option (List Int):=lR.l0 fuel u [] 0
def lR.R (r:(List Int)):bm:=λu G=> ∃a0 n0 H0,aj (Fl.int .i64) 3 r a0 n0 H0/\u=(ll a0 r n0)/\G=[H0]
theorem lR.c (H:lR.f u=some r) (jM:cQ (Ky.int .i64 u3) (λx:aD=>Value.agg #[.int .i64 x.Id,.int .i64 x.Cell,.int .i64 x.Goal]) u.live iW kq) (kj:aj (Fl.int .i64) 3 u.order jA jL jw):
 QR 109 [(pp eO)] [(cl eO 178 [(ii u.most),(ii u.next),(.map (some iW)),(ll jA u.order jL)]),kq,jw] [(cl eO 178 [(ii u.most),(ii u.next),(.map (some iW)),(ll jA u.order jL)]),kq,jw] F (lR.R r):=by
 unfold lR.f at H;refine aG Tryz.func109 J J (λW=>rc T 16 (lf T 0 J (ro T 5 (bC (lq [0,11,12] [3,0,0,0] (λ(⟨k5,x3,x4,a5,n5,H5⟩:Nat×List Int×Int×Option Addr×Nat×Hp)=>(lR.l0 k5 u x3 x4=some r/\aj (Fl.int .i64) 3 x3 a5 n5 H5,[(3,(ll a5 x3 n5)),(13,(ii x4))],[H5])) J J (fuel,[],0,none,0,[]) [3,0,0,0,0] ⟨H,aj.nil⟩ J J ?_)))));rintro k5 ⟨x3,x4,a5,n5,H5⟩ ⟨Z1,s5⟩;rw[lR.l0] at Z1;refine rc T 6 (cd J Z1 (λZ1=>?_) (λZ1=>?_))
 ·refine rc T 6 ?_;obtain⟨c3,Z1⟩:=aA Z1;obtain⟨q6,o6,e6⟩:=kj.r.addr c3.1 c3.2;refine ix T J e6 c3 (le T 0 (oO kj 3) e6 c3 J J (ro T 8 (lf T 1 J (ro T 1 (bz J (p9 (k:=(rd u.order x4)) T (Ky.int .i64 u3) (λx:aD=>Value.agg #[.int .i64 x.Id,.int .i64 x.Cell,.int .i64 x.Goal]) J J J J J (oE jM (j:=2) J)) (ro T 3 (nc T J (λb7=>sg T 5 J (ro T 8 (cb J Z1 (λZ1=>?_) (λZ1=>?_)))))))))))
  ·refine rc T 3 (aZ (cV (k:=(Fl.int .i64)) T [(rd u.order x4)] J J J J J J J J J (λa8 H8 s8=>?_)));obtain⟨c5,Z1⟩:=aA Z1;refine aZ (ez (k:=(Fl.int .i64)) (xs:=x3) T (g:=4) J J J J J J J J J J s5 (oO s8 6) c5 J (λa9 n9 H9 s9=>ro T 9 (ar (_,_,_,_,_) [0,0,0,0,0] ⟨Z1,s9⟩ J J)))
  refine rc T 8 (ar (_,_,_,_,_) [0,0,0,0,0] ⟨Z1,s5⟩ J J)
 refine rc T 12 ?_
 cases Z1;exact p1 T J [4,1,1,1,0] ⟨a5,n5,H5,s5,J,J⟩ J
def oL.l0:Nat->fb->(List Int)->List aD->Int->Option (List aD)
 |0,_,_,_,_=>none
 |k6+1,u,v1,x4,x5=>if x5<(List.length v1:Int) then(if(0<=x5/\x5<(List.length v1:Int)) then(if(List.length x4+1<=1099511627776) then(oL.l0 k6 u v1 (x4++[(aD.mk ((aQ u.live (rd v1 x5)).Id) ((aQ u.live (rd v1 x5)).Cell) ((aQ u.live (rd v1 x5)).Goal))]) (aa (x5+1))) else none) else none) else(some x4)
def oL.f (u:fb):Option (List aD):=(lR.f u).bind λv1=>oL.l0 fuel u v1 [] 0
def oL.R (r:(List aD)):bm:=λu G=> ∃a0 n0 H0,aj lL 67 r a0 n0 H0/\u=(ll a0 r n0)/\G=[H0]
theorem oL.c (H:oL.f u=some r) (jM:cQ (Ky.int .i64 u3) (λx:aD=>Value.agg #[.int .i64 x.Id,.int .i64 x.Cell,.int .i64 x.Goal]) u.live iW kq) (kj:aj (Fl.int .i64) 3 u.order jA jL jw):
 QR 81 [(pp eO)] [(cl eO 178 [(ii u.most),(ii u.next),(.map (some iW)),(ll jA u.order jL)]),kq,jw] [(cl eO 178 [(ii u.most),(ii u.next),(.map (some iW)),(ll jA u.order jL)]),kq,jw] F (oL.R r):=by
 unfold oL.f at H;refine aG Tryz.func81 J J (λW=>rc T 12 (eY J (rc T 11 (kr lR.R [0,0,0] [0,0,0] J SK H (lR.c · jM kj) (λv1 H=>?_)))));rintro _ _ ⟨a4,n4,H4,s4,rfl,rfl⟩;refine fz J (ro T 5 (bC (lq [0,9,10] [0,1,1,1,0] (λ(⟨k6,x4,x5,a6,n6,H6⟩:Nat×List aD×Int×Option Addr×Nat×Hp)=>(oL.l0 k6 u v1 x4 x5=some r/\aj lL 67 x4 a6 n6 H6,[(3,(ll a6 x4 n6)),(11,(ii x5))],[H6])) J J (fuel,[],0,none,0,[]) [0,1,1,1,0,0] ⟨H,aj.nil⟩ J J ?_)));rintro k6 ⟨x4,x5,a6,n6,H6⟩ ⟨Z2,s6⟩;rw[oL.l0] at Z2;refine rc T 6 (cd J Z2 (λZ2=>?_) (λZ2=>?_))
 ·refine rc T 6 ?_;obtain⟨c4,Z2⟩:=aA Z2;obtain⟨q7,o7,e7⟩:=s4.r.addr c4.1 c4.2;refine ix T J e7 c4 (le T 0 (oO s4 4) e7 c4 J J (ro T 8 (lf T 1 J (ro T 1 (bz J (p9 (k:=(rd v1 x5)) T (Ky.int .i64 u3) (λx:aD=>Value.agg #[.int .i64 x.Id,.int .i64 x.Cell,.int .i64 x.Goal]) J J J J J (oE jM (j:=2) J)) (aZ (cV (k:=lL) T [(aD.mk ((aQ u.live (rd v1 x5)).Id) ((aQ u.live (rd v1 x5)).Cell) ((aQ u.live (rd v1 x5)).Goal))] J J J J J J J J J (λa8 H8 s8=>?_))))))));obtain⟨c5,Z2⟩:=aA Z2;refine aZ (ez (k:=lL) (xs:=x4) T (g:=5) J J J J J J J J J J s6 (oO s8 6) c5 J (λa9 n9 H9 s9=>ro T 9 (ar (_,_,_,_,_) [0,0,0,0,0,0] ⟨Z2,s9⟩ J J)))
 refine rc T 12 ?_
 cases Z2;exact p1 T J [5,1,1,1,0] ⟨a6,n6,H6,s6,J,J⟩ J
def xV.f (most:Int):Option (Option fb):=if((decide (most<1))||(decide (most>65536)))=true then(some none) else(some (some (fb.mk most 0 ([]:(List (Int×aD))) [])))
def xV.R (r:(Option fb)):bm:=λu G=> ∃(u0:Value) (G0:List Hp),X8 r u0 G0/\u=u0/\G=G0
theorem xV.c (H:xV.f most=some r):
 QR 152 [(ii most)] [] [] F (xV.R r):=by
 unfold xV.f at H;refine aG Tryz.func152 J J (λW=>rc T 11 (go T [3,4,5] 5 [0] 8 J J J J J J J (ro T 2 (cb J H (λH=>?_) (λH=>?_)))))
 ·refine rc T 7 ?_
  cases H;exact p1 T J [0] ⟨_,_,⟨J,J⟩,J,J⟩ J
 refine rc T 5 (aZ (uU T (Ky.int .i64 u3) (λx:aD=>Value.agg #[.int .i64 x.Id,.int .i64 x.Cell,.int .i64 x.Goal]) J J J trivial (λa1 H1 s1=>ro T 1 (nc T J (λb2=>ro T 4 ?_)))))
 cases H;refine bC (p1 T J [2,1,1,0] ⟨_,_,⟨b2,a1,H1,none,0,[],s1,aj.nil,J,J⟩,J,J⟩ J)
def wu.f (u:fb):Option Int:=some (List.length u.live:Int)
theorem wu.c (H:wu.f u=some r) (jM:cQ (Ky.int .i64 u3) (λx:aD=>Value.agg #[.int .i64 x.Id,.int .i64 x.Cell,.int .i64 x.Goal]) u.live iW kq) (kj:aj (Fl.int .i64) 3 u.order jA jL jw):
 QU 158 [(pp eO)] [(cl eO 178 [(ii u.most),(ii u.next),(.map (some iW)),(ll jA u.order jL)]),kq,jw] F (ii r):=by
 unfold wu.f at H;refine aG Tryz.func158 J J (λW=>rc T 12 (eY J (rc T 7 (lf T 0 J (bz J (MJ T (Ky.int .i64 u3) (λx:aD=>Value.agg #[.int .i64 x.Id,.int .i64 x.Cell,.int .i64 x.Goal]) J J J (oE jM (j:=1) J)) (ro T 4 ?_))))))
 cases H;exact p0 T J [0,0,0,0] J
def wq.f (u:fb) (cell:Int) (goal:Int):Option (Int×Bool×fb):=if(List.length u.live:Int)≥u.most then(some (0,false,u)) else(if(List.length u.order+1<=1099511627776) then(some (u.next,true,(fb.mk u.most (aa (u.next+1)) (cE u.live u.next (aD.mk u.next cell goal)) (u.order++[u.next])))) else none)
def wq.R (eO:Nat) (r:(Int×Bool×fb)):bm:=λu G=> ∃(a0:Nat) (H0:Hp) (a1 n1 H1:_),cQ (Ky.int .i64 u3) (λx:aD=>Value.agg #[.int .i64 x.Id,.int .i64 x.Cell,.int .i64 x.Goal]) r.2.2.live a0 H0/\aj (Fl.int .i64) 3 r.2.2.order a1 n1 H1/\u=(.tuple #[(ii r.1),(bb r.2.1)])/\G=[(cl eO 178 [(ii r.2.2.most),(ii r.2.2.next),(.map (some a0)),(ll a1 r.2.2.order n1)]),H0,H1]
theorem wq.c (H:wq.f u cell goal=some r) (jM:cQ (Ky.int .i64 u3) (λx:aD=>Value.agg #[.int .i64 x.Id,.int .i64 x.Cell,.int .i64 x.Goal]) u.live iW kq) (kj:aj (Fl.int .i64) 3 u.order jA jL jw):
 QR 156 [(pp eO),(ii cell),(ii goal)] [(cl eO 178 [(ii u.most),(ii u.next),(.map (some iW)),(ll jA u.order jL)]),kq,jw] [] F (wq.R eO r):=by
 unfold wq.f at H;refine aG Tryz.func156 J J (λW=>rc T 8 (dD mix az ?_))
 iterate 6 refine au T J ?_
 refine aO J J J (aw T J J J J (aI (j:=0) J J)) (aO J J J (MJ T (Ky.int .i64 u3) (λx:aD=>Value.agg #[.int .i64 x.Id,.int .i64 x.Cell,.int .i64 x.Goal]) J J J (oE jM (j:=1) J)) (au T J (au T J (au T J (aO J J J (aw T J J J J (aI (j:=0) J J)) (au T J (au T J (dg (rx T 1 (cd J H (λH=>?_) (λH=>?_)))))))))))
 ·refine rc T 8 ?_
  cases H;exact p1 T J [0,0,0,0] ⟨iW,kq,jA,jL,jw,jM,kj,J,J⟩ J
 refine rc T 7 (lf T 0 J (ro T 8 (lf T 0 J (ro T 3 (sg T 0 J (ro T 7 (lf T 0 J (ro T 5 (aZ (pU (g:=1) (m:=u.live) (k:=u.next) (v:=(aD.mk u.next cell goal)) T (Ky.int .i64 u3) (λx:aD=>Value.agg #[.int .i64 x.Id,.int .i64 x.Cell,.int .i64 x.Goal]) J J J J J J J jM (λH4 s4=>ro T 8 (lf T 0 J (ro T 1 (aZ (cV (k:=(Fl.int .i64)) T [u.next] J J J J J J J J J (λa5 H5 s5=>?_))))))))))))))))
 obtain⟨c2,H⟩:=aA H;refine aZ (ez (k:=(Fl.int .i64)) (xs:=u.order) T (g:=2) J J J J J J J J J J kj (oO s5 4) c2 J (λa6 n6 H6 s6=>ro T 2 (sg T 0 J (ro T 1 (ke [8] [0,0,0,0] J J (rx T 9 ?_))))))
 cases H;exact p1 T J [0,0,0,0] ⟨iW,H4,a6,n6,H6,s4,s6,J,J⟩ J
def oP.f (u:fb) (ai:Int):Option (aD×Bool):=some ((aD.mk ((aQ u.live ai).Id) ((aQ u.live ai).Cell) ((aQ u.live ai).Goal)),(bO u.live ai))
theorem oP.c (H:oP.f u ai=some r) (jM:cQ (Ky.int .i64 u3) (λx:aD=>Value.agg #[.int .i64 x.Id,.int .i64 x.Cell,.int .i64 x.Goal]) u.live iW kq) (kj:aj (Fl.int .i64) 3 u.order jA jL jw):
 QU 122 [(pp eO),(ii ai)] [(cl eO 178 [(ii u.most),(ii u.next),(.map (some iW)),(ll jA u.order jL)]),kq,jw] F (.tuple #[(.agg #[(ii r.1.Id),(ii r.1.Cell),(ii r.1.Goal)]),(bb r.2)]):=by
 unfold oP.f at H;refine aG Tryz.func122 J J (λW=>rc T 2 (nc T J (λb4=>ro T 10 (eY J (rc T 7 (lf T 0 J (ro T 1 (bz J (p9 (k:=ai) T (Ky.int .i64 u3) (λx:aD=>Value.agg #[.int .i64 x.Id,.int .i64 x.Cell,.int .i64 x.Goal]) J J J J J (oE jM (j:=1) J)) (ro T 3 (nc T J (λb5=>sg T 5 J (ro T 5 (lm T 5 J (ro T 1 (sg T 4 J (ro T 2 (ke [4,5] [0,0,0,0,0] J J (rx T 1 (rc T 1 ?_)))))))))))))))))))
 cases H;exact pb T J (.cN (j:=4) [(ii (aQ u.live ai).Id),(ii (aQ u.live ai).Cell),(ii (aQ u.live ai).Goal)] J J J J J J J (.tmp J .nil)) [0,0,0,0] () J J
def xX.f (u:fb) (ai:Int):Option (Bool×fb):=(oP.f u ai).bind λv1=>if(!v1.2)=true then(some (false,u)) else(if(List.length u.order:Int)>(aa (2*(List.length (dU u.live ai):Int))) then((lR.f (fb.mk u.most u.next (dU u.live ai) u.order)).bind λv2=>some (true,(fb.mk u.most u.next (dU u.live ai) v2))) else(some (true,(fb.mk u.most u.next (dU u.live ai) u.order))))
def xX.R (eO:Nat) (r:(Bool×fb)):bm:=λu G=> ∃(a0:Nat) (H0:Hp) (a1 n1 H1:_),cQ (Ky.int .i64 u3) (λx:aD=>Value.agg #[.int .i64 x.Id,.int .i64 x.Cell,.int .i64 x.Goal]) r.2.live a0 H0/\aj (Fl.int .i64) 3 r.2.order a1 n1 H1/\u=(bb r.1)/\G=[(cl eO 178 [(ii r.2.most),(ii r.2.next),(.map (some a0)),(ll a1 r.2.order n1)]),H0,H1]
theorem xX.c (H:xX.f u ai=some r) (jM:cQ (Ky.int .i64 u3) (λx:aD=>Value.agg #[.int .i64 x.Id,.int .i64 x.Cell,.int .i64 x.Goal]) u.live iW kq) (kj:aj (Fl.int .i64) 3 u.order jA jL jw):
 QR 159 [(pp eO),(ii ai)] [(cl eO 178 [(ii u.most),(ii u.next),(.map (some iW)),(ll jA u.order jL)]),kq,jw] [] F (xX.R eO r):=by
 unfold xX.f at H;refine aG Tryz.func159 J J (λW=>rc T 9 (k [0,0,0] J B5 H (oP.c · jM kj) (λv1 H=>ro T 3 (nc T J (λb4=>sg T 4 J (ro T 10 (cb J H (λH=>?_) (λH=>?_))))))))
 ·refine rc T 7 ?_
  cases H;exact p1 T J [0,0,0,0] ⟨iW,kq,jA,jL,jw,jM,kj,J,J⟩ J
 refine rc T 7 (lf T 0 J (ro T 1 (aZ (DF (g:=1) (m:=u.live) (k:=ai) T (Ky.int .i64 u3) (λx:aD=>Value.agg #[.int .i64 x.Id,.int .i64 x.Cell,.int .i64 x.Goal]) J J J J J J J J jM (λH5 s5=>ro T 4 (dD mix az (au T J (au T J (au T J (aO J J J (aw T J J J J (aI (j:=0) J J)) ?_))))))))))
 iterate 4 refine au T J ?_
 refine aO J J J (aw T J J J J (aI (j:=0) J J)) (aO J J J (MJ T (Ky.int .i64 u3) (λx:aD=>Value.agg #[.int .i64 x.Id,.int .i64 x.Cell,.int .i64 x.Goal]) J J J (oE s5 (j:=1) J)) (au T J (au T J (dg (rx T 1 (cd J H (λH=>?_) (λH=>?_)))))))
 ·refine rc T 3 (kr lR.R [0,0,0] [0,0,0] J SK H (lR.c (u:=(fb.mk u.most u.next (dU u.live ai) u.order)) · s5 kj) (λv2 H=>?_))
  rintro _ _ ⟨a6,n6,H6,s6,rfl,rfl⟩;refine fz J (ro T 2 (sg T 3 J (ro T 1 (ke [] [0,1,1,1] J J (rx T 7 ?_)))))
  cases H;exact p1 T J [2,2,1,0] ⟨iW,H5,a6,n6,H6,s5,s6,J,J⟩ J
 refine rc T 8 ?_
 cases H;exact p1 T J [0,0,0,0] ⟨iW,H5,jA,jL,jw,s5,kj,J,J⟩ J
def Bp.f (x:aD) (ai:Int):Option aD:=some (aD.mk x.Id x.Cell ai)
def Bp.R (yy:Nat) (r:aD) (u:Value) (G:List Hp):Prop:=u=(.tuple #[])/\G=[(cl yy 67 [(ii r.Id),(ii r.Cell),(ii r.Goal)])]
theorem Bp.c (H:Bp.f x ai=some r):
 QR 162 [(pp yy),(pp tQ)] [(cl yy 67 [(ii x.Id),(ii x.Cell),(ii x.Goal)]),(cl tQ 3 [(ii ai)])] [(cl tQ 3 [(ii ai)])] F (Bp.R yy r):=by
 unfold Bp.f at H;refine aG Tryz.func162 J J (λW=>rc T 2 (lf T 1 J (ro T 2 (sg T 0 J (ro T 1 (jf ?_))))))
 cases H;exact p1 T J [0,0,0] ⟨J,J⟩ J
def xZ.f (u:fb) (ai:Int) (zm:Int):Option (Bool×fb):=(oP.f u ai).bind λv1=>if v1.2=true then((Bp.f v1.1 zm).bind λv2=>some (v1.2,(fb.mk u.most u.next (cE u.live ai v2) u.order))) else(some (v1.2,u))
def xZ.R (eO:Nat) (r:(Bool×fb)):bm:=λu G=> ∃(a0:Nat) (H0:Hp) (a1 n1 H1:_),cQ (Ky.int .i64 u3) (λx:aD=>Value.agg #[.int .i64 x.Id,.int .i64 x.Cell,.int .i64 x.Goal]) r.2.live a0 H0/\aj (Fl.int .i64) 3 r.2.order a1 n1 H1/\u=(bb r.1)/\G=[(cl eO 178 [(ii r.2.most),(ii r.2.next),(.map (some a0)),(ll a1 r.2.order n1)]),H0,H1]
theorem xZ.c (H:xZ.f u ai zm=some r) (jM:cQ (Ky.int .i64 u3) (λx:aD=>Value.agg #[.int .i64 x.Id,.int .i64 x.Cell,.int .i64 x.Goal]) u.live iW kq) (kj:aj (Fl.int .i64) 3 u.order jA jL jw):
 QR 161 [(pp eO),(ii ai),(.func (.func 162) #[] #[(pp FK)])] [(cl eO 178 [(ii u.most),(ii u.next),(.map (some iW)),(ll jA u.order jL)]),kq,jw,(cl FK 3 [(ii zm)])] [(cl FK 3 [(ii zm)])] F (xZ.R eO r):=by
 unfold xZ.f at H;refine aG Tryz.func161 J J (λW=>rc T 9 (k [0,0,0] J B5 H (oP.c · jM kj) (λv1 H=>ro T 3 (nc T J (λb5=>sg T 5 J (ro T 9 (cb J H (λH=>?_) (λH=>?_))))))))
 ·refine rc T 3 (kr (Bp.R b5) [3] [5,3] J acD H (Bp.c ·) (λv2 H=>?_));rintro _ _ ⟨rfl,rfl⟩;refine fz J (ro T 2 (ks [0,1,7,8] J (fz J (rz [6] mix (bM bL) (λhg pf=>ha T 4 [0,1,2] sz hg pf J (av 3 sz hg pf J (aw T J J J J (aI (j:=0) J J)) (ha T 2 [4] sz hg pf J (av 5 sz hg pf J (gA T 4 J J J J J J J) (ao 6 (pU (g:=1) (m:=u.live) (k:=ai) (v:=v2) T (Ky.int .i64 u3) (λx:aD=>Value.agg #[.int .i64 x.Id,.int .i64 x.Cell,.int .i64 x.Goal]) J J J J J J J jM (λH6 s6=>an sl (ae (rx T 8 ?_)))))))))))))
  cases H;exact p1 T J [0,0,0,2,0] ⟨iW,H6,jA,jL,jw,s6,kj,J,J⟩ J
 refine rc T 9 ?_
 cases H;exact p1 T J [0,0,0,0,0] ⟨iW,kq,jA,jL,jw,jM,kj,J,J⟩ J
def xW.f (u:fb) (ai:Int) (goal:Int):Option (Bool×fb):=(xZ.f u ai goal).bind λv1=>some (v1.1,v1.2)
def xW.R (eO:Nat) (r:(Bool×fb)):bm:=λu G=> ∃(a0:Nat) (H0:Hp) (a1 n1 H1:_),cQ (Ky.int .i64 u3) (λx:aD=>Value.agg #[.int .i64 x.Id,.int .i64 x.Cell,.int .i64 x.Goal]) r.2.live a0 H0/\aj (Fl.int .i64) 3 r.2.order a1 n1 H1/\u=(bb r.1)/\G=[(cl eO 178 [(ii r.2.most),(ii r.2.next),(.map (some a0)),(ll a1 r.2.order n1)]),H0,H1]
theorem xW.c (H:xW.f u ai goal=some r) (jM:cQ (Ky.int .i64 u3) (λx:aD=>Value.agg #[.int .i64 x.Id,.int .i64 x.Cell,.int .i64 x.Goal]) u.live iW kq) (kj:aj (Fl.int .i64) 3 u.order jA jL jw):
 QR 126 [(pp eO),(ii ai),(ii goal)] [(cl eO 178 [(ii u.most),(ii u.next),(.map (some iW)),(ll jA u.order jL)]),kq,jw] [] F (xW.R eO r):=by
 unfold xW.f at H;refine aG Tryz.func126 J J (λW=>rc T 2 (nc T J (λb4=>ro T 8 (kr (xZ.R eO) [4] [0,0,0,1] J S0 H (xZ.c · jM kj) (λv1 H=>?_)))));rintro _ _ ⟨a5,H5,a6,n6,H6,s5,s6,rfl,rfl⟩;refine fz J (ro T 4 ?_)
 cases H;exact p1 T J [1,1,1,0] ⟨a5,H5,a6,n6,H6,s5,s6,J,J⟩ J
def Bq.f (x:aD) (ai:Int):Option aD:=some (aD.mk x.Id ai x.Goal)
def Bq.R (yy:Nat) (r:aD) (u:Value) (G:List Hp):Prop:=u=(.tuple #[])/\G=[(cl yy 67 [(ii r.Id),(ii r.Cell),(ii r.Goal)])]
theorem Bq.c (H:Bq.f x ai=some r):
 QR 200 [(pp yy),(pp tQ)] [(cl yy 67 [(ii x.Id),(ii x.Cell),(ii x.Goal)]),(cl tQ 3 [(ii ai)])] [(cl tQ 3 [(ii ai)])] F (Bq.R yy r):=by
 unfold Bq.f at H;refine aG Tryz.func200 J J (λW=>rc T 2 (lf T 1 J (ro T 2 (sg T 0 J (ro T 1 (jf ?_))))))
 cases H;exact p1 T J [0,0,0] ⟨J,J⟩ J
def x_.f (u:fb) (ai:Int) (zm:Int):Option (Bool×fb):=(oP.f u ai).bind λv1=>if v1.2=true then((Bq.f v1.1 zm).bind λv2=>some (v1.2,(fb.mk u.most u.next (cE u.live ai v2) u.order))) else(some (v1.2,u))
def x_.R (eO:Nat) (r:(Bool×fb)):bm:=λu G=> ∃(a0:Nat) (H0:Hp) (a1 n1 H1:_),cQ (Ky.int .i64 u3) (λx:aD=>Value.agg #[.int .i64 x.Id,.int .i64 x.Cell,.int .i64 x.Goal]) r.2.live a0 H0/\aj (Fl.int .i64) 3 r.2.order a1 n1 H1/\u=(bb r.1)/\G=[(cl eO 178 [(ii r.2.most),(ii r.2.next),(.map (some a0)),(ll a1 r.2.order n1)]),H0,H1]
theorem x_.c (H:x_.f u ai zm=some r) (jM:cQ (Ky.int .i64 u3) (λx:aD=>Value.agg #[.int .i64 x.Id,.int .i64 x.Cell,.int .i64 x.Goal]) u.live iW kq) (kj:aj (Fl.int .i64) 3 u.order jA jL jw):
 QR 161 [(pp eO),(ii ai),(.func (.func 200) #[] #[(pp FK)])] [(cl eO 178 [(ii u.most),(ii u.next),(.map (some iW)),(ll jA u.order jL)]),kq,jw,(cl FK 3 [(ii zm)])] [(cl FK 3 [(ii zm)])] F (x_.R eO r):=by
 unfold x_.f at H;refine aG Tryz.func161 J J (λW=>rc T 9 (k [0,0,0] J B5 H (oP.c · jM kj) (λv1 H=>ro T 3 (nc T J (λb5=>sg T 5 J (ro T 9 (cb J H (λH=>?_) (λH=>?_))))))))
 ·refine rc T 3 (kr (Bq.R b5) [3] [5,3] J ac0 H (Bq.c ·) (λv2 H=>?_));rintro _ _ ⟨rfl,rfl⟩;refine fz J (ro T 2 (ks [0,1,7,8] J (fz J (rz [6] mix (bM bL) (λhg pf=>ha T 4 [0,1,2] sz hg pf J (av 3 sz hg pf J (aw T J J J J (aI (j:=0) J J)) (ha T 2 [4] sz hg pf J (av 5 sz hg pf J (gA T 4 J J J J J J J) (ao 6 (pU (g:=1) (m:=u.live) (k:=ai) (v:=v2) T (Ky.int .i64 u3) (λx:aD=>Value.agg #[.int .i64 x.Id,.int .i64 x.Cell,.int .i64 x.Goal]) J J J J J J J jM (λH6 s6=>an sl (ae (rx T 8 ?_)))))))))))))
  cases H;exact p1 T J [0,0,0,2,0] ⟨iW,H6,jA,jL,jw,s6,kj,J,J⟩ J
 refine rc T 9 ?_
 cases H;exact p1 T J [0,0,0,0,0] ⟨iW,kq,jA,jL,jw,jM,kj,J,J⟩ J
def xY.f (u:fb) (ai:Int) (cell:Int):Option (Bool×fb):=(x_.f u ai cell).bind λv1=>some (v1.1,v1.2)
def xY.R (eO:Nat) (r:(Bool×fb)):bm:=λu G=> ∃(a0:Nat) (H0:Hp) (a1 n1 H1:_),cQ (Ky.int .i64 u3) (λx:aD=>Value.agg #[.int .i64 x.Id,.int .i64 x.Cell,.int .i64 x.Goal]) r.2.live a0 H0/\aj (Fl.int .i64) 3 r.2.order a1 n1 H1/\u=(bb r.1)/\G=[(cl eO 178 [(ii r.2.most),(ii r.2.next),(.map (some a0)),(ll a1 r.2.order n1)]),H0,H1]
theorem xY.c (H:xY.f u ai cell=some r) (jM:cQ (Ky.int .i64 u3) (λx:aD=>Value.agg #[.int .i64 x.Id,.int .i64 x.Cell,.int .i64 x.Goal]) u.live iW kq) (kj:aj (Fl.int .i64) 3 u.order jA jL jw):
 QR 168 [(pp eO),(ii ai),(ii cell)] [(cl eO 178 [(ii u.most),(ii u.next),(.map (some iW)),(ll jA u.order jL)]),kq,jw] [] F (xY.R eO r):=by
 unfold xY.f at H;refine aG Tryz.func168 J J (λW=>rc T 2 (nc T J (λb4=>ro T 8 (kr (x_.R eO) [4] [0,0,0,1] J S0 H (x_.c · jM kj) (λv1 H=>?_)))));rintro _ _ ⟨a5,H5,a6,n6,H6,s5,s6,rfl,rfl⟩;refine fz J (ro T 4 ?_)
 cases H;exact p1 T J [1,1,1,0] ⟨a5,H5,a6,n6,H6,s5,s6,J,J⟩ J
end
noncomputable section
def Ao.f:Option (List aD):=some []
def Ao.R (r:(List aD)):bm:=λu G=> ∃a0 n0 H0,aj lL 67 r a0 n0 H0/\u=(ll a0 r n0)/\G=[H0]
theorem Ao.c (H:Ao.f=some r):
 QR 54 [(.pointer none)] [] [] F (Ao.R r):=by
 unfold Ao.f at H;refine aG Tryz.func54 J J (λW=>rc T 12 (ov J (rc T 7 ?_)))
 cases H;refine bC (p1 T J [1,0] ⟨none,0,[],aj.nil,J,J⟩ J)
def ph.f (ag:eA):Option (List aD):=(oL.f ag.cP).bind λv1=>some v1
def ph.R (r:(List aD)):bm:=λu G=> ∃a0 n0 H0,aj lL 67 r a0 n0 H0/\u=(ll a0 r n0)/\G=[H0]
theorem ph.c (H:ph.f ag=some r) (cM:lV ag aY df):
 QR 54 [(pp aY)] [df] [df] F (ph.R r):=by
 unfold ph.f at H;refine aG Tryz.func54 J J (λW=>rc T 12 (eY J (rc T 3 ?_)));obtain⟨b3,a4,H4,a5,n5,H5,b6,a7,n7,H7,s4,s5,s7,cy⟩:=(λx=>x) cM;refine bS 0 (congrArg some cy) (fz J (rc T 4 (lf T 1 J (kr oL.R [2,2,2] [2,2,2] J ad7 H (oL.c · s4 s5) (λv1 H=>?_)))));rintro _ _ ⟨a8,n8,H8,s8,rfl,rfl⟩;refine fz J (ro T 4 ?_)
 cases H;refine dr [1,4,4,4,1,1] J cy (p1 T J [1,1,0] ⟨a8,n8,H8,s8,J,J⟩ J)
def vb.f (w:Int) (h:Int) (most:Int):Option (Option eA):=(oc.f w h).bind λv1=>if(((!v1)||(decide (most<1)))||(decide (most>65536)))=true then(some none) else((xV.f most).bind λv2=>du v2 ((sH.f (aa (w*h))).bind λv3=>du v3 (none) (λtK=>none)) (λsa=>(sH.f (aa (w*h))).bind λv4=>du v4 (none) (λwB=>some (some (eA.mk w h most sa wB)))))
def vb.R (r:(Option eA)):bm:=λu G=> ∃(u0:Value) (G0:List Hp),XU r u0 G0/\u=u0/\G=G0
theorem vb.c (H:vb.f w h most=some r):
 QR 116 [(ii w),(ii h),(ii most)] [] [] F (vb.R r):=by
 unfold vb.f at H;refine aG Tryz.func116 J J (λW=>rc T 10 (k [] J B8 H (oc.c ·) (λv1 H=>ro T 2 (go T [5,6,7] 11 [0,1,2] 14 J J J J J J J (ro T 1 (go T [9,10,11] 15 [0,1,2] 18 J J J J J J J (ro T 2 (cb J H (λH=>?_) (λH=>?_)))))))))
 ·refine rc T 7 ?_
  cases H;exact p1 T J [0] ⟨_,_,⟨J,J⟩,J,J⟩ J
 refine rc T 8 (kr xV.R [] [] J acz H (xV.c ·) (λv2 H=>?_));rintro _ _ ⟨_,_,O4,rfl,rfl⟩;rcases v2 with _ |sa
 ·replace H:=fi J H;obtain⟨rfl,rfl⟩:=O4;refine ro T 3 (kr sH.R [] [] J SX H (sH.c ·) (λv3 H=>?_));rintro _ _ ⟨_,_,O6,rfl,rfl⟩;rcases v3 with _ |tK
  ·replace H:=fi J H;obtain⟨rfl,rfl⟩:=O6;refine ro T 1 (nc T J (λb6=>ro T 4 ?_))
   cases H
  replace H:=fj J H;obtain⟨b4,a5,n5,H5,s5,rfl,rfl⟩:=O6;refine ro T 1 (nc T J (λb7=>ro T 4 ?_))
  cases H
 replace H:=fj J H;obtain⟨b1,a2,H2,a3,n3,H3,s2,s3,rfl,rfl⟩:=O4;refine ro T 3 (kr sH.R [] [] J SX H (sH.c ·) (λv4 H=>?_));rintro _ _ ⟨_,_,O8,rfl,rfl⟩;rcases v4 with _ |wB
 ·replace H:=fi J H;obtain⟨rfl,rfl⟩:=O8;refine ro T 1 (nc T J (λfR=>ro T 4 ?_))
  cases H
 replace H:=fj J H;obtain⟨b8,a9,n9,H9,s9,rfl,rfl⟩:=O8;refine ro T 1 (nc T J (λjC=>ro T 4 ?_))
 cases H;refine gw [6,1,1,1,1,1] J (p1 T J [1,0] ⟨_,_,⟨jC,(List.flatten [(cl jC 146 [(ii w),(ii h),(ii most),(pp b1),(pp b8)]),(cl b1 178 [(ii sa.most),(ii sa.next),(.map (some a2)),(ll a3 sa.order n3)]),H2,H3,(cl b8 221 [(ll a9 wB.words n9),(ii wB.count)]),H9]),(show lV (eA.mk w h most sa wB) jC (List.flatten [(cl jC 146 [(ii w),(ii h),(ii most),(pp b1),(pp b8)]),(cl b1 178 [(ii sa.most),(ii sa.next),(.map (some a2)),(ll a3 sa.order n3)]),H2,H3,(cl b8 221 [(ll a9 wB.words n9),(ii wB.count)]),H9]) from⟨b1,a2,H2,a3,n3,H3,b8,a9,n9,H9,s2,s3,s9,J⟩),J,J⟩,J,J⟩ J)
def Ap.f (ag:eA) (cell:Int):Option Int:=(qD.f ag.floor cell).bind λv1=>some v1
theorem Ap.c (H:Ap.f ag cell=some r) (cM:lV ag aY df):
 QU 119 [(pp aY),(ii cell)] [df] F (ii r):=by
 unfold Ap.f at H;refine aG Tryz.func119 J J (λW=>rc T 12 (eY J (rc T 3 ?_)));obtain⟨b3,a4,H4,a5,n5,H5,b6,a7,n7,H7,s4,s5,s7,cy⟩:=(λx=>x) cM;refine bS 0 (congrArg some cy) (fz J (rc T 4 (lf T 1 J (ro T 1 (k [5,5] J F8 H (qD.c · s7) (λv1 H=>ro T 4 ?_))))))
 cases H;refine dr [1,1,1,1,1,1] J cy (p0 T J [1,0] J)
def u_.f (ag:eA) (cell:Int):Option Bool:=(gN.f ag.w ag.h cell).bind λv1=>some (decide (v1≥0))
theorem u_.c (H:u_.f ag cell=some r) (cM:lV ag aY df):
 QU 123 [(pp aY),(ii cell)] [df] F (bb r):=by
 unfold u_.f at H;refine aG Tryz.func123 J J (λW=>rc T 6 ?_);obtain⟨b3,a4,H4,a5,n5,H5,b6,a7,n7,H7,s4,s5,s7,cy⟩:=(λx=>x) cM;refine bS 0 (congrArg some cy) (fz J (dD mix az (au T J (au T J (au T J (aO J J J (aw T J J J J (aI (j:=1) J J)) (au T J (au T J (au T J (aO J J J (aw T J J J J (aI (j:=1) J J)) (au T J ?_)))))))))));obtain⟨v1,V1,H⟩:=gx H;refine uV J J J J J J rI J (gN.c V1) (au T J (au T J (dg (rx T 2 ?_))))
 cases H;refine dr [1,1,1,1,1,1] J cy (p0 T J [1,0] J)
def va.f (ag:eA) (ai:Int) (cell:Int) (goal:Int):Option Int:=if(ai==0)=true then(((u_.f ag cell).bind λv3=>if(!v3)=true then(some true) else((u_.f ag goal).bind λv4=>some (!v4))).bind λx1=>if x1=true then(some 7) else((qD.f ag.floor cell).bind λv5=>if(v5 !=(-1))=true then(some 10) else((wu.f ag.cP).bind λv6=>if v6≥ag.most then(some 11) else(if(cell==goal)=true then(some 13) else(some 0))))) else(if(ai==1)=true then((qD.f ag.floor cell).bind λv7=>if(v7 !=(-1))=true then(some 10) else((wu.f ag.cP).bind λv8=>if v8≥ag.most then(some 11) else(if(cell==goal)=true then(some 13) else(some 0)))) else(if(ai==2)=true then((wu.f ag.cP).bind λv9=>if v9≥ag.most then(some 11) else(if(cell==goal)=true then(some 13) else(some 0))) else(if(ai==3)=true then(if(cell==goal)=true then(some 13) else(some 0)) else(some 0))))
theorem va.c (H:va.f ag ai cell goal=some r) (cM:lV ag aY df):
 QU 124 [(pp aY),(ii ai),(ii cell),(ii goal)] [df] F (ii r):=by
 unfold va.f at H;refine aG Tryz.func124 J J (λW=>rc T 28 (cb J H (λH=>?_) (λH=>?_)))
 ·refine rc T 5 (mq H [0,2,3] [1,0] (λz2 (x1:Bool)=>(x1=z2,[(27,(bb x1))],[])) J J (λz2 Z2 _=>?_) ?_)
  ·refine rc T 3 (k [0] J M_ Z2 (u_.c · cM) (λv3 Z2=>ro T 2 (ab 22 J Z2 (λZ2=>?_) (λZ2=>?_))))
   ·refine ro T 7 (am _ [1,0] (oi Z2) J J)
   refine ro T 2 (k [0] J M_ Z2 (u_.c · cM) (λv4 Z2=>ro T 4 (am _ [1,0] (oi Z2) J J)))
  rintro _ x1 rfl H;refine cb J H (λH=>?_) (λH=>?_)
  ·refine rc T 14 ?_
   cases H;exact p0 T J [1,0] J
  refine rc T 4 ?_;obtain⟨b3,a4,H4,a5,n5,H5,b6,a7,n7,H7,s4,s5,s7,cy⟩:=(λx=>x) cM;refine bS 1 (congrArg some cy) (fz J (rc T 4 (lf T 1 J (ro T 1 (k [5,5] J F8 H (qD.c · s7) (λv5 H=>ro T 3 (cb J H (λH=>?_) (λH=>?_))))))))
  ·refine rc T 12 ?_
   cases H;refine dr [1,1,1,1,1,1] J cy (p0 T J [1,0] J)
  refine rc T 4 (dD mix az (au T J (au T J (au T J (aO J J J (aw T J J J J (aI (j:=1) J J)) ?_)))));obtain⟨v6,V9,H⟩:=gx H;refine wO [2,2,2] J J J J J J Nb J (wu.c V9 s4 s5) (au T J (au T J (au T J (aO J J J (aw T J J J J (aI (j:=1) J J)) (au T J (dg (rx T 1 (cd J H (λH=>?_) (λH=>?_)))))))))
  ·refine rc T 10 ?_
   cases H;refine dr [1,1,1,1,1,1] J cy (p0 T J [1,0] J)
  refine rc T 11 (cb J H (λH=>?_) (λH=>?_))
  ·refine rc T 9 ?_
   cases H;refine dr [1,1,1,1,1,1] J cy (p0 T J [1,0] J)
  refine rc T 11 ?_
  cases H;refine dr [1,1,1,1,1,1] J cy (p0 T J [1,0] J)
 refine rc T 9 (cb J H (λH=>?_) (λH=>?_))
 ·refine rc T 8 ?_;obtain⟨b9,cw,bZ,dA,n11,cB,kz,dH,n13,eJ,bU,dj,dm,F3⟩:=(λx=>x) cM;refine bS 0 (congrArg some F3) (fz J (rc T 4 (lf T 1 J (ro T 1 (k [5,5] J F8 H (qD.c · dm) (λv7 H=>ro T 3 (cb J H (λH=>?_) (λH=>?_))))))))
  ·refine rc T 12 ?_
   cases H;refine dr [1,1,1,1,1,1] J F3 (p0 T J [1,0] J)
  refine rc T 4 (dD mix az (au T J (au T J (au T J (aO J J J (aw T J J J J (aI (j:=1) J J)) ?_)))));obtain⟨v8,P7,H⟩:=gx H;refine wO [2,2,2] J J J J J J Nb J (wu.c P7 bU dj) (au T J (au T J (au T J (aO J J J (aw T J J J J (aI (j:=1) J J)) (au T J (dg (rx T 1 (cd J H (λH=>?_) (λH=>?_)))))))))
  ·refine rc T 10 ?_
   cases H;refine dr [1,1,1,1,1,1] J F3 (p0 T J [1,0] J)
  refine rc T 11 (cb J H (λH=>?_) (λH=>?_))
  ·refine rc T 9 ?_
   cases H;refine dr [1,1,1,1,1,1] J F3 (p0 T J [1,0] J)
  refine rc T 11 ?_
  cases H;refine dr [1,1,1,1,1,1] J F3 (p0 T J [1,0] J)
 refine rc T 9 (cb J H (λH=>?_) (λH=>?_))
 ·refine rc T 10 ?_;obtain⟨nt,j6,gk,a17,n17,eF,pW,mr,n19,kn,gd,fq,gp,DW⟩:=(λx=>x) cM;refine bS 0 (congrArg some DW) (fz J (dD mix az (au T J (au T J (au T J (aO J J J (aw T J J J J (aI (j:=1) J J)) ?_))))));obtain⟨v9,IJ,H⟩:=gx H;refine wO [2,2,2] J J J J J J Nb J (wu.c IJ gd fq) (au T J (au T J (au T J (aO J J J (aw T J J J J (aI (j:=1) J J)) (au T J (dg (rx T 1 (cd J H (λH=>?_) (λH=>?_)))))))))
  ·refine rc T 10 ?_
   cases H;refine dr [1,1,1,1,1,1] J DW (p0 T J [1,0] J)
  refine rc T 11 (cb J H (λH=>?_) (λH=>?_))
  ·refine rc T 9 ?_
   cases H;refine dr [1,1,1,1,1,1] J DW (p0 T J [1,0] J)
  refine rc T 11 ?_
  cases H;refine dr [1,1,1,1,1,1] J DW (p0 T J [1,0] J)
 refine rc T 8 (cb J H (λH=>?_) (λH=>?_))
 ·refine rc T 18 (cb J H (λH=>?_) (λH=>?_))
  ·refine rc T 9 ?_
   cases H;exact p0 T J [0,0] J
  refine rc T 11 ?_
  cases H;exact p0 T J [0,0] J
 refine rc T 19 ?_
 cases H;exact p0 T J [0,0] J
def wV.f (ag:eA) (cell:Int) (goal:Int):Option (Int×Int×eA):=(va.f ag 0 cell goal).bind λv1=>if(v1 !=0)=true then(some ((-1),v1,ag)) else((wq.f ag.cP cell goal).bind λv2=>(sF.f ag.floor cell v2.1).bind λv3=>some (v2.1,0,(eA.mk ag.w ag.h ag.most v2.2.2 v3.2)))
def wV.R (nz:Nat) (r:(Int×Int×eA)):bm:=λu G=> ∃(H0:Hp),lV r.2.2 nz H0/\u=(.tuple #[(ii r.1),(ii r.2.1)])/\G=[H0]
theorem wV.c (H:wV.f ag cell goal=some r) (cM:lV ag aY df):
 QR 121 [(pp aY),(ii cell),(ii goal)] [df] [] F (wV.R aY r):=by
 unfold wV.f at H;refine aG Tryz.func121 J J (λW=>rc T 13 (eY J (rc T 8 (k [0] J SM H (va.c · cM) (λv1 H=>ro T 9 (cb J H (λH=>?_) (λH=>?_)))))))
 ·refine rc T 9 ?_
  cases H;exact p1 T J [0,0] ⟨df,cM,J,J⟩ J
 refine rc T 3 ?_;obtain⟨b3,a4,H4,a5,n5,H5,b6,a7,n7,H7,s4,s5,s7,cy⟩:=(λx=>x) cM;refine bS 0 (congrArg some cy) (fz J (rc T 4 (lf T 1 J (ro T 2 (kr (wq.R b3) [] [2,2,2] J acB H (wq.c · s4 s5) (λv2 H=>?_))))));rintro _ _ ⟨a8,H8,a9,n9,H9,s8,s9,rfl,rfl⟩;refine fz J (ro T 11 (lf T 1 J (ro T 2 (kr (sF.R b6) [] [2,2] J SY H (sF.c · s7) (λv3 H=>?_)))));rintro _ _ ⟨cw,n10,bZ,bU,rfl,rfl⟩;refine fz J (ro T 10 ?_)
 cases H;refine gw [1,1,1,1,1,1] J (p1 T J [1,0] ⟨(List.flatten [(cl aY 146 [(ii ag.w),(ii ag.h),(ii ag.most),(pp b3),(pp b6)]),(cl b3 178 [(ii v2.2.2.most),(ii v2.2.2.next),(.map (some a8)),(ll a9 v2.2.2.order n9)]),H8,H9,(cl b6 221 [(ll cw v3.2.words n10),(ii v3.2.count)]),bZ]),(show lV (eA.mk ag.w ag.h ag.most v2.2.2 v3.2) aY (List.flatten [(cl aY 146 [(ii ag.w),(ii ag.h),(ii ag.most),(pp b3),(pp b6)]),(cl b3 178 [(ii v2.2.2.most),(ii v2.2.2.next),(.map (some a8)),(ll a9 v2.2.2.order n9)]),H8,H9,(cl b6 221 [(ll cw v3.2.words n10),(ii v3.2.count)]),bZ]) from⟨b3,a8,H8,a9,n9,H9,b6,cw,n10,bZ,s8,s9,bU,J⟩),J,J⟩ J)
def FR.f (ai:Int) (goal:Int):Option Int:=some 1
theorem FR.c (H:FR.f ai goal=some r):
 QU 89 [(.pointer none),(ii ai),(ii goal)] [] F (ii r):=by
 unfold FR.f at H;refine aG Tryz.func89 J J (λW=>rc T 12 (ov J (rc T 7 ?_)))
 cases H;exact p0 T J [0] J
def pY.f (ag:eA) (u:aD):Option eA:=(xX.f ag.cP u.Id).bind λv1=>(sG.f ag.floor u.Cell).bind λv2=>some (eA.mk ag.w ag.h ag.most v1.2 v2.2)
def pY.R (nz:Nat) (r:eA):bm:=λu G=> ∃(H0:Hp),lV r nz H0/\u=(.tuple #[])/\G=[H0]
theorem pY.c (H:pY.f ag u=some r) (cM:lV ag aY df):
 QR 125 [(pp aY),(.agg #[(ii u.Id),(ii u.Cell),(ii u.Goal)])] [df] [] F (pY.R aY r):=by
 unfold pY.f at H;refine aG Tryz.func125 J J (λW=>rc T 2 (nc T J (λb2=>ro T 3 ?_)));obtain⟨b4,a5,H5,a6,n6,H6,b7,a8,n8,H8,s5,s6,s8,dt⟩:=(λx=>x) cM;refine bS 0 (congrArg some dt) (fz J (ks [0,3] J (fz J (rz [6] mix (bM bL) (λhg pf=>ha T 4 [0,1,2] sz hg pf J (av 3 sz hg pf J (aw T J J J J (aI (j:=2) J J)) (ha T 2 [4] sz hg pf J (av 5 sz hg pf J (aw T J J J J (aI (j:=1) J J)) (ao 6 (kR (xX.R b4) [] [3,3,3] J acC H (xX.c · s5 s6) (λv1 H=>?_)))))))))));rintro _ _ ⟨a9,H9,cw,n10,bZ,s9,bU,rfl,rfl⟩;refine fz J (an sl (ae (rx T 1 (ks [0,3] J (fz J (rz [6] mix (bM bL) (λhg pf=>ha T 4 [0,1,2] sz hg pf J (av 3 sz hg pf J (aw T J J J J (aI (j:=2) J J)) (ha T 2 [4] sz hg pf J (av 5 sz hg pf J (aw T J J J J (aI (j:=1) J J)) (ao 6 (kR (sG.R b7) [] [3,3] J SZ H (sG.c · s8) (λv2 H=>?_)))))))))))));rintro _ _ ⟨dA,n11,cB,dj,rfl,rfl⟩;refine fz J (an sl (ae (jf ?_)))
 cases H;refine gw [2,2,2,2,2,2] J (p1 T J [2,0] ⟨(List.flatten [(cl aY 146 [(ii ag.w),(ii ag.h),(ii ag.most),(pp b4),(pp b7)]),(cl b4 178 [(ii v1.2.most),(ii v1.2.next),(.map (some a9)),(ll cw v1.2.order n10)]),H9,bZ,(cl b7 221 [(ll dA v2.2.words n11),(ii v2.2.count)]),cB]),(show lV (eA.mk ag.w ag.h ag.most v1.2 v2.2) aY (List.flatten [(cl aY 146 [(ii ag.w),(ii ag.h),(ii ag.most),(pp b4),(pp b7)]),(cl b4 178 [(ii v1.2.most),(ii v1.2.next),(.map (some a9)),(ll cw v1.2.order n10)]),H9,bZ,(cl b7 221 [(ll dA v2.2.words n11),(ii v2.2.count)]),cB]) from⟨b4,a9,H9,cw,n10,bZ,b7,dA,n11,cB,s9,bU,dj,J⟩),J,J⟩ J)
def wU.f (ag:eA) (ai:Int) (goal:Int):Option (Int×eA):=(oP.f ag.cP ai).bind λv1=>if(!v1.2)=true then(some (12,ag)) else((u_.f ag goal).bind λv2=>if(!v2)=true then(some (7,ag)) else((va.f ag 3 v1.1.Cell goal).bind λv3=>if(v3 !=0)=true then((pY.f ag v1.1).bind λv4=>some (v3,v4)) else((xW.f ag.cP ai goal).bind λv5=>some (0,(eA.mk ag.w ag.h ag.most v5.2 ag.floor)))))
def wU.R (nz:Nat) (r:(Int×eA)):bm:=λu G=> ∃(H0:Hp),lV r.2 nz H0/\u=(ii r.1)/\G=[H0]
theorem wU.c (H:wU.f ag ai goal=some r) (cM:lV ag aY df):
 QR 89 [(pp aY),(ii ai),(ii goal)] [df] [] F (wU.R aY r):=by
 unfold wU.f at H;refine aG Tryz.func89 J J (λW=>rc T 12 (eY J (rc T 3 ?_)));obtain⟨b3,a4,H4,a5,n5,H5,b6,a7,n7,H7,s4,s5,s7,cy⟩:=(λx=>x) cM;refine bS 0 (congrArg some cy) (fz J (rc T 4 (lf T 1 J (ro T 1 (k [2,2,2] J B5 H (oP.c · s4 s5) (λv1 H=>ro T 3 (nc T J (λb8=>sg T 7 J (ro T 12 (cb J H (λH=>?_) (λH=>?_)))))))))))
 ·refine rc T 8 ?_
  cases H;refine dr [1,1,1,1,1,1] J cy (p1 T J [2,0] ⟨df,cM,J,J⟩ J)
 refine rc T 4 ?_;obtain⟨v2,V3,H⟩:=gx H;refine aZ (I1 (As:=[(cl aY 146 [(ii ag.w),(ii ag.h),(ii ag.most),(pp b3),(pp b6)]),(cl b3 178 [(ii ag.cP.most),(ii ag.cP.next),(.map (some a4)),(ll a5 ag.cP.order n5)]),H4,H5,(cl b6 221 [(ll a7 ag.floor.words n7),(ii ag.floor.count)]),H7]) [1,1,1,1,1,1] J J J J M_ J J (I9 (A:=[df]) (by simp only[cy,List.flatten_cons,List.flatten_append,List.flatten_nil,List.append_nil,List.append_assoc]) (u_.c V3 cM)) (ro T 4 (cb J H (λH=>?_) (λH=>?_))))
 ·refine rc T 8 ?_
  cases H;refine dr [1,1,1,1,1,1] J cy (p1 T J [2,0] ⟨df,cM,J,J⟩ J)
 refine rc T 8 (lf T 7 J (ro T 1 ?_));obtain⟨v3,V5,H⟩:=gx H;refine aZ (I1 (As:=[(cl aY 146 [(ii ag.w),(ii ag.h),(ii ag.most),(pp b3),(pp b6)]),(cl b3 178 [(ii ag.cP.most),(ii ag.cP.next),(.map (some a4)),(ll a5 ag.cP.order n5)]),H4,H5,(cl b6 221 [(ll a7 ag.floor.words n7),(ii ag.floor.count)]),H7]) [1,1,1,1,1,1] J J J J SM J J (I9 (A:=[df]) (by simp only[cy,List.flatten_cons,List.flatten_append,List.flatten_nil,List.append_nil,List.append_assoc]) (va.c V5 cM)) (ro T 9 (cb J H (λH=>?_) (λH=>?_))))
 ·refine rc T 3 (lm T 7 J (dr [1,1,1,1,1,1] J cy (kr (pY.R aY) [] [2] J Na H (pY.c · cM) (λv4 H=>?_))));rintro _ _ ⟨H9,s9,rfl,rfl⟩;refine fz J (ro T 10 ?_)
  cases H;exact p1 T J [2,0] ⟨H9,s9,J,J⟩ J
 refine rc T 7 (lf T 1 J (ro T 2 (kr (xW.R b3) [] [2,2,2] J acp H (xW.c · s4 s5) (λv5 H=>?_))));rintro _ _ ⟨cw,bZ,dA,n11,cB,bU,dj,rfl,rfl⟩;refine fz J (ro T 8 ?_)
 cases H;refine gw [1,4,4,4,1,1] J (p1 T J [2,0] ⟨(List.flatten [(cl aY 146 [(ii ag.w),(ii ag.h),(ii ag.most),(pp b3),(pp b6)]),(cl b3 178 [(ii v5.2.most),(ii v5.2.next),(.map (some cw)),(ll dA v5.2.order n11)]),bZ,cB,(cl b6 221 [(ll a7 ag.floor.words n7),(ii ag.floor.count)]),H7]),(show lV (eA.mk ag.w ag.h ag.most v5.2 ag.floor) aY (List.flatten [(cl aY 146 [(ii ag.w),(ii ag.h),(ii ag.most),(pp b3),(pp b6)]),(cl b3 178 [(ii v5.2.most),(ii v5.2.next),(.map (some cw)),(ll dA v5.2.order n11)]),bZ,cB,(cl b6 221 [(ll a7 ag.floor.words n7),(ii ag.floor.count)]),H7]) from⟨b3,cw,bZ,dA,n11,cB,b6,a7,n7,H7,bU,dj,s7,J⟩),J,J⟩ J)
def FQ.f (ai:Int):Option Int:=some 1
theorem FQ.c (H:FQ.f ai=some r):
 QU 90 [(.pointer none),(ii ai)] [] F (ii r):=by
 unfold FQ.f at H;refine aG Tryz.func90 J J (λW=>rc T 12 (ov J (rc T 7 ?_)))
 cases H;exact p0 T J [0] J
def wT.f (ag:eA) (ai:Int):Option (Int×eA):=(oP.f ag.cP ai).bind λv1=>if(!v1.2)=true then(some (12,ag)) else((pY.f ag v1.1).bind λv2=>some (0,v2))
def wT.R (nz:Nat) (r:(Int×eA)):bm:=λu G=> ∃(H0:Hp),lV r.2 nz H0/\u=(ii r.1)/\G=[H0]
theorem wT.c (H:wT.f ag ai=some r) (cM:lV ag aY df):
 QR 90 [(pp aY),(ii ai)] [df] [] F (wT.R aY r):=by
 unfold wT.f at H;refine aG Tryz.func90 J J (λW=>rc T 12 (eY J (rc T 3 ?_)));obtain⟨b3,a4,H4,a5,n5,H5,b6,a7,n7,H7,s4,s5,s7,cy⟩:=(λx=>x) cM;refine bS 0 (congrArg some cy) (fz J (rc T 4 (lf T 1 J (ro T 1 (k [2,2,2] J B5 H (oP.c · s4 s5) (λv1 H=>ro T 3 (nc T J (λb8=>sg T 7 J (ro T 10 (cb J H (λH=>?_) (λH=>?_)))))))))))
 ·refine rc T 7 ?_
  cases H;refine dr [1,1,1,1,1,1] J cy (p1 T J [2,0] ⟨df,cM,J,J⟩ J)
 refine rc T 5 (lm T 7 J (dr [1,1,1,1,1,1] J cy (kr (pY.R aY) [] [2] J Na H (pY.c · cM) (λv2 H=>?_))));rintro _ _ ⟨H9,s9,rfl,rfl⟩;refine fz J (ro T 8 ?_)
 cases H;exact p1 T J [2,0] ⟨H9,s9,J,J⟩ J
def nD.l0:Nat->((List aD)×(List ff)×(List Int)×Int)->eA->Int->Option ((List ff)×(List Int)×Int×eA)
 |0,_,_,_=>none
 |k7+1,v2,x5,x6=>if x6<(List.length v2.2.1:Int) then(if(0<=x6/\x6<(List.length v2.2.1:Int)) then(((oP.f x5.cP ((rd v2.2.1 x6).Id)).bind λv12=>some (v12.1.Id,v12.1.Cell,v12.1.Goal)).bind λ(x8,x9,aN)=>if((rd v2.2.1 x6).To==aN)=true then((pY.f x5 (aD.mk x8 x9 aN)).bind λdq=>nD.l0 k7 v2 dq (aa (x6+1))) else((wZ.f x5.floor x9 ((rd v2.2.1 x6).To)).bind λcD=>(xY.f x5.cP ((rd v2.2.1 x6).Id) ((rd v2.2.1 x6).To)).bind λdG=>nD.l0 k7 v2 (eA.mk x5.w x5.h x5.most dG.2 cD.2) (aa (x6+1)))) else none) else(some (v2.2.1,v2.2.2.1,0,x5))
def nD.f (ag:eA) (aF:(List Int)):Option ((List ff)×(List Int)×Int×eA):=(ph.f ag).bind λv1=>(jK.f ag.w ag.h v1 aF).bind λv2=>if(v2.2.2.2 !=0)=true then(some ([],[],v2.2.2.2,ag)) else(nD.l0 fuel v2 ag 0)
def nD.R (nz:Nat) (r:((List ff)×(List Int)×Int×eA)):bm:=λu G=> ∃(a0 n0 H0:_) (a1 n1 H1:_) (H2:Hp),aj jJ 94 r.1 a0 n0 H0/\aj (Fl.int .i64) 3 r.2.1 a1 n1 H1/\lV r.2.2.2 nz H2/\u=(.tuple #[(ll a0 r.1 n0),(ll a1 r.2.1 n1),(ii r.2.2.1)])/\G=[H0,H1,H2]
theorem nD.c (H:nD.f ag aF=some r) (cM:lV ag aY df) (F6:aU (Fl.int .i64) aF LA F) (Mb:List.length aF<=Oz):
 QR 129 [(pp aY),(ll LA aF Oz)] [df] [] F (nD.R aY r):=by
 unfold nD.f at H;refine aG Tryz.func129 J J (λW=>rc T 14 (eY J (rc T 3 ?_)));obtain⟨b3,a4,H4,a5,n5,H5,b6,a7,n7,H7,s4,s5,s7,cy⟩:=(λx=>x) cM;refine bS 0 (congrArg some cy) (fz J (fz J (rg [] [0,0,0,0,0,0,0] mix (bM bL) (λhg pf=>ha T 17 [0,1,2] sz hg pf J (av 3 sz hg pf J (aw T J J J J (aI (j:=1) J J)) (ha T 13 [4,5,6] sz hg pf J (av 7 sz hg pf J (aw T J J J J (aI (j:=1) J J)) (ha T 10 [8,10] sz hg pf J (ao 9 ?_)))))))));obtain⟨v1,V1,H⟩:=gx H;refine FB (As:=[(cl aY 146 [(ii ag.w),(ii ag.h),(ii ag.most),(pp b3),(pp b6)]),(cl b3 178 [(ii ag.cP.most),(ii ag.cP.next),(.map (some a4)),(ll a5 ag.cP.order n5)]),H4,H5,(cl b6 221 [(ll a7 ag.floor.words n7),(ii ag.floor.count)]),H7]) (ph.R v1) [(cl aY 146 [(ii ag.w),(ii ag.h),(ii ag.most),(pp b3),(pp b6)]),(cl b3 178 [(ii ag.cP.most),(ii ag.cP.next),(.map (some a4)),(ll a5 ag.cP.order n5)]),H4,H5,(cl b6 221 [(ll a7 ag.floor.words n7),(ii ag.floor.count)]),H7] [1,1,1,1,1,1] J J J J JI J J (I_ (A:=[df]) (A2:=[df]) (by simp only[cy,List.flatten_cons,List.flatten_append,List.flatten_nil,List.append_nil,List.append_assoc]) (by simp only[cy,List.flatten_cons,List.flatten_append,List.flatten_nil,List.append_nil,List.append_assoc]) (ph.c V1 cM)) ?_
 rintro _ _ ⟨a8,n8,H8,s8,rfl,rfl⟩;refine fz J (an (so [0,1,1,1,1,1,1]) (ao 11 (kR jK.R [] [] J acF H (jK.c · (oO s8 1) s8.bW (rO F6 0) Mb) (λv2 H=>?_))));rintro _ _ ⟨a9,n9,H9,cw,n10,bZ,dA,n11,cB,s9,bU,dj,rfl,rfl⟩;refine fz J (an (so [0,1,1,1,1,1,1]) (ha T 0 [12,13,14,15,16,17,18,19] (so [0,1,1,1,1,1,1]) hg pf J (ae (rx T 8 (cb J H (λH=>?_) (λH=>?_))))))
 ·refine rc T 10 ?_
  cases H;refine dr [2,2,2,2,2,2] J cy (bC (bC (p1 T J [6,6,5,0] ⟨none,0,[],none,0,[],df,aj.nil,aj.nil,cM,J,J⟩ J)))
 refine rc T 11 (dr [2,2,2,2,2,2] J cy (lq [0,4,5,33,34] [0,2,2] (λ(⟨k7,x5,x6,dP⟩:Nat×eA×Int×Hp)=>(nD.l0 k7 v2 x5 x6=some r/\lV x5 aY dP,[(35,(ii x6))],[dP])) J J (fuel,ag,0,df) [0,2,2,2] ⟨H,cM⟩ J J ?_));rintro k7 ⟨x5,x6,dP⟩ ⟨Z4,dV⟩;rw[nD.l0] at Z4;refine rc T 6 (cd J Z4 (λZ4=>?_) (λZ4=>?_))
 ·refine rc T 6 ?_;obtain⟨c6,Z4⟩:=aA Z4;obtain⟨q16,o16,FT⟩:=bU.r.addr c6.1 c6.2;refine ix T J FT c6 (bz J (fX T (cs:=[(ii (rd v2.2.1 x6).Id),(ii (rd v2.2.1 x6).To)]) J J J J J J (ig (k:=jJ) (oO bU 1) FT c6 J)) (nc T J (λAb=>sg T 4 J (ro T 2 (mq Z4 [0,4,5,8,33,34,35] [0,2,0,0,0] (λlT (⟨x8,x9,aN,pW⟩:Int×Int×Int×Nat)=>((x8,x9,aN)=lT,[(9,(pp pW))],[(cl pW 67 [(ii x8),(ii x9),(ii aN)])])) J J (λlT Z7 _=>?_) ?_)))))
  ·obtain⟨DH,a21,lC,a22,n22,mN,ZN,a24,n24,qx,jY,iO,lO,F2⟩:=(λx=>x) dV;refine bS 3 (congrArg some F2) (fz J (ks [0,4,5,8,33,34,35] J (fz J (rz [] mix (bM bL) (λhg pf=>ha T 10 [0,1,2] sz hg pf J (av 3 sz hg pf J (aw T J J J J (aI (j:=4) J J)) (ha T 8 [4] sz hg pf J (av 5 sz hg pf J (aw T J J J J (aI (j:=3) J J)) (fk 6 10 ?_ ?_)))))))))
   ·refine kh [5,5,5] J B5 Z7 (oP.c · jY iO) (λv12 Z7=>an sz (ha T 3 [7,8,9] sz hg pf J (ao 10 (nw T J (λkV=>an (so [0,0,0,0,0,0,0,0,0,0]) (ao 11 (sf T 10 J (an (so [0,0,0,0,0,0,0,0,0,0]) (ha T 0 [12] (so [0,0,0,0,0,0,0,0,0,0]) hg pf J (ae (rx T 1 (dr [4,4,4,4,4,4] J F2 (am (_,_,_,_) [0,4,0,0,0,0] (oi Z7) J J)))))))))))))
   refine nw T J (λkW=>an (so [0,0,0,0,0,0,0,0,0,0]) (ao 6 (kh [5,5,5] J B5 Z7 (oP.c · jY iO) (λlz Z7=>an (so [0,0,0,0,0,0,0,0,0,0]) (ha T 2 [7,8,9] (so [0,0,0,0,0,0,0,0,0,0]) hg pf J (ao 11 (sf T 10 J (an (so [0,0,0,0,0,0,0,0,0,0]) (ha T 0 [12] (so [0,0,0,0,0,0,0,0,0,0]) hg pf J (ae (rx T 1 (dr [4,4,4,4,4,4] J F2 (am (_,_,_,_) [0,4,0,0,0,0] (oi Z7) J J)))))))))))))
  rintro _ ⟨x8,x9,aN,pW⟩ rfl Z4;refine rc T 4 (lf T 4 J (ro T 1 (lf T 5 J (ro T 3 (cb J Z4 (λZ4=>?_) (λZ4=>?_))))))
  ·refine rc T 3 (lm T 5 J (kr (pY.R aY) [] [1] J Na Z4 (pY.c (u:=(aD.mk x8 x9 aN)) · dV) (λdq Z4=>?_)));rintro _ _ ⟨E9,vX,rfl,rfl⟩;refine fz J (ro T 11 (ar (_,_,_) [0,0,0,2] ⟨Z4,vX⟩ J J))
  refine rc T 3 ?_;obtain⟨Ad,BH,rl,a31,n31,BB,wP,a33,n33,Iy,pH,zx,vY,Jx⟩:=(λx=>x) dV;refine bS 1 (congrArg some Jx) (fz J (fz J (rz [8] mix (bM bL) (λhg pf=>ha T 6 [0,1,2] sz hg pf J (av 3 sz hg pf J (aw T J J J J (aI (j:=5) J J)) (ha T 4 [4] sz hg pf J (av 5 sz hg pf J (aw T J J J J (aI (j:=4) J J)) (ha T 2 [6] sz hg pf J (av 7 sz hg pf J (aw T J J J J (aI (j:=3) J J)) (ao 8 (kR (wZ.R wP) [] [9,9] J acG Z4 (wZ.c · vY) (λcD Z4=>?_))))))))))));rintro _ _ ⟨Fk,n34,uI,xK,rfl,rfl⟩;refine fz J (an sl (ae (rx T 1 (ke [0,4,5,8,33,34,35] [0,0,0,0,1,1,1,1,1,1] J J (fz J (rz [8] mix (bM bL) (λhg pf=>ha T 6 [0,1,2] sz hg pf J (av 3 sz hg pf J (aw T J J J J (aI (j:=4) J J)) (ha T 4 [4] sz hg pf J (av 5 sz hg pf J (aw T J J J J (aI (j:=3) J J)) (ha T 2 [6] sz hg pf J (av 7 sz hg pf J (aw T J J J J (aI (j:=3) J J)) (ao 8 (kR (xY.R Ad) [] [5,5,5] J acH Z4 (xY.c · pH zx) (λdG Z4=>?_)))))))))))))));rintro _ _ ⟨a35,Iz,z_,n36,zT,KQ,C3,rfl,rfl⟩;refine fz J (an sl (ae (rx T 7 (gw [4,6,6,6,4,4] J (ar (_,_,_) [0,0,0,1] ⟨Z4,(show lV (eA.mk x5.w x5.h x5.most dG.2 cD.2) aY (List.flatten [(cl aY 146 [(ii x5.w),(ii x5.h),(ii x5.most),(pp Ad),(pp wP)]),(cl Ad 178 [(ii dG.2.most),(ii dG.2.next),(.map (some a35)),(ll z_ dG.2.order n36)]),Iz,zT,(cl wP 221 [(ll Fk cD.2.words n34),(ii cD.2.count)]),uI]) from⟨Ad,a35,Iz,z_,n36,zT,wP,Fk,n34,uI,KQ,C3,xK,J⟩)⟩ J J)))))
 refine rc T 15 ?_
 cases Z4;exact p1 T J [1,1,1,0] ⟨cw,n10,bZ,dA,n11,cB,dP,bU,dj,dV,J,J⟩ J
end
noncomputable section
def Ax.f:Option aM:=some (aM.mk 0 0 [])
def Ax.R (r:aM):bm:=λu G=> ∃a0 n0 H0,aj (Fl.int .u8) 5 r.C a0 n0 H0/\u=(.agg #[(ii r.W),(ii r.H),(ll a0 r.C n0)])/\G=[H0]
theorem Ax.c (H:Ax.f=some r):
 QR 74 [(.pointer none)] [] [] F (Ax.R r):=by
 unfold Ax.f at H;refine aG Tryz.func74 J J (λW=>rc T 2 (nc T J (λb1=>ro T 9 (ov J (rc T 3 (sg T 1 J (ro T 4 ?_)))))))
 cases H;refine bC (pb T J (.cN (j:=1) [(ii 0),(ii 0),nl] J J J J J J J .nil) [2,0] ⟨(_,_),none,0,[],aj.nil,J,J⟩ J J)
def w9.f (g:bA):Option aM:=(nX.f g.m.C).bind λv1=>some (aM.mk g.m.W g.m.H v1)
def w9.R (r:aM):bm:=λu G=> ∃a0 n0 H0,aj (Fl.int .u8) 5 r.C a0 n0 H0/\u=(.agg #[(ii r.W),(ii r.H),(ll a0 r.C n0)])/\G=[H0]
theorem w9.c (H:w9.f g=some r) (fN:iF g fg gm):
 QR 74 [(pp fg)] [gm] [gm] F (w9.R r):=by
 unfold w9.f at H;refine aG Tryz.func74 J J (λW=>rc T 2 (nc T J (λb2=>ro T 9 (eY J (rc T 3 ?_)))));obtain⟨a4,n4,H4,a5,n5,H5,s4,s5,dt⟩:=(λx=>x) fN;refine bS 0 (congrArg some dt) (fz J (ks [0,2] J (fz J (rg [17] [0,0,0,0,0] mix (bM bL) (λhg pf=>ha T 14 [0,1,2,3] sz hg pf J (av 4 sz hg pf J (aw T J J J J (aI (j:=2) J J)) (ha T 9 [5,6,7,8] sz hg pf J (av 9 sz hg pf J (aw T J J J J (aI (j:=2) J J)) (ha T 4 [10,11,12,13] sz hg pf J (av 14 sz hg pf J (aw T J J J J (aI (j:=2) J J)) (ao 15 (kR nX.R [] [] J M6 H (nX.c · (oO s4 3) s4.bW) (λv1 H=>?_)))))))))))));rintro _ _ ⟨a6,n6,H6,s6,rfl,rfl⟩;refine fz J (an (so [0,0,0,0,0]) (ha T 1 [16] (so [0,0,0,0,0]) hg pf J (ao 17 (sf T 1 J (an sl (ae (rx T 1 (rc T 1 ?_))))))))
 cases H;refine dr [2,2,2] J dt (pb T J (.cN (j:=1) [(ii g.m.W),(ii g.m.H),(ll a6 v1 n6)] J J J J J J J .nil) [2,2,0] ⟨(_,_),a6,n6,H6,s6,J,J⟩ J J)
def jh.f (g:bA) (cell:Int):Option Int:=(if cell<0 then(some true) else(some (decide (cell≥(List.length g.m.C:Int))))).bind λx1=>if x1=true then(some 0) else(if(0<=cell/\cell<(List.length g.m.C:Int)) then(some (aa (rd g.m.C cell))) else none)
theorem jh.c (H:jh.f g cell=some r) (fN:iF g fg gm):
 QU 141 [(pp fg),(ii cell)] [gm] F (ii r):=by
 unfold jh.f at H;refine aG Tryz.func141 J J (λW=>rc T 6 (mq H [0,1] [1,0] (λz2 (x1:Bool)=>(x1=z2,[(20,(bb x1))],[])) J J (λz2 Z1 _=>?_) ?_))
 ·obtain⟨a3,n3,H3,a4,n4,H4,s3,s4,cy⟩:=(λx=>x) fN;refine bS 0 (congrArg some cy) (fz J (rc T 8 (ad 11 J Z1 (λZ1=>?_) (λZ1=>?_))))
  ·refine ro T 11 (dr [1,1,1] J cy (am _ [0,0] (oi Z1) J J))
  refine ro T 5 (lf T 1 J (ro T 5 (dr [1,1,1] J cy (am _ [0,0] (oi Z1) J J))))
 rintro _ x1 rfl H;refine cb J H (λH=>?_) (λH=>?_)
 ·refine rc T 7 ?_
  cases H;exact p0 T J [1,0] J
 refine rc T 3 ?_;obtain⟨a6,n6,H6,a7,n7,H7,s6,s7,rG⟩:=(λx=>x) fN;refine bS 1 (congrArg some rG) (fz J (rc T 5 (lf T 1 J (ro T 1 ?_))));obtain⟨c4,H⟩:=aA H;obtain⟨q8,o8,e8⟩:=s6.r.addr c4.1 c4.2;refine ix T J e8 c4 (le T 0 (oO s6 2) e8 c4 J J (ro T 5 ?_))
 cases H;refine dr [1,1,1] J rG (p0 T J [1,0] J)
def F0.f:Option Int:=some 0
theorem F0.c (H:F0.f=some r):
 QU 136 [(.pointer none)] [] F (ii r):=by
 unfold F0.f at H;refine aG Tryz.func136 J J (λW=>rc T 12 (ov J (rc T 7 ?_)))
 cases H;exact p0 T J [0] J
def l7.l0:Nat->aM->Int->(List Int)->(Int×Int)->List Int->Int->Option (Option bA)
 |0,_,_,_,_,_,_=>none
 |k8+1,m,bN,v2,v3,x6,x7=>if x7<(List.length (List.replicate (Int.toNat (aa (v3.1*v3.2))) (0:Int)):Int) then(if(0<=x7/\x7<(List.length x6:Int)) then(l7.l0 k8 m bN v2 v3 (List.set x6 (Int.toNat x7) (aa (bN+1))) (aa (x7+1))) else none) else(some (some (bA.mk (aM.mk m.W m.H v2) (aa (bN+1)) x6)))
def l7.f (m:aM) (bN:Int):Option (Option bA):=(yw.f m).bind λv1=>if(((!v1)||(decide (bN<0)))||(decide (bN>4611686018427387904)))=true then(some none) else((nX.f m.C).bind λv2=>(qu.f m.W m.H).bind λv3=>if(0<=(aa (v3.1*v3.2))/\(aa (v3.1*v3.2))<=1099511627776) then(l7.l0 fuel m bN v2 v3 (List.replicate (Int.toNat (aa (v3.1*v3.2))) (0:Int)) 0) else none)
def l7.R (r:(Option bA)):bm:=λu G=> ∃(u0:Value) (G0:List Hp),XW r u0 G0/\u=u0/\G=G0
theorem l7.c (H:l7.f m bN=some r) (sJ:aU (Fl.int .u8) m.C oX F) (uZ:List.length m.C<=oG):
 QR 149 [(.agg #[(ii m.W),(ii m.H),(ll oX m.C oG)]),(ii bN)] [] [] F (l7.R r):=by
 unfold l7.f at H;refine aG Tryz.func149 J J (λW=>rc T 2 (nc T J (λb1=>ro T 6 (lm T 1 J (k [] J SR H (yw.c · (rO sJ 0) uZ) (λv1 H=>ro T 2 (go T [4,5,6] 12 [1,2] 15 J J J J J J J (ro T 1 (go T [8,9,10] 16 [1,2] 19 J J J J J J J (ro T 2 (cb J H (λH=>?_) (λH=>?_))))))))))))
 ·refine rc T 7 ?_
  cases H;exact p1 T J [0] ⟨_,_,⟨J,J⟩,J,J⟩ J
 refine rc T 5 (lf T 1 J (kr nX.R [] [] J M6 H (nX.c · (rO sJ 0) uZ) (λv2 H=>?_)));rintro _ _ ⟨a2,n2,H2,s2,rfl,rfl⟩;refine fz J (ro T 1 (sg T 1 J (ro T 5 (lf T 1 J (ro T 1 (lf T 1 J (k [] J Gd H (qu.c ·) (λv3 H=>ro T 8 (ks [1,2,5,6] J (fz J (rg [] [0,0,0] mix (bM bL) (λhg pf=>av 0 sz hg pf J (gA T 1 J J J J J J J) (ha T 4 [1,2,3,4,5] sz hg pf J (ao 6 ?_))))))))))))));obtain⟨c5,H⟩:=aA H;refine yu (k:=(Fl.int .i64)) T (0:Int) J J J J J J J J c5 J (λa3 n3 H3 s3=>an (so [0,0,0]) (ha T 2 [7] (so [0,0,0]) hg pf J (ao 8 (nw T J (λb4=>an (so [0,0,0]) (ha T 0 [9] (so [0,0,0]) hg pf J (ae (rx T 7 (lf T 4 J (ro T 5 (lq [7,45] [0,1] (λ(⟨k8,x6,x7,a6,n6,H6⟩:Nat×List Int×Int×Option Addr×Nat×Hp)=>(l7.l0 k8 m bN v2 v3 x6 x7=some r/\aj (Fl.int .i64) 2 x6 a6 n6 H6,[(46,(ii x7))],[(cl b4 167 [(ii m.W),(ii m.H),(ll a2 v2 n2),(ii (aa (bN+1))),(ll a6 x6 n6)]),H6])) J J (fuel,(List.replicate (Int.toNat (aa (v3.1*v3.2))) (0:Int)),0,a3,n3,H3) [0,1,2,1] ⟨H,s3⟩ J J ?_)))))))))));rintro k8 ⟨x6,x7,a6,n6,H6⟩ ⟨Z6,s6⟩;rw[l7.l0] at Z6;refine rc T 6 (cd J Z6 (λZ6=>?_) (λZ6=>?_))
 ·refine rc T 10 (fz J (rz [10] mix (bM bL) (λhg pf=>ha T 8 [0,1,2] sz hg pf J (av 3 sz hg pf J (aw T J J J J (aI (j:=2) J J)) (ha T 3 [4,5,6,7] sz hg pf J (av 8 sz hg pf J (aw T J J J J (aI (j:=2) J J)) ?_))))));obtain⟨c8,Z6⟩:=aA Z6;obtain⟨q7,o7,e7⟩:=s6.r.addr c8.1 c8.2;refine av 9 sz hg pf J (cT T J J J J J e7 c8.1 c8.2) (ao 10 (kU (k:=(Fl.int .i64)) T 3 0 (aa (bN+1)) J J J J J J s6 e7 c8 J J J (λH8 s8=>kg [7,8,45,46,49,50,51,53,54,55,56,57,58] [0,0,1] [0,0,1,0] [(52,(ll a6 (List.set x6 (Int.toNat x7) (aa (bN+1))) n6))] [(cl b4 167 [(ii m.W),(ii m.H),(ll a2 v2 n2),(ii (aa (bN+1))),(ll a6 (List.set x6 (Int.toNat x7) (aa (bN+1))) n6)])] J J ⟨dN,trivial⟩ dN (an sl (ae (rx T 7 (ar (_,_,_,_,_) [0,0,1,0] ⟨Z6,s8⟩ J J)))))))
 refine rc T 12 ?_
 cases Z6;refine gw [2,1,1] J (p1 T J [1,0] ⟨_,_,⟨b4,(List.flatten [(cl b4 167 [(ii m.W),(ii m.H),(ll a2 v2 n2),(ii (aa (bN+1))),(ll a6 x6 n6)]),H2,H6]),(show iF (bA.mk (aM.mk m.W m.H v2) (aa (bN+1)) x6) b4 (List.flatten [(cl b4 167 [(ii m.W),(ii m.H),(ll a2 v2 n2),(ii (aa (bN+1))),(ll a6 x6 n6)]),H2,H6]) from⟨a2,n2,H2,a6,n6,H6,s2,s6,J⟩),J,J⟩,J,J⟩ J)
def iJ.f (g:bA):Option (Int×Int):=some (g.m.W,g.m.H)
theorem iJ.c (H:iJ.f g=some r) (fN:iF g fg gm):
 QU 171 [(pp fg)] [gm] F (.tuple #[(ii r.1),(ii r.2)]):=by
 unfold iJ.f at H;refine aG Tryz.func171 J J (λW=>rc T 13 (eY J (rc T 3 ?_)));obtain⟨a3,n3,H3,a4,n4,H4,s3,s4,cy⟩:=(λx=>x) fN;refine bS 0 (congrArg some cy) (fz J (dD mix az ?_))
 iterate 4 refine au T J ?_
 refine aO J J J (aw T J J J J (aI (j:=1) J J)) ?_
 iterate 4 refine au T J ?_
 refine aO J J J (aw T J J J J (aI (j:=1) J J)) (au T J (au T J (dg (rx T 2 ?_))))
 cases H;refine dr [1,1,1] J cy (p0 T J [1,0] J)
def pk.f (g:bA):Option Int:=some g.bN
theorem pk.c (H:pk.f g=some r) (fN:iF g fg gm):
 QU 136 [(pp fg)] [gm] F (ii r):=by
 unfold pk.f at H;refine aG Tryz.func136 J J (λW=>rc T 12 (eY J (rc T 3 ?_)));obtain⟨a3,n3,H3,a4,n4,H4,s3,s4,cy⟩:=(λx=>x) fN;refine bS 0 (congrArg some cy) (fz J (rc T 4 (lf T 1 J (ro T 4 ?_))))
 cases H;refine dr [1,1,1] J cy (p0 T J [1,0] J)
def w8.f (g:bA) (cell:Int) (cost:Int):Option (Int×bA):=(if cell<0 then(some true) else(some (decide (cell≥(List.length g.m.C:Int))))).bind λx1=>if x1=true then(some (7,g)) else(if((decide (cost<1))||(decide (cost>255)))=true then(some (8,g)) else(if(0<=cell/\cell<(List.length g.m.C:Int)) then((gN.f g.m.W g.m.H cell).bind λv3=>if(0<=v3/\v3<(List.length g.pQ:Int)) then(some (0,(bA.mk (aM.mk g.m.W g.m.H (List.set g.m.C (Int.toNat cell) (bP cost))) (aa (g.bN+1)) (List.set g.pQ (Int.toNat v3) (aa (g.bN+1)))))) else none) else none))
def w8.R (aau:Nat) (r:(Int×bA)):bm:=λu G=> ∃(H0:Hp),iF r.2 aau H0/\u=(ii r.1)/\G=[H0]
theorem w8.c (H:w8.f g cell cost=some r) (fN:iF g fg gm):
 QR 155 [(pp fg),(ii cell),(ii cost)] [gm] [] F (w8.R fg r):=by
 unfold w8.f at H;refine aG Tryz.func155 J J (λW=>rc T 14 (eY J (mq H [0,1,2] [1,0] (λz2 (x1:Bool)=>(x1=z2,[(10,(bb x1))],[])) J J (λz2 Z1 _=>?_) ?_)))
 ·obtain⟨a3,n3,H3,a4,n4,H4,s3,s4,cy⟩:=(λx=>x) fN;refine bS 0 (congrArg some cy) (fz J (rc T 4 (ad 13 J Z1 (λZ1=>?_) (λZ1=>?_))))
  ·refine ro T 12 (dr [1,1,1] J cy (am _ [0,0] (oi Z1) J J))
  refine ro T 5 (lf T 1 J (ro T 6 (dr [1,1,1] J cy (am _ [0,0] (oi Z1) J J))))
 rintro _ x1 rfl H;refine cb J H (λH=>?_) (λH=>?_)
 ·refine rc T 8 ?_
  cases H;exact p1 T J [1,0] ⟨gm,fN,J,J⟩ J
 refine rc T 5 (go T [3,4,5] 26 [0,1,2] 29 J J J J J J J (ro T 3 (cb J H (λH=>?_) (λH=>?_))))
 ·refine rc T 8 ?_
  cases H;exact p1 T J [1,0] ⟨gm,fN,J,J⟩ J
 refine rc T 4 ?_;obtain⟨a6,n6,H6,a7,n7,H7,s6,s7,rG⟩:=(λx=>x) fN;refine bS 1 (congrArg some rG) (fz J (rc T 5 (lf T 1 J (ro T 3 ?_))));obtain⟨c5,H⟩:=aA H;obtain⟨q8,o8,e8⟩:=s6.r.addr c5.1 c5.2;refine ix T J e8 c5 (aZ (kU (k:=(Fl.int .u8)) T 2 0 (bP cost) J J J J J J s6 e8 c5 J J J (λH9 s9=>kg [0,1] [0,1,1] [0,1,1,0] [] [(cl fg 167 [(ii g.m.W),(ii g.m.H),(ll a6 (List.set g.m.C (Int.toNat cell) (bP cost)) n6),(ii g.bN),(ll a7 g.pQ n7)])] J J trivial dN (ro T 7 (lf T 3 J (ro T 3 (sg T 3 J (ro T 3 (ks [0,1] J (fz J (rz [21] mix (bM bL) (λhg pf=>ha T 19 [0,1,2] sz hg pf J (av 3 sz hg pf J (aw T J J J J (aI (j:=3) J J)) (ha T 14 [4,5,6,7] sz hg pf J (av 8 sz hg pf J (aw T J J J J (aI (j:=3) J J)) (ha T 9 [9,10,11,12] sz hg pf J (av 13 sz hg pf J (aw T J J J J (aI (j:=3) J J)) (ha T 4 [14,16,17,18] sz hg pf J (av 19 sz hg pf J (aw T J J J J (aI (j:=3) J J)) (ao 15 (kh [] J rI H (gN.c ·) (λv3 H=>an sz ?_))))))))))))))))))))));obtain⟨c7,H⟩:=aA H;obtain⟨KL,KB,pZ⟩:=s7.r.addr c7.1 c7.2;refine av 20 sz hg pf J (cT T J J J J J pZ c7.1 c7.2) (ao 21 (kU (k:=(Fl.int .i64)) T 2 0 (aa (g.bN+1)) J J J J J J s7 pZ c7 J J J (λcB dj=>kg [0,1,46,47,48,50,51,52,53,54,55,56,57,58,59,60,61,62,63,64,65,66] [0,0,0] [0,0,0,0] [(49,(ll a7 (List.set g.pQ (Int.toNat v3) (aa (g.bN+1))) n7))] [(cl fg 167 [(ii g.m.W),(ii g.m.H),(ll a6 (List.set g.m.C (Int.toNat cell) (bP cost)) n6),(ii (aa (g.bN+1))),(ll a7 (List.set g.pQ (Int.toNat v3) (aa (g.bN+1))) n7)])] J J ⟨dN,trivial⟩ dN (an sl (ae (rx T 7 ?_))))))
 cases H;refine gw [3,1,1] J (p1 T J [1,0] ⟨(List.flatten [(cl fg 167 [(ii g.m.W),(ii g.m.H),(ll a6 (List.set g.m.C (Int.toNat cell) (bP cost)) n6),(ii (aa (g.bN+1))),(ll a7 (List.set g.pQ (Int.toNat v3) (aa (g.bN+1))) n7)]),H9,cB]),(show iF (bA.mk (aM.mk g.m.W g.m.H (List.set g.m.C (Int.toNat cell) (bP cost))) (aa (g.bN+1)) (List.set g.pQ (Int.toNat v3) (aa (g.bN+1)))) fg (List.flatten [(cl fg 167 [(ii g.m.W),(ii g.m.H),(ll a6 (List.set g.m.C (Int.toNat cell) (bP cost)) n6),(ii (aa (g.bN+1))),(ll a7 (List.set g.pQ (Int.toNat v3) (aa (g.bN+1))) n7)]),H9,cB]) from⟨a6,n6,H9,a7,n7,cB,s9,dj,J⟩),J,J⟩ J)
def l6.l0:Nat->bA->Int->(Int×Int)->(Int×Int)->List Int->Int->Option (aM×Bool)
 |0,_,_,_,_,_,_=>none
 |k7+1,g,bG,v1,v2,x5,x6=>if x6<v2.2 then((tJ.f v1.1 v1.2 bG (aa (x6*v2.1))).bind λv8=>if(0<=v8/\v8<=(aa (v8+v2.1))/\(aa (v8+v2.1))<=(List.length g.m.C:Int)) then(if(List.length x5+List.length (aB g.m.C v8 (aa (v8+v2.1)))<=1099511627776) then(l6.l0 k7 g bG v1 v2 (x5++(aB g.m.C v8 (aa (v8+v2.1)))) (aa (x6+1))) else none) else none) else(some ((aM.mk v2.1 v2.2 x5),true))
def l6.f (g:bA) (bG:Int):Option (aM×Bool):=(iJ.f g).bind λv1=>(rf.f v1.1 v1.2 bG).bind λv2=>if(v2.1==0)=true then(some ((aM.mk 0 0 []),false)) else(l6.l0 fuel g bG v1 v2 [] 0)
def l6.R (r:(aM×Bool)):bm:=λu G=> ∃a0 n0 H0,aj (Fl.int .u8) 5 r.1.C a0 n0 H0/\u=(.tuple #[(.agg #[(ii r.1.W),(ii r.1.H),(ll a0 r.1.C n0)]),(bb r.2)])/\G=[H0]
theorem l6.c (H:l6.f g bG=some r) (fN:iF g fg gm):
 QR 140 [(pp fg),(ii bG)] [gm] [gm] F (l6.R r):=by
 unfold l6.f at H;refine aG Tryz.func140 J J (λW=>rc T 2 (nc T J (λb2=>ro T 6 (k [0] J tZ H (iJ.c · fN) (λv1 H=>ro T 12 (k [] J F_ H (rf.c ·) (λv2 H=>ro T 14 (cb J H (λH=>?_) (λH=>?_)))))))))
 ·refine rc T 3 (sg T 2 J (ro T 5 ?_))
  cases H;refine bC (pb T J (.cN (j:=2) [(ii 0),(ii 0),nl] J J J J J J J (.tmp J .nil)) [3,0,0] ⟨(_,_),none,0,[],aj.nil,J,J⟩ J J)
 refine rc T 7 (nc T J (λb4=>sg T 3 J (ro T 10 (bC (lq [0,1,4,6,7,8,10,31] [1,0,0] (λ(⟨k7,x5,x6,a6,n6,H6⟩:Nat×List Int×Int×Option Addr×Nat×Hp)=>(l6.l0 k7 g bG v1 v2 x5 x6=some r/\aj (Fl.int .u8) 5 x5 a6 n6 H6,[(32,(ii x6))],[(cl b4 139 [(ii v2.1),(ii v2.2),(ll a6 x5 n6)]),H6])) J J (fuel,[],0,none,0,[]) [1,0,0,0,0] ⟨H,aj.nil⟩ J J ?_)))));rintro k7 ⟨x5,x6,a6,n6,H6⟩ ⟨Z4,s6⟩;rw[l6.l0] at Z4;refine rc T 6 (cd J Z4 (λZ4=>?_) (λZ4=>?_))
 ·refine rc T 18 (k [] J JA Z4 (tJ.c ·) (λv8 Z4=>ro T 3 ?_));obtain⟨a8,n8,H8,a9,n9,H9,s8,s9,rH⟩:=(λx=>x) fN;refine bS 1 (congrArg some rH) (fz J (fz J (rz [12,14] mix (bM bL) (λhg pf=>ha T 14 [0] sz hg pf J (av 1 sz hg pf J (aw T J J J J (aI (j:=2) J J)) (ha T 9 [2,3,4,5] sz hg pf J (av 6 sz hg pf J (aw T J J J J (aI (j:=4) J J)) (ha T 4 [7,8,9,10] sz hg pf J ?_))))))));obtain⟨c7,Z4⟩:=aA Z4;refine av 11 sz hg pf J (kF T J J J J J J c7 s8.bW) (ao 12 ?_);obtain⟨c8,Z4⟩:=aA Z4;refine ez (k:=(Fl.int .u8)) (xs:=x5) T (g:=3) J J J J J J J J J J s6 (ng (oO s8 5) c7 s8.bW) c8 J (λcw n10 bZ bU=>an sl (hb T 13 sl hg pf J (ao 14 (sf T 2 J (an sl (ae (rx T 7 (dr [4,4,4] J rH (ar (_,_,_,_,_) [0,3,0,0,0] ⟨Z4,bU⟩ J J)))))))))
 refine rc T 7 (lm T 3 J (sg T 2 J (ro T 4 ?_)))
 cases Z4;exact pb T J (.cN (j:=2) [(ii v2.1),(ii v2.2),(ll a6 x5 n6)] J J J J J J J (.tmp J .nil)) [4,1,0] ⟨(_,_),a6,n6,H6,s6,J,J⟩ J J
def p_.f (g:bA) (bG:Int):Option Int:=(if bG<0 then(some true) else(some (decide (bG≥(List.length g.pQ:Int))))).bind λx1=>if x1=true then(some 0) else(if(0<=bG/\bG<(List.length g.pQ:Int)) then(some (rd g.pQ bG)) else none)
theorem p_.c (H:p_.f g bG=some r) (fN:iF g fg gm):
 QU 137 [(pp fg),(ii bG)] [gm] F (ii r):=by
 unfold p_.f at H;refine aG Tryz.func137 J J (λW=>rc T 6 (mq H [0,1] [1,0] (λz2 (x1:Bool)=>(x1=z2,[(19,(bb x1))],[])) J J (λz2 Z1 _=>?_) ?_))
 ·obtain⟨a3,n3,H3,a4,n4,H4,s3,s4,cy⟩:=(λx=>x) fN;refine bS 0 (congrArg some cy) (fz J (rc T 8 (ad 11 J Z1 (λZ1=>?_) (λZ1=>?_))))
  ·refine ro T 10 (dr [1,1,1] J cy (am _ [0,0] (oi Z1) J J))
  refine ro T 4 (lf T 1 J (ro T 5 (dr [1,1,1] J cy (am _ [0,0] (oi Z1) J J))))
 rintro _ x1 rfl H;refine cb J H (λH=>?_) (λH=>?_)
 ·refine rc T 7 ?_
  cases H;exact p0 T J [1,0] J
 refine rc T 3 ?_;obtain⟨a6,n6,H6,a7,n7,H7,s6,s7,rG⟩:=(λx=>x) fN;refine bS 1 (congrArg some rG) (fz J (rc T 4 (lf T 1 J (ro T 1 ?_))));obtain⟨c4,H⟩:=aA H;obtain⟨q8,o8,e8⟩:=s7.r.addr c4.1 c4.2;refine ix T J e8 c4 (le T 0 (oO s7 3) e8 c4 J J (ro T 4 ?_))
 cases H;refine dr [1,1,1] J rG (p0 T J [1,0] J)
end
noncomputable section
def yB.f:Option (List Int):=some [0,1,2,3]
theorem yB.c (H:yB.f=some r):
 QU 205 [] [] F (.agg #[(ii (rd r 0)),(ii (rd r 1)),(ii (rd r 2)),(ii (rd r 3))]):=by
 unfold yB.f at H;refine aG Tryz.func205 J J (λW=>rc T 2 (nc T J (λb1=>ro T 4 (bz J (Jk T J J J J J J) (sg T 1 J (ro T 3 ?_))))))
 cases H;exact pb T J (.cN (j:=1) [(ii 0),(ii 1),(ii 2),(ii 3)] J J J J J J J .nil) [0] () J J
def fm.l3:Nat->Int->Int->List Int->Int->Option (List Int)
 |0,_,_,_,_=>none
 |Kc+1,tw,th,dw,dC=>if dC<th then(if(List.length dw+1<=1099511627776) then(fm.l3 Kc tw th (dw++[(aa (0+(aa (dC*tw))))]) (aa (dC+1))) else none) else(some dw)
def fm.l2:Nat->Int->Int->List Int->Int->Option (List Int)
 |0,_,_,_,_=>none
 |lK+1,tw,th,aS,bf=>if bf<th then(if(List.length aS+1<=1099511627776) then(fm.l2 lK tw th (aS++[(aa ((aa (tw-1))+(aa (bf*tw))))]) (aa (bf+1))) else none) else(some aS)
def fm.l1:Nat->Int->List Int->Int->Option (List Int)
 |0,_,_,_=>none
 |xj+1,tw,x8,x9=>if x9<tw then(if(List.length x8+1<=1099511627776) then(fm.l1 xj tw (x8++[(aa (0+x9))]) (aa (x9+1))) else none) else(some x8)
def fm.l0:Nat->Int->Int->List Int->Int->Option (List Int)
 |0,_,_,_,_=>none
 |k5+1,tw,th,x3,x4=>if x4<tw then(if(List.length x3+1<=1099511627776) then(fm.l0 k5 tw th (x3++[(aa ((aa ((aa (th-1))*tw))+x4))]) (aa (x4+1))) else none) else(some x3)
def fm.f (tw:Int) (th:Int) (side:Int):Option (List Int):=if(side==2)=true then(fm.l0 fuel tw th [] 0) else(if(side==0)=true then(fm.l1 fuel tw [] 0) else(if(side==1)=true then(fm.l2 fuel tw th [] 0) else(if(side==3)=true then(fm.l3 fuel tw th [] 0) else(some []))))
def fm.R (r:(List Int)):bm:=λu G=> ∃a0 n0 H0,aj (Fl.int .i64) 3 r a0 n0 H0/\u=(ll a0 r n0)/\G=[H0]
theorem fm.c (H:fm.f tw th side=some r):
 QR 233 [(ii tw),(ii th),(ii side)] [] [] F (fm.R r):=by
 unfold fm.f at H;refine aG Tryz.func233 J J (λW=>rc T 38 (cb J H (λH=>?_) (λH=>?_)))
 ·refine rc T 22 (bC (lq [8,24] [0] (λ(⟨k5,x3,x4,a2,n2,H2⟩:Nat×List Int×Int×Option Addr×Nat×Hp)=>(fm.l0 k5 tw th x3 x4=some r/\aj (Fl.int .i64) 3 x3 a2 n2 H2,[(7,(ll a2 x3 n2)),(25,(ii x4))],[H2])) J J (fuel,[],0,none,0,[]) [0,0] ⟨H,aj.nil⟩ J J ?_));rintro k5 ⟨x3,x4,a2,n2,H2⟩ ⟨Z2,s2⟩;rw[fm.l0] at Z2;refine rc T 6 (cd J Z2 (λZ2=>?_) (λZ2=>?_))
  ·refine rc T 15 (aZ (cV (k:=(Fl.int .i64)) T [(aa ((aa ((aa (th-1))*tw))+x4))] J J J J J J J J J (λa3 H3 s3=>?_)));obtain⟨c4,Z2⟩:=aA Z2;refine aZ (ez (k:=(Fl.int .i64)) (xs:=x3) T (g:=1) J J J J J J J J J J s2 (oO s3 2) c4 J (λa4 n4 H4 s4=>ro T 9 (ar (_,_,_,_,_) [0,0] ⟨Z2,s4⟩ J J)))
  refine rc T 19 ?_
  cases Z2;exact p1 T J [1,0] ⟨a2,n2,H2,s2,J,J⟩ J
 refine rc T 9 (cb J H (λH=>?_) (λH=>?_))
 ·refine rc T 15 (bC (lq [8,24] [0] (λ(⟨xj,x8,x9,a6,n6,H6⟩:Nat×List Int×Int×Option Addr×Nat×Hp)=>(fm.l1 xj tw x8 x9=some r/\aj (Fl.int .i64) 3 x8 a6 n6 H6,[(7,(ll a6 x8 n6)),(25,(ii x9))],[H6])) J J (fuel,[],0,none,0,[]) [0,0] ⟨H,aj.nil⟩ J J ?_));rintro xj ⟨x8,x9,a6,n6,H6⟩ ⟨Z6,s6⟩;rw[fm.l1] at Z6;refine rc T 6 (cd J Z6 (λZ6=>?_) (λZ6=>?_))
  ·refine rc T 15 (aZ (cV (k:=(Fl.int .i64)) T [(aa (0+x9))] J J J J J J J J J (λa7 H7 s7=>?_)));obtain⟨c8,Z6⟩:=aA Z6;refine aZ (ez (k:=(Fl.int .i64)) (xs:=x8) T (g:=1) J J J J J J J J J J s6 (oO s7 2) c8 J (λa8 n8 H8 s8=>ro T 9 (ar (_,_,_,_,_) [0,0] ⟨Z6,s8⟩ J J)))
  refine rc T 19 ?_
  cases Z6;exact p1 T J [1,0] ⟨a6,n6,H6,s6,J,J⟩ J
 refine rc T 9 (cb J H (λH=>?_) (λH=>?_))
 ·refine rc T 24 (bC (lq [0,8,37] [0] (λ(⟨lK,aS,bf,cw,n10,bZ⟩:Nat×List Int×Int×Option Addr×Nat×Hp)=>(fm.l2 lK tw th aS bf=some r/\aj (Fl.int .i64) 3 aS cw n10 bZ,[(7,(ll cw aS n10)),(38,(ii bf))],[bZ])) J J (fuel,[],0,none,0,[]) [0,0] ⟨H,aj.nil⟩ J J ?_));rintro lK ⟨aS,bf,cw,n10,bZ⟩ ⟨lX,bU⟩;rw[fm.l2] at lX;refine rc T 6 (cd J lX (λlX=>?_) (λlX=>?_))
  ·refine rc T 17 (aZ (cV (k:=(Fl.int .i64)) T [(aa ((aa (tw-1))+(aa (bf*tw))))] J J J J J J J J J (λdA cB dj=>?_)));obtain⟨fW,lX⟩:=aA lX;refine aZ (ez (k:=(Fl.int .i64)) (xs:=aS) T (g:=1) J J J J J J J J J J bU (oO dj 2) fW J (λa12 n12 dz dL=>ro T 9 (ar (_,_,_,_,_) [0,0] ⟨lX,dL⟩ J J)))
  refine rc T 15 ?_
  cases lX;exact p1 T J [1,0] ⟨cw,n10,bZ,bU,J,J⟩ J
 refine rc T 8 (cb J H (λH=>?_) (λH=>?_))
 ·refine rc T 18 (bC (lq [0,8,37] [0] (λ(⟨Kc,dw,dC,iT,n14,fV⟩:Nat×List Int×Int×Option Addr×Nat×Hp)=>(fm.l3 Kc tw th dw dC=some r/\aj (Fl.int .i64) 3 dw iT n14 fV,[(7,(ll iT dw n14)),(38,(ii dC))],[fV])) J J (fuel,[],0,none,0,[]) [0,0] ⟨H,aj.nil⟩ J J ?_));rintro Kc ⟨dw,dC,iT,n14,fV⟩ ⟨cj,gC⟩;rw[fm.l3] at cj;refine rc T 6 (cd J cj (λcj=>?_) (λcj=>?_))
  ·refine rc T 17 (aZ (cV (k:=(Fl.int .i64)) T [(aa (0+(aa (dC*tw))))] J J J J J J J J J (λjz dP dV=>?_)));obtain⟨pX,cj⟩:=aA cj;refine aZ (ez (k:=(Fl.int .i64)) (xs:=dw) T (g:=1) J J J J J J J J J J gC (oO dV 2) pX J (λj6 n16 gk gd=>ro T 9 (ar (_,_,_,_,_) [0,0] ⟨cj,gd⟩ J J)))
  refine rc T 15 ?_
  cases cj;exact p1 T J [1,0] ⟨iT,n14,fV,gC,J,J⟩ J
 refine rc T 20 ?_
 cases H;refine bC (p1 T J [1,0] ⟨none,0,[],aj.nil,J,J⟩ J)
def yA.f (w:Int) (h:Int) (cell:Int) (side:Int):Option Int:=(mh.f w h cell side).bind λv1=>(if v1<0 then(some true) else((gN.f w h v1).bind λv4=>(gN.f w h cell).bind λv5=>some (v4==v5))).bind λx2=>if x2=true then(some (-1)) else(some v1)
theorem yA.c (H:yA.f w h cell side=some r):
 QU 206 [(ii w),(ii h),(ii cell),(ii side)] [] F (ii r):=by
 unfold yA.f at H;refine aG Tryz.func206 J J (λW=>rc T 11 (k [] J AA H (mh.c ·) (λv1 H=>ro T 4 (mq H [9] [0] (λz3 (x2:Bool)=>(x2=z3,[(27,(bb x2))],[])) J J (λz3 Z2 _=>?_) ?_))))
 ·refine rc T 4 (ad 17 J Z2 (λZ2=>?_) (λZ2=>?_))
  ·refine ro T 12 (am _ [0] (oi Z2) J J)
  refine ro T 3 (k [] J rI Z2 (gN.c ·) (λv4 Z2=>ro T 3 (k [] J rI Z2 (gN.c ·) (λv5 Z2=>ro T 4 (am _ [0] (oi Z2) J J)))))
 rintro _ x2 rfl H;refine cb J H (λH=>?_) (λH=>?_)
 ·refine rc T 7 ?_
  cases H;exact p0 T J [0] J
 refine rc T 9 ?_
 cases H;exact p0 T J [0] J
def gI.l2:Nat->Int->Int->Int->List Bool->List Int->Int->Option (List Int)
 |0,_,_,_,_,_,_=>none
 |py+1,w,h,bG,x5,bX,eh=>if eh<(List.length x5:Int) then(if(0<=eh/\eh<(List.length x5:Int)) then(if(rd x5 eh)=true then((tJ.f w h bG eh).bind λv25=>if(List.length bX+1<=1099511627776) then(gI.l2 py w h bG x5 (bX++[v25]) (aa (eh+1))) else none) else(gI.l2 py w h bG x5 bX (aa (eh+1)))) else none) else(some bX)
def gI.l1:Nat->(List Int)->List Bool->Int->Option (List Bool)
 |0,_,_,_=>none
 |Kb+1,v10,cZ,dw=>if dw<(List.length v10:Int) then(if(0<=dw/\dw<(List.length v10:Int)) then(if(0<=(rd v10 dw)/\(rd v10 dw)<(List.length cZ:Int)) then(gI.l1 Kb v10 (List.set cZ (Int.toNat (rd v10 dw)) true) (aa (dw+1))) else none) else none) else(some cZ)
def gI.l0:Nat->Int->Int->Int->(Int×Int)->(List Int)->List Bool->Int->Option (List Int)
 |0,_,_,_,_,_,_,_=>none
 |k7+1,w,h,bG,v1,v2,x5,x6=>if x6<4 then((if(0<=x6/\x6<(List.length [(rd v2 0),(rd v2 1),(rd v2 2),(rd v2 3)]:Int)) then((fm.f v1.1 v1.2 (rd [(rd v2 0),(rd v2 1),(rd v2 2),(rd v2 3)] x6)).bind λv10=>(if((List.length v10:Int)==0)=true then(some true) else(if(0<=(0:Int)/\(0:Int)<(List.length v10:Int)) then((tJ.f w h bG (rd v10 0)).bind λlz=>(yA.f w h lz (rd [(rd v2 0),(rd v2 1),(rd v2 2),(rd v2 3)] x6)).bind λdq=>some (decide (dq<0))) else none)).bind λbd=>if bd=true then(some x5) else(gI.l1 fuel v10 x5 0)) else none).bind λx8=>gI.l0 k7 w h bG v1 v2 x8 (aa (x6+1))) else(gI.l2 fuel w h bG x5 [] 0)
def gI.f (w:Int) (h:Int) (bG:Int):Option (List Int):=(rf.f w h bG).bind λv1=>if(0<=(aa (v1.1*v1.2))/\(aa (v1.1*v1.2))<=1099511627776) then((yB.f).bind λv2=>gI.l0 fuel w h bG v1 v2 (List.replicate (Int.toNat (aa (v1.1*v1.2))) false) 0) else none
def gI.R (r:(List Int)):bm:=λu G=> ∃a0 n0 H0,aj (Fl.int .i64) 3 r a0 n0 H0/\u=(ll a0 r n0)/\G=[H0]
theorem gI.c (H:gI.f w h bG=some r):
 QR 203 [(ii w),(ii h),(ii bG)] [] [] F (gI.R r):=by
 unfold gI.f at H;refine aG Tryz.func203 J J (λW=>rc T 10 (k [] J F_ H (rf.c ·) (λv1 H=>ro T 12 ?_)));obtain⟨c2,H⟩:=aA H;refine aZ (yu (k:=Fl.bool) T false J J J J J J J J c2 J (λa1 n1 H1 s1=>ro T 6 (k [] J Ta H (yB.c ·) (λv2 H=>ro T 4 (lq [0,1,2,7,8,29] [0] (λ(⟨k7,x5,x6,a3,n3,H3⟩:Nat×List Bool×Int×Option Addr×Nat×Hp)=>(gI.l0 k7 w h bG v1 v2 x5 x6=some r/\aj Fl.bool 4 x5 a3 n3 H3,[(9,(ll a3 x5 n3)),(30,(ii x6))],[H3])) J J (fuel,(List.replicate (Int.toNat (aa (v1.1*v1.2))) false),0,a1,n1,H1) [0,0] ⟨H,s1⟩ J J ?_)))));rintro k7 ⟨x5,x6,a3,n3,H3⟩ ⟨Z4,s3⟩;rw[gI.l0] at Z4;refine rc T 6 (cd J Z4 (λZ4=>?_) (λZ4=>?_))
 ·refine rc T 2 (mq Z4 [0,1,2,7,8,29,30] [0] (λz9 (⟨x8,a4,n4,H4⟩:List Bool×Option Addr×Nat×Hp)=>(x8=z9/\aj Fl.bool 4 x8 a4 n4 H4,[(9,(ll a4 x8 n4))],[H4])) J J (λz9 Z6 _=>?_) ?_)
  ·refine rc T 3 ?_;obtain⟨c7,Z6⟩:=aA Z6;refine bz J (R4 T (Fl.int .i64) [(rd v2 0),(rd v2 1),(rd v2 2),(rd v2 3)] J J J J J J J J J c7 J) (ro T 8 (kr fm.R [] [] J adi Z6 (fm.c ·) (λv10 Z6=>?_)));rintro _ _ ⟨a5,n5,H5,s5,rfl,rfl⟩;refine fz J (ro T 4 (mq Z6 [0,1,2,7,8,9,12,29,30] [0,0,0] (λz12 (bd:Bool)=>(bd=z12,[(53,(bb bd))],[])) J J (λz12 Z9 _=>?_) ?_))
   ·refine rc T 5 (ab 40 J Z9 (λZ9=>?_) (λZ9=>?_))
    ·refine ro T 15 (am _ [0,0,0] (oi Z9) J J)
    refine ro T 6 ?_;obtain⟨eH,Z9⟩:=aA Z9;obtain⟨q6,o6,e6⟩:=s5.r.addr eH.1 eH.2;refine ix T J e6 eH (le T 0 (oO s5 2) e6 eH J J (k [] J JA Z9 (tJ.c ·) (λlz Z9=>ro T 1 (k [] J Tb Z9 (yA.c ·) (λdq Z9=>ro T 4 (am _ [0,0,0] (oi Z9) J J))))))
   rintro _ bd rfl Z6;refine cb J Z6 (λZ6=>?_) (λZ6=>?_)
   ·refine rc T 4 (am (_,_,_,_) [0,0] ⟨oi Z6,s3⟩ J J)
   refine rc T 10 (lq [0,1,2,7,8,29,30,54,55] [0,1] (λ(⟨Kb,cZ,dw,a8,n8,H8⟩:Nat×List Bool×Int×Option Addr×Nat×Hp)=>(gI.l1 Kb v10 cZ dw=some z9/\aj Fl.bool 4 cZ a8 n8 H8,[(9,(ll a8 cZ n8)),(56,(ii dw))],[H8])) J J (fuel,x5,0,a3,n3,H3) [0,1,0] ⟨Z6,s3⟩ J J ?_);rintro Kb ⟨cZ,dw,a8,n8,H8⟩ ⟨dp,s8⟩;rw[gI.l1] at dp;refine rc T 6 (cd J dp (λdp=>?_) (λdp=>?_))
   ·refine rc T 6 ?_;obtain⟨jD,dp⟩:=aA dp;obtain⟨q9,o9,e9⟩:=s5.r.addr jD.1 jD.2;refine ix T J e9 jD (le T 0 (oO s5 1) e9 jD J J (ro T 6 ?_));obtain⟨lI,dp⟩:=aA dp;obtain⟨KL,KB,pZ⟩:=s8.r.addr lI.1 lI.2;refine ix T J pZ lI (aZ (kU (k:=Fl.bool) T 2 0 true J J J J J J s8 pZ lI J J J (λcB dj=>kf [0,1,2,7,8,29,30,54,55,56] [0,0,0] [(9,(ll a8 (List.set cZ (Int.toNat (rd v10 dw)) true) n8))] J J ⟨dN,trivial⟩ (ro T 8 (ar (_,_,_,_,_) [0,0,0] ⟨dp,dj⟩ J J)))))
   refine rc T 6 (am (_,_,_,_) [0,1] ⟨oi dp,s8⟩ J J)
  rintro _ ⟨x8,a4,n4,H4⟩ ⟨rfl,s4⟩ Z4;refine rc T 5 (ar (_,_,_,_,_) [0,0] ⟨Z4,s4⟩ J J)
 refine rc T 19 (bC (lq [0,1,2,65,66] [0,0] (λ(⟨py,bX,eh,dH,n13,eJ⟩:Nat×List Int×Int×Option Addr×Nat×Hp)=>(gI.l2 py w h bG x5 bX eh=some r/\aj (Fl.int .i64) 3 bX dH n13 eJ,[(15,(ll dH bX n13)),(67,(ii eh))],[eJ])) J J (fuel,[],0,none,0,[]) [0,0,0] ⟨Z4,aj.nil⟩ J J ?_));rintro py ⟨bX,eh,dH,n13,eJ⟩ ⟨c_,dm⟩;rw[gI.l2] at c_;refine rc T 6 (cd J c_ (λc_=>?_) (λc_=>?_))
 ·refine rc T 7 ?_;obtain⟨mQ,c_⟩:=aA c_;obtain⟨VU,Vr,wX⟩:=s3.r.addr mQ.1 mQ.2;refine ix T J wX mQ (le T 0 (oO s3 1) wX mQ J J (ro T 9 (cb J c_ (λc_=>?_) (λc_=>?_))))
  ·refine rc T 6 (k [] J JA c_ (tJ.c ·) (λv25 c_=>aZ (cV (k:=(Fl.int .i64)) T [v25] J J J J J J J J J (λjz dP dV=>?_))));obtain⟨L8,c_⟩:=aA c_;refine aZ (ez (k:=(Fl.int .i64)) (xs:=bX) T (g:=2) J J J J J J J J J J dm (oO dV 3) L8 J (λj6 n16 gk gd=>ro T 9 (ar (_,_,_,_,_) [0,0,0] ⟨c_,gd⟩ J J)))
  refine rc T 8 (ar (_,_,_,_,_) [0,0,0] ⟨c_,dm⟩ J J)
 refine rc T 12 ?_
 cases c_;exact p1 T J [2,0] ⟨dH,n13,eJ,dm,J,J⟩ J
def tR.f (g:bA) (cell:Int):Option Bool:=(jh.f g cell).bind λv1=>some ((decide (v1>0))&&(decide (v1<255)))
theorem tR.c (H:tR.f g cell=some r) (fN:iF g fg gm):
 QU 204 [(pp fg),(ii cell)] [gm] F (bb r):=by
 unfold tR.f at H;refine aG Tryz.func204 J J (λW=>rc T 9 (k [0] J vn H (jh.c · fN) (λv1 H=>ro T 8 (ga T [3,4,5] 11 [] 14 J J J J J J J (ro T 4 ?_)))))
 cases H;exact p0 T J [0,0] J
def j8.l0:Nat->bA->(List Int)->List Int->Int->Option (List Int)
 |0,_,_,_,_=>none
 |k7+1,g,v2,x5,x6=>if x6<(List.length v2:Int) then(if(0<=x6/\x6<(List.length v2:Int)) then((tR.f g (rd v2 x6)).bind λv8=>if v8=true then(if(List.length x5+1<=1099511627776) then(j8.l0 k7 g v2 (x5++[(rd v2 x6)]) (aa (x6+1))) else none) else(j8.l0 k7 g v2 x5 (aa (x6+1)))) else none) else(some x5)
def j8.f (g:bA) (bG:Int):Option (List Int):=(iJ.f g).bind λv1=>(gI.f v1.1 v1.2 bG).bind λv2=>j8.l0 fuel g v2 [] 0
def j8.R (r:(List Int)):bm:=λu G=> ∃a0 n0 H0,aj (Fl.int .i64) 3 r a0 n0 H0/\u=(ll a0 r n0)/\G=[H0]
theorem j8.c (H:j8.f g bG=some r) (fN:iF g fg gm):
 QR 175 [(pp fg),(ii bG)] [gm] [gm] F (j8.R r):=by
 unfold j8.f at H;refine aG Tryz.func175 J J (λW=>rc T 8 (k [0] J tZ H (iJ.c · fN) (λv1 H=>ro T 18 (kr gI.R [] [] J ac1 H (gI.c ·) (λv2 H=>?_)))));rintro _ _ ⟨a2,n2,H2,s2,rfl,rfl⟩;refine fz J (ro T 5 (bC (lq [0,18,19] [1,0,0] (λ(⟨k7,x5,x6,a4,n4,H4⟩:Nat×List Int×Int×Option Addr×Nat×Hp)=>(j8.l0 k7 g v2 x5 x6=some r/\aj (Fl.int .i64) 3 x5 a4 n4 H4,[(7,(ll a4 x5 n4)),(20,(ii x6))],[H4])) J J (fuel,[],0,none,0,[]) [1,0,0,0] ⟨H,aj.nil⟩ J J ?_)));rintro k7 ⟨x5,x6,a4,n4,H4⟩ ⟨Z3,s4⟩;rw[j8.l0] at Z3;refine rc T 6 (cd J Z3 (λZ3=>?_) (λZ3=>?_))
 ·refine rc T 6 ?_;obtain⟨c5,Z3⟩:=aA Z3;obtain⟨q5,o5,e5⟩:=s2.r.addr c5.1 c5.2;refine ix T J e5 c5 (le T 0 (oO s2 2) e5 c5 J J (ro T 7 (k [1] J Nf Z3 (tR.c · fN) (λv8 Z3=>ro T 2 (cb J Z3 (λZ3=>?_) (λZ3=>?_))))))
  ·refine rc T 3 (aZ (cV (k:=(Fl.int .i64)) T [(rd v2 x6)] J J J J J J J J J (λa6 H6 s6=>?_)));obtain⟨c8,Z3⟩:=aA Z3;refine aZ (ez (k:=(Fl.int .i64)) (xs:=x5) T (g:=3) J J J J J J J J J J s4 (oO s6 4) c8 J (λa7 n7 H7 s7=>ro T 9 (ar (_,_,_,_,_) [0,0,0,0] ⟨Z3,s7⟩ J J)))
  refine rc T 8 (ar (_,_,_,_,_) [0,0,0,0] ⟨Z3,s4⟩ J J)
 refine rc T 12 ?_
 cases Z3;exact p1 T J [3,1,0] ⟨a4,n4,H4,s4,J,J⟩ J
def nu.l0:Nat->bA->Int->(Int×Int)->(List Int)->List ek->Int->Option (List ek)
 |0,_,_,_,_,_,_=>none
 |k8+1,g,cell,v1,v3,x6,x7=>if x7<4 then(if(0<=x7/\x7<(List.length [(rd v3 0),(rd v3 1),(rd v3 2),(rd v3 3)]:Int)) then((yA.f v1.1 v1.2 cell (rd [(rd v3 0),(rd v3 1),(rd v3 2),(rd v3 3)] x7)).bind λv9=>(if v9≥0 then((tR.f g v9).bind λv12=>some v12) else(some false)).bind λaN=>if aN=true then((jh.f g v9).bind λlz=>if(List.length x6+1<=1099511627776) then(nu.l0 k8 g cell v1 v3 (x6++[(ek.mk v9 lz)]) (aa (x7+1))) else none) else(nu.l0 k8 g cell v1 v3 x6 (aa (x7+1)))) else none) else(some x6)
def nu.f (g:bA) (cell:Int):Option (List ek):=(iJ.f g).bind λv1=>(tR.f g cell).bind λv2=>if(!v2)=true then(some []) else((yB.f).bind λv3=>nu.l0 fuel g cell v1 v3 [] 0)
def nu.R (r:(List ek)):bm:=λu G=> ∃a0 n0 H0,aj pz 283 r a0 n0 H0/\u=(ll a0 r n0)/\G=[H0]
theorem nu.c (H:nu.f g cell=some r) (fN:iF g fg gm):
 QR 176 [(pp fg),(ii cell)] [gm] [gm] F (nu.R r):=by
 unfold nu.f at H;refine aG Tryz.func176 J J (λW=>rc T 8 (k [0] J tZ H (iJ.c · fN) (λv1 H=>ro T 12 (k [0] J Nf H (tR.c · fN) (λv2 H=>ro T 3 (cb J H (λH=>?_) (λH=>?_)))))))
 ·refine rc T 7 ?_
  cases H;refine bC (p1 T J [2,0,0] ⟨none,0,[],aj.nil,J,J⟩ J)
 refine rc T 10 (k [] J Ta H (yB.c ·) (λv3 H=>ro T 4 (bC (lq [0,1,5,6,20] [1,0] (λ(⟨k8,x6,x7,a4,n4,H4⟩:Nat×List ek×Int×Option Addr×Nat×Hp)=>(nu.l0 k8 g cell v1 v3 x6 x7=some r/\aj pz 283 x6 a4 n4 H4,[(7,(ll a4 x6 n4)),(21,(ii x7))],[H4])) J J (fuel,[],0,none,0,[]) [1,0,0] ⟨H,aj.nil⟩ J J ?_))));rintro k8 ⟨x6,x7,a4,n4,H4⟩ ⟨Z5,s4⟩;rw[nu.l0] at Z5;refine rc T 6 (cd J Z5 (λZ5=>?_) (λZ5=>?_))
 ·refine rc T 6 ?_;obtain⟨c7,Z5⟩:=aA Z5;refine bz J (R4 T (Fl.int .i64) [(rd v3 0),(rd v3 1),(rd v3 2),(rd v3 3)] J J J J J J J J J c7 J) (ro T 9 (k [] J Tb Z5 (yA.c ·) (λv9 Z5=>ro T 3 (mq Z5 [0,1,5,6,7,10,20,21] [0,0,0] (λlT (aN:Bool)=>(aN=lT,[(35,(bb aN))],[])) J J (λlT Z9 _=>?_) ?_))))
  ·refine rc T 4 (ad 31 J Z9 (λZ9=>?_) (λZ9=>?_))
   ·refine ro T 2 (k [1] J Nf Z9 (tR.c · fN) (λv12 Z9=>ro T 3 (am _ [0,0,0] (oi Z9) J J)))
   refine ro T 6 (am _ [0,0,0] (oi Z9) J J)
  rintro _ aN rfl Z5;refine cb J Z5 (λZ5=>?_) (λZ5=>?_)
  ·refine rc T 5 (k [1] J vn Z5 (jh.c · fN) (λlz Z5=>ro T 1 (aZ (cV (k:=pz) T [(ek.mk v9 lz)] J J J J J J J J J (λa5 H5 s5=>?_)))));obtain⟨pc,Z5⟩:=aA Z5;refine aZ (ez (k:=pz) (xs:=x6) T (g:=2) J J J J J J J J J J s4 (oO s5 3) pc J (λa6 n6 H6 s6=>ro T 9 (ar (_,_,_,_,_) [0,0,0] ⟨Z5,s6⟩ J J)))
  refine rc T 8 (ar (_,_,_,_,_) [0,0,0] ⟨Z5,s4⟩ J J)
 refine rc T 12 ?_
 cases Z5;exact p1 T J [2,1,0] ⟨a4,n4,H4,s4,J,J⟩ J
end
end Go.Proofs.YthodkonhneebbaaGreatDoor
