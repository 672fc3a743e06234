/- What the functions of some packages compute, each as a function of plain Lean, with its contract. No condition. -/
import Derived.Test.YthodkonhneebbaaGreatDoorKST
import Derived.Test.YthodkonhneebbaaGreatDoorKS6
import Derived.Test.YthodkonhneebbaaGreatDoorKS5
namespace Go.Proofs.YthodkonhneebbaaGreatDoor
open Go.Hx
set_option maxRecDepth 100000
set_option linter.unusedSimpArgs false
set_option linter.unusedVariables false
set_option maxHeartbeats 4000000
set_option autoImplicit true
set_option relaxedAutoImplicit true
noncomputable section
def EL.f (dir:Int):Option Bool:=some ((decide (dir<0))||(decide (dir>5)))
theorem EL.c (H:EL.f dir=some r):
 QU 197 [(ii dir)] [] F (bb r):=by
 unfold EL.f at H;refine aD Tryz.func197 J J (λW=>rc T 10 (go T [3,4,5] 5 [] 8 J J J J J J J (ro T 4 ?_)))
 cases H;exact p0 T J [0] J
def rl.l0:Nat->(List Int)->Int->Option Int
 |0,_,_=>none
 |k3+1,s,x2=>if x2<(List.length s:Int) then(if(0<=x2/\x2<(List.length s:Int)) then((EL.f (rd s x2)).bind λv4=>if v4=true then(some x2) else(rl.l0 k3 s (aa (x2+1)))) else none) else(some (-1))
def rl.f (s:(List Int)):Option Int:=rl.l0 fuel s 0
theorem rl.c (H:rl.f s=some r) (iW:aP (Fl.int .i64) s iF F) (qM:List.length s<=iL):
 QU 232 [(ll iF s iL),(.func (.func 197) #[] #[])] [] F (ii r):=by
 unfold rl.f at H;refine aD Tryz.func232 J J (λW=>rc T 14 (lq [0,1,7] [0] (λ(⟨k3,x2⟩:Nat×Int)=>(rl.l0 k3 s x2=some r,[(8,(ii x2))],[])) J J (fuel,0) [0] H J J ?_));rintro k3 x2 Z1;replace Z1:rl.l0 (k3+1) s x2=some r:=Z1;rw[rl.l0] at Z1;refine rc T 6 (cd J Z1 (λZ1=>?_) (λZ1=>?_))
 ·refine rc T 15 ?_;obtain⟨c3,Z1⟩:=az Z1;obtain⟨q1,o1,e1⟩:=iW.addr c3.1 c3.2;refine ix T J e1 c3 (le T 0 (rO iW 0) e1 c3 J J (k [] J adp Z1 (EL.c ·) (λv4 Z1=>ro T 2 (cb J Z1 (λZ1=>?_) (λZ1=>?_)))))
  ·refine rc T 12 ?_
   cases Z1;exact p0 T J [0] J
  refine rc T 8 (ar _ [0] Z1 J J)
 refine rc T 11 ?_
 cases Z1;exact p0 T J [0] J
def Dx.f (s:(List Int)):Option Bool:=(rl.f s).bind λv1=>some (decide (v1≥0))
theorem Dx.c (H:Dx.f s=some r) (iW:aP (Fl.int .i64) s iF F) (qM:List.length s<=iL):
 QU 198 [(ll iF s iL),(.func (.func 197) #[] #[])] [] F (bb r):=by
 unfold Dx.f at H;refine aD Tryz.func198 J J (λW=>rc T 9 (k [] J adL H (rl.c · (rO iW 0) qM) (λv1 H=>ro T 5 ?_)))
 cases H;exact p0 T J [0] J
def wc.f (ag:mC) (u:aF) (dir:Int):Option (Bool×mC×aF):=if(dir==0)=true then((mj.f ag.w ag.h u.Cell dir).bind λv1=>(if v1<0 then(some true) else(some (aR ag.j4 v1))).bind λx2=>if x2=true then(some (true,ag,u)) else(if(List.length ag.kJ+1<=1099511627776) then(if(v1==u.Goal)=true then(if(List.length ag.gone+1<=1099511627776) then(some (false,(mC.mk ag.w ag.h (dT ag.j4 u.Cell) (ag.kJ++[(eD.mk u.Id v1)]) (ag.gone++[u.Id])),(aF.mk u.Id v1 u.Goal))) else none) else(some (true,(mC.mk ag.w ag.h (cJ (dT ag.j4 u.Cell) v1 true) (ag.kJ++[(eD.mk u.Id v1)]) ag.gone),(aF.mk u.Id v1 u.Goal)))) else none)) else(if(dir==1)=true then((mj.f ag.w ag.h u.Cell dir).bind λv4=>(if v4<0 then(some true) else(some (aR ag.j4 v4))).bind λx5=>if x5=true then(some (true,ag,u)) else(if(List.length ag.kJ+1<=1099511627776) then(if(v4==u.Goal)=true then(if(List.length ag.gone+1<=1099511627776) then(some (false,(mC.mk ag.w ag.h (dT ag.j4 u.Cell) (ag.kJ++[(eD.mk u.Id v4)]) (ag.gone++[u.Id])),(aF.mk u.Id v4 u.Goal))) else none) else(some (true,(mC.mk ag.w ag.h (cJ (dT ag.j4 u.Cell) v4 true) (ag.kJ++[(eD.mk u.Id v4)]) ag.gone),(aF.mk u.Id v4 u.Goal)))) else none)) else(if(dir==2)=true then((mj.f ag.w ag.h u.Cell dir).bind λv7=>(if v7<0 then(some true) else(some (aR ag.j4 v7))).bind λx8=>if x8=true then(some (true,ag,u)) else(if(List.length ag.kJ+1<=1099511627776) then(if(v7==u.Goal)=true then(if(List.length ag.gone+1<=1099511627776) then(some (false,(mC.mk ag.w ag.h (dT ag.j4 u.Cell) (ag.kJ++[(eD.mk u.Id v7)]) (ag.gone++[u.Id])),(aF.mk u.Id v7 u.Goal))) else none) else(some (true,(mC.mk ag.w ag.h (cJ (dT ag.j4 u.Cell) v7 true) (ag.kJ++[(eD.mk u.Id v7)]) ag.gone),(aF.mk u.Id v7 u.Goal)))) else none)) else(if(dir==3)=true then((mj.f ag.w ag.h u.Cell dir).bind λv10=>(if v10<0 then(some true) else(some (aR ag.j4 v10))).bind λbj=>if bj=true then(some (true,ag,u)) else(if(List.length ag.kJ+1<=1099511627776) then(if(v10==u.Goal)=true then(if(List.length ag.gone+1<=1099511627776) then(some (false,(mC.mk ag.w ag.h (dT ag.j4 u.Cell) (ag.kJ++[(eD.mk u.Id v10)]) (ag.gone++[u.Id])),(aF.mk u.Id v10 u.Goal))) else none) else(some (true,(mC.mk ag.w ag.h (cJ (dT ag.j4 u.Cell) v10 true) (ag.kJ++[(eD.mk u.Id v10)]) ag.gone),(aF.mk u.Id v10 u.Goal)))) else none)) else(some (true,ag,u)))))
def wc.R (aW:Nat) (eU:Nat) (r:(Bool×mC×aF)):bg:=λu G=> ∃(a0:Nat) (H0:Hp) (a1 n1 H1:_) (a2 n2 H2:_),cV (Ky.int .i64 u3) (λx:Bool=>Value.bool x) r.2.1.j4 a0 H0/\aj iJ 94 r.2.1.kJ a1 n1 H1/\aj (Fl.int .i64) 3 r.2.1.gone a2 n2 H2/\u=(bb r.1)/\G=[(cl aW 309 [(ii r.2.1.w),(ii r.2.1.h),(.map (some a0)),(ll a1 r.2.1.kJ n1),(ll a2 r.2.1.gone n2)]),H0,H1,H2,(cl eU 67 [(ii r.2.2.Id),(ii r.2.2.Cell),(ii r.2.2.Goal)])]
theorem wc.c (H:wc.f ag u dir=some r) (tU:cV (Ky.int .i64 u3) (λx:Bool=>Value.bool x) ag.j4 rL DO) (zO:aj iJ 94 ag.kJ DW EP DN) (tS:aj (Fl.int .i64) 3 ag.gone xd xL wY):
 QR 199 [(pp aW),(pp eU),(ii dir)] [(cl aW 309 [(ii ag.w),(ii ag.h),(.map (some rL)),(ll DW ag.kJ EP),(ll xd ag.gone xL)]),DO,DN,wY,(cl eU 67 [(ii u.Id),(ii u.Cell),(ii u.Goal)])] [] F (wc.R aW eU r):=by
 unfold wc.f at H;refine aD Tryz.func199 J J (λW=>rc T 25 (cb J H (λH=>?_) (λH=>?_)))
 ·refine rc T 10 (dx mix ay (au T J (au T J (au T J (aO J J J (aw T J J J J (aK (j:=0) J J)) (au T J (au T J (au T J (aO J J J (aw T J J J J (aK (j:=0) J J)) (au T J (au T J (au T J (aO J J J (aw T J J J J (aK (j:=4) J J)) (au T J ?_))))))))))))));obtain⟨v1,V2,H⟩:=gu H;refine uy J J J J J J AN J (mj.c V2) (au T J (dh (rx T 2 (mq H [0,1,7] [5,0,0,0,0,0] (λz3 (x2:Bool)=>(x2=z3,[(40,(bb x2))],[])) J J (λz3 Z3 _=>?_) ?_))))
  ·refine rc T 4 (ad 33 J Z3 (λZ3=>?_) (λZ3=>?_))
   ·refine ro T 9 (am _ [5,0,0,0,0,0] (oi Z3) J J)
   refine ro T 3 (lf T 0 J (ro T 1 (br J (qa (k:=v1) T (Ky.int .i64 u3) (λx:Bool=>Value.bool x) J J J J J (oJ tU (j:=1) J)) (ro T 3 (am _ [5,0,0,0,0,0] (oi Z3) J J)))))
  rintro _ x2 rfl H;refine cb J H (λH=>?_) (λH=>?_)
  ·refine rc T 10 ?_
   cases H;exact p1 T J [1,1,1,1,1,0] ⟨rL,DO,DW,EP,DN,xd,xL,wY,tU,zO,tS,J,J⟩ J
  refine rc T 3 (fz J (rz [8] mix (bO bN) (λhg pf=>ha T 6 [0,1,2] sz hg pf J (av 3 sz hg pf J (aw T J J J J (aK (j:=1) J J)) (ha T 2 [4,5,6] sz hg pf J (av 7 sz hg pf J (aw T J J J J (aK (j:=5) J J)) (ao 8 (DZ (g:=2) (m:=ag.j4) (k:=u.Cell) T (Ky.int .i64 u3) (λx:Bool=>Value.bool x) J J J J J J J J tU (λH6 s6=>an sl (ae (rx T 7 (sg T 5 J (ro T 3 (ks [0,1,7] J (fz J (rg [12,15] [0,0,0,0,0,0] mix (bO bN) (λhg pf=>ha T 12 [0,1,2,3] sz hg pf J (av 4 sz hg pf J (aw T J J J J (aK (j:=1) J J)) (ha T 8 [5,6,7] sz hg pf J (av 8 sz hg pf J (aw T J J J J (aK (j:=5) J J)) (ha T 5 [9,10] sz hg pf J (ao 11 (cY (k:=iJ) T [(eD.mk u.Id v1)] J J J J J J J J J (λa7 H7 s7=>an (so [0,0,0,0,0,0]) (ao 12 ?_)))))))))))))))))))))))));obtain⟨c6,H⟩:=az H;refine dW (k:=iJ) (xs:=ag.kJ) T (g:=3) J J J J J J J J J J zO (oO s7 6) c6 J (λa8 n8 H8 s8=>an sl (hb T 13 sl hg pf J (hb T 14 sl hg pf J (ao 15 (sf T 1 J (an sl (ae (rx T 1 (rc T 7 (lf T 5 J (ro T 3 (cb J H (λH=>?_) (λH=>?_)))))))))))))
  ·refine rc T 1 (ke [0,1] [0,0,0,0,0,0] J J (fz J (rg [10,13] [0,0,0,0,0,0] mix (bO bN) (λhg pf=>ha T 10 [0,1,2,3] sz hg pf J (av 4 sz hg pf J (aw T J J J J (aK (j:=1) J J)) (ha T 6 [5,6,7] sz hg pf J (av 8 sz hg pf J (aw T J J J J (aK (j:=5) J J)) (ao 9 (cY (k:=(Fl.int .i64)) T [u.Id] J J J J J J J J J (λa9 H9 s9=>an (so [0,0,0,0,0,0]) (ao 10 ?_)))))))))));obtain⟨c8,H⟩:=az H;refine dW (k:=(Fl.int .i64)) (xs:=ag.gone) T (g:=4) J J J J J J J J J J tS (oO s9 6) c8 J (λcB n10 b_ bP=>an sl (hb T 11 sl hg pf J (hb T 12 sl hg pf J (ao 13 (sf T 1 J (an sl (ae (rx T 1 (rc T 10 ?_)))))))))
   cases H;exact p1 T J [1,1,1,1,1,0] ⟨rL,H6,a8,n8,H8,cB,n10,b_,s6,s8,bP,J,J⟩ J
  refine rc T 6 (lf T 1 J (ro T 1 (aX (pX (g:=2) (m:=(dT ag.j4 u.Cell)) (k:=v1) (v:=true) T (Ky.int .i64 u3) (λx:Bool=>Value.bool x) J J J J J J J s6 (λcz c_=>ro T 11 ?_)))))
  cases H;exact p1 T J [1,1,1,1,1,0] ⟨rL,cz,a8,n8,H8,xd,xL,wY,c_,s8,tS,J,J⟩ J
 refine rc T 9 (cb J H (λH=>?_) (λH=>?_))
 ·refine rc T 10 (dx mix ay (au T J (au T J (au T J (aO J J J (aw T J J J J (aK (j:=0) J J)) (au T J (au T J (au T J (aO J J J (aw T J J J J (aK (j:=0) J J)) (au T J (au T J (au T J (aO J J J (aw T J J J J (aK (j:=4) J J)) (au T J ?_))))))))))))));obtain⟨v4,YD,H⟩:=gu H;refine uy J J J J J J AN J (mj.c YD) (au T J (dh (rx T 2 (mq H [0,1,7] [5,0,0,0,0,0] (λz6 (x5:Bool)=>(x5=z6,[(40,(bb x5))],[])) J J (λz6 bf _=>?_) ?_))))
  ·refine rc T 4 (ad 33 J bf (λbf=>?_) (λbf=>?_))
   ·refine ro T 9 (am _ [5,0,0,0,0,0] (oi bf) J J)
   refine ro T 3 (lf T 0 J (ro T 1 (br J (qa (k:=v4) T (Ky.int .i64 u3) (λx:Bool=>Value.bool x) J J J J J (oJ tU (j:=1) J)) (ro T 3 (am _ [5,0,0,0,0,0] (oi bf) J J)))))
  rintro _ x5 rfl H;refine cb J H (λH=>?_) (λH=>?_)
  ·refine rc T 10 ?_
   cases H;exact p1 T J [1,1,1,1,1,0] ⟨rL,DO,DW,EP,DN,xd,xL,wY,tU,zO,tS,J,J⟩ J
  refine rc T 3 (fz J (rz [8] mix (bO bN) (λhg pf=>ha T 6 [0,1,2] sz hg pf J (av 3 sz hg pf J (aw T J J J J (aK (j:=1) J J)) (ha T 2 [4,5,6] sz hg pf J (av 7 sz hg pf J (aw T J J J J (aK (j:=5) J J)) (ao 8 (DZ (g:=2) (m:=ag.j4) (k:=u.Cell) T (Ky.int .i64 u3) (λx:Bool=>Value.bool x) J J J J J J J J tU (λdq dz=>an sl (ae (rx T 7 (sg T 5 J (ro T 3 (ks [0,1,7] J (fz J (rg [12,15] [0,0,0,0,0,0] mix (bO bN) (λhg pf=>ha T 12 [0,1,2,3] sz hg pf J (av 4 sz hg pf J (aw T J J J J (aK (j:=1) J J)) (ha T 8 [5,6,7] sz hg pf J (av 8 sz hg pf J (aw T J J J J (aK (j:=5) J J)) (ha T 5 [9,10] sz hg pf J (ao 11 (cY (k:=iJ) T [(eD.mk u.Id v4)] J J J J J J J J J (λdK dV dm=>an (so [0,0,0,0,0,0]) (ao 12 ?_)))))))))))))))))))))))));obtain⟨pj,H⟩:=az H;refine dW (k:=iJ) (xs:=ag.kJ) T (g:=3) J J J J J J J J J J zO (oO dm 6) pj J (λje n14 fX gF=>an sl (hb T 13 sl hg pf J (hb T 14 sl hg pf J (ao 15 (sf T 1 J (an sl (ae (rx T 1 (rc T 7 (lf T 5 J (ro T 3 (cb J H (λH=>?_) (λH=>?_)))))))))))))
  ·refine rc T 1 (ke [0,1] [0,0,0,0,0,0] J J (fz J (rg [10,13] [0,0,0,0,0,0] mix (bO bN) (λhg pf=>ha T 10 [0,1,2,3] sz hg pf J (av 4 sz hg pf J (aw T J J J J (aK (j:=1) J J)) (ha T 6 [5,6,7] sz hg pf J (av 8 sz hg pf J (aw T J J J J (aK (j:=5) J J)) (ao 9 (cY (k:=(Fl.int .i64)) T [u.Id] J J J J J J J J J (λjS dI dP=>an (so [0,0,0,0,0,0]) (ao 10 ?_)))))))))));obtain⟨pY,H⟩:=az H;refine dW (k:=(Fl.int .i64)) (xs:=ag.gone) T (g:=4) J J J J J J J J J J tS (oO dP 6) pY J (λjT n16 fY fU=>an sl (hb T 11 sl hg pf J (hb T 12 sl hg pf J (ao 13 (sf T 1 J (an sl (ae (rx T 1 (rc T 10 ?_)))))))))
   cases H;exact p1 T J [1,1,1,1,1,0] ⟨rL,dq,je,n14,fX,jT,n16,fY,dz,gF,fU,J,J⟩ J
  refine rc T 6 (lf T 1 J (ro T 1 (aX (pX (g:=2) (m:=(dT ag.j4 u.Cell)) (k:=v4) (v:=true) T (Ky.int .i64 u3) (λx:Bool=>Value.bool x) J J J J J J J dz (λeH fq=>ro T 11 ?_)))))
  cases H;exact p1 T J [1,1,1,1,1,0] ⟨rL,eH,je,n14,fX,xd,xL,wY,fq,gF,tS,J,J⟩ J
 refine rc T 9 (cb J H (λH=>?_) (λH=>?_))
 ·refine rc T 10 (dx mix ay (au T J (au T J (au T J (aO J J J (aw T J J J J (aK (j:=0) J J)) (au T J (au T J (au T J (aO J J J (aw T J J J J (aK (j:=0) J J)) (au T J (au T J (au T J (aO J J J (aw T J J J J (aK (j:=4) J J)) (au T J ?_))))))))))))));obtain⟨v7,Qr,H⟩:=gu H;refine uy J J J J J J AN J (mj.c Qr) (au T J (dh (rx T 2 (mq H [0,1,7] [5,0,0,0,0,0] (λz9 (x8:Bool)=>(x8=z9,[(40,(bb x8))],[])) J J (λz9 fg _=>?_) ?_))))
  ·refine rc T 4 (ad 33 J fg (λfg=>?_) (λfg=>?_))
   ·refine ro T 9 (am _ [5,0,0,0,0,0] (oi fg) J J)
   refine ro T 3 (lf T 0 J (ro T 1 (br J (qa (k:=v7) T (Ky.int .i64 u3) (λx:Bool=>Value.bool x) J J J J J (oJ tU (j:=1) J)) (ro T 3 (am _ [5,0,0,0,0,0] (oi fg) J J)))))
  rintro _ x8 rfl H;refine cb J H (λH=>?_) (λH=>?_)
  ·refine rc T 10 ?_
   cases H;exact p1 T J [1,1,1,1,1,0] ⟨rL,DO,DW,EP,DN,xd,xL,wY,tU,zO,tS,J,J⟩ J
  refine rc T 3 (fz J (rz [8] mix (bO bN) (λhg pf=>ha T 6 [0,1,2] sz hg pf J (av 3 sz hg pf J (aw T J J J J (aK (j:=1) J J)) (ha T 2 [4,5,6] sz hg pf J (av 7 sz hg pf J (aw T J J J J (aK (j:=5) J J)) (ao 8 (DZ (g:=2) (m:=ag.j4) (k:=u.Cell) T (Ky.int .i64 u3) (λx:Bool=>Value.bool x) J J J J J J J J tU (λft fF=>an sl (ae (rx T 7 (sg T 5 J (ro T 3 (ks [0,1,7] J (fz J (rg [12,15] [0,0,0,0,0,0] mix (bO bN) (λhg pf=>ha T 12 [0,1,2,3] sz hg pf J (av 4 sz hg pf J (aw T J J J J (aK (j:=1) J J)) (ha T 8 [5,6,7] sz hg pf J (av 8 sz hg pf J (aw T J J J J (aK (j:=5) J J)) (ha T 5 [9,10] sz hg pf J (ao 11 (cY (k:=iJ) T [(eD.mk u.Id v7)] J J J J J J J J J (λkW kT ie=>an (so [0,0,0,0,0,0]) (ao 12 ?_)))))))))))))))))))))))));obtain⟨Aw,H⟩:=az H;refine dW (k:=iJ) (xs:=ag.kJ) T (g:=3) J J J J J J J J J J zO (oO ie 6) Aw J (λa20 n20 oq me=>an sl (hb T 13 sl hg pf J (hb T 14 sl hg pf J (ao 15 (sf T 1 J (an sl (ae (rx T 1 (rc T 7 (lf T 5 J (ro T 3 (cb J H (λH=>?_) (λH=>?_)))))))))))))
  ·refine rc T 1 (ke [0,1] [0,0,0,0,0,0] J J (fz J (rg [10,13] [0,0,0,0,0,0] mix (bO bN) (λhg pf=>ha T 10 [0,1,2,3] sz hg pf J (av 4 sz hg pf J (aw T J J J J (aK (j:=1) J J)) (ha T 6 [5,6,7] sz hg pf J (av 8 sz hg pf J (aw T J J J J (aK (j:=5) J J)) (ao 9 (cY (k:=(Fl.int .i64)) T [u.Id] J J J J J J J J J (λa21 kq jC=>an (so [0,0,0,0,0,0]) (ao 10 ?_)))))))))));obtain⟨Mz,H⟩:=az H;refine dW (k:=(Fl.int .i64)) (xs:=ag.gone) T (g:=4) J J J J J J J J J J tS (oO jC 6) Mz J (λa22 n22 lX iz=>an sl (hb T 11 sl hg pf J (hb T 12 sl hg pf J (ao 13 (sf T 1 J (an sl (ae (rx T 1 (rc T 10 ?_)))))))))
   cases H;exact p1 T J [1,1,1,1,1,0] ⟨rL,ft,a20,n20,oq,a22,n22,lX,fF,me,iz,J,J⟩ J
  refine rc T 6 (lf T 1 J (ro T 1 (aX (pX (g:=2) (m:=(dT ag.j4 u.Cell)) (k:=v7) (v:=true) T (Ky.int .i64 u3) (λx:Bool=>Value.bool x) J J J J J J J fF (λjE gG=>ro T 11 ?_)))))
  cases H;exact p1 T J [1,1,1,1,1,0] ⟨rL,jE,a20,n20,oq,xd,xL,wY,gG,me,tS,J,J⟩ J
 refine rc T 8 (cb J H (λH=>?_) (λH=>?_))
 ·refine rc T 9 (dx mix ay (au T J (au T J (au T J (aO J J J (aw T J J J J (aK (j:=0) J J)) (au T J (au T J (au T J (aO J J J (aw T J J J J (aK (j:=0) J J)) (au T J (au T J (au T J (aO J J J (aw T J J J J (aK (j:=4) J J)) (au T J ?_))))))))))))));obtain⟨v10,YF,H⟩:=gu H;refine uy J J J J J J AN J (mj.c YF) (au T J (dh (rx T 2 (mq H [0,1,7] [5,0,0,0,0,0] (λz12 (bj:Bool)=>(bj=z12,[(40,(bb bj))],[])) J J (λz12 FJ _=>?_) ?_))))
  ·refine rc T 4 (ad 33 J FJ (λFJ=>?_) (λFJ=>?_))
   ·refine ro T 9 (am _ [5,0,0,0,0,0] (oi FJ) J J)
   refine ro T 3 (lf T 0 J (ro T 1 (br J (qa (k:=v10) T (Ky.int .i64 u3) (λx:Bool=>Value.bool x) J J J J J (oJ tU (j:=1) J)) (ro T 3 (am _ [5,0,0,0,0,0] (oi FJ) J J)))))
  rintro _ bj rfl H;refine cb J H (λH=>?_) (λH=>?_)
  ·refine rc T 10 ?_
   cases H;exact p1 T J [1,1,1,1,1,0] ⟨rL,DO,DW,EP,DN,xd,xL,wY,tU,zO,tS,J,J⟩ J
  refine rc T 3 (fz J (rz [8] mix (bO bN) (λhg pf=>ha T 6 [0,1,2] sz hg pf J (av 3 sz hg pf J (aw T J J J J (aK (j:=1) J J)) (ha T 2 [4,5,6] sz hg pf J (av 7 sz hg pf J (aw T J J J J (aK (j:=5) J J)) (ao 8 (DZ (g:=2) (m:=ag.j4) (k:=u.Cell) T (Ky.int .i64 u3) (λx:Bool=>Value.bool x) J J J J J J J J tU (λrG mf=>an sl (ae (rx T 7 (sg T 5 J (ro T 3 (ks [0,1,7] J (fz J (rg [12,15] [0,0,0,0,0,0] mix (bO bN) (λhg pf=>ha T 12 [0,1,2,3] sz hg pf J (av 4 sz hg pf J (aw T J J J J (aK (j:=1) J J)) (ha T 8 [5,6,7] sz hg pf J (av 8 sz hg pf J (aw T J J J J (aK (j:=5) J J)) (ha T 5 [9,10] sz hg pf J (ao 11 (cY (k:=iJ) T [(eD.mk u.Id v10)] J J J J J J J J J (λa25 gV jh=>an (so [0,0,0,0,0,0]) (ao 12 ?_)))))))))))))))))))))))));obtain⟨c30,H⟩:=az H;refine dW (k:=iJ) (xs:=ag.kJ) T (g:=3) J J J J J J J J J J zO (oO jh 6) c30 J (λa26 n26 ot mL=>an sl (hb T 13 sl hg pf J (hb T 14 sl hg pf J (ao 15 (sf T 1 J (an sl (ae (rx T 1 (rc T 7 (lf T 5 J (ro T 3 (cb J H (λH=>?_) (λH=>?_)))))))))))))
  ·refine rc T 1 (ke [0,1] [0,0,0,0,0,0] J J (fz J (rg [10,13] [0,0,0,0,0,0] mix (bO bN) (λhg pf=>ha T 10 [0,1,2,3] sz hg pf J (av 4 sz hg pf J (aw T J J J J (aK (j:=1) J J)) (ha T 6 [5,6,7] sz hg pf J (av 8 sz hg pf J (aw T J J J J (aK (j:=5) J J)) (ao 9 (cY (k:=(Fl.int .i64)) T [u.Id] J J J J J J J J J (λBZ BR tM=>an (so [0,0,0,0,0,0]) (ao 10 ?_)))))))))));obtain⟨c32,H⟩:=az H;refine dW (k:=(Fl.int .i64)) (xs:=ag.gone) T (g:=4) J J J J J J J J J J tS (oO tM 6) c32 J (λa28 n28 sC jO=>an sl (hb T 11 sl hg pf J (hb T 12 sl hg pf J (ao 13 (sf T 1 J (an sl (ae (rx T 1 (rc T 10 ?_)))))))))
   cases H;exact p1 T J [1,1,1,1,1,0] ⟨rL,rG,a26,n26,ot,a28,n28,sC,mf,mL,jO,J,J⟩ J
  refine rc T 6 (lf T 1 J (ro T 1 (aX (pX (g:=2) (m:=(dT ag.j4 u.Cell)) (k:=v10) (v:=true) T (Ky.int .i64 u3) (λx:Bool=>Value.bool x) J J J J J J J mf (λqF pI=>ro T 11 ?_)))))
  cases H;exact p1 T J [1,1,1,1,1,0] ⟨rL,qF,a26,n26,ot,xd,xL,wY,pI,mL,tS,J,J⟩ J
 refine rc T 16 ?_
 cases H;exact p1 T J [0,0,0,0,0,0] ⟨rL,DO,DW,EP,DN,xd,xL,wY,tU,zO,tS,J,J⟩ J
def jK.l1:Nat->Int->Int->(List aF)->(List Int)->List aF->Int->Int->(List (Int×Bool))->List eD->List Int->Int->Option ((List aF)×(List eD)×(List Int)×Int)
 |0,_,_,_,_,_,_,_,_,_,_,_=>none
 |pz+1,w,h,l,aM,cD,cy,dE,jk,dH,cg,eA=>if eA<(List.length l:Int) then(if(0<=eA/\eA<(List.length l:Int)) then(if(0<=eA/\eA<(List.length aM:Int)) then((wc.f (mC.mk cy dE jk dH cg) (rd l eA) (rd aM eA)).bind λv25=>if v25.1=true then(if(List.length cD+1<=1099511627776) then(jK.l1 pz w h l aM (cD++[v25.2.2]) v25.2.1.w v25.2.1.h v25.2.1.j4 v25.2.1.kJ v25.2.1.gone (aa (eA+1))) else none) else(jK.l1 pz w h l aM cD v25.2.1.w v25.2.1.h v25.2.1.j4 v25.2.1.kJ v25.2.1.gone (aa (eA+1)))) else none) else none) else(some (cD,dH,cg,0))
def jK.l0:Nat->Int->Int->(List aF)->(List Int)->(List (Int×Bool))->Int->Option ((List aF)×(List eD)×(List Int)×Int)
 |0,_,_,_,_,_,_=>none
 |k9+1,w,h,l,aM,x7,x8=>if x8<(List.length l:Int) then(if(0<=x8/\x8<(List.length l:Int)) then(jK.l0 k9 w h l aM (cJ x7 ((rd l x8).Cell) true) (aa (x8+1))) else none) else(jK.l1 fuel w h l aM [] w h x7 [] [] 0)
def jK.f (w:Int) (h:Int) (l:(List aF)) (aM:(List Int)):Option ((List aF)×(List eD)×(List Int)×Int):=((pF.f w h l).bind λv3=>if((!v3)||((List.length aM:Int)!=(List.length l:Int)))=true then(some true) else((Dx.f aM).bind λv4=>some v4)).bind λx1=>if x1=true then(some ([],[],[],1)) else(jK.l0 fuel w h l aM ([]:(List (Int×Bool))) 0)
def jK.R (r:((List aF)×(List eD)×(List Int)×Int)):bg:=λu G=> ∃a0 n0 H0 a1 n1 H1 a2 n2 H2,aj lQ 67 r.1 a0 n0 H0/\aj iJ 94 r.2.1 a1 n1 H1/\aj (Fl.int .i64) 3 r.2.2.1 a2 n2 H2/\u=(.tuple #[(ll a0 r.1 n0),(ll a1 r.2.1 n1),(ll a2 r.2.2.1 n2),(ii r.2.2.2)])/\G=[H0,H1,H2]
theorem jK.c (H:jK.f w h l aM=some r) (dr:aP lQ l iE F) (gB:List.length l<=iy) (Gq:aP (Fl.int .i64) aM L8 F) (MD:List.length aM<=OU):
 QR 166 [(ii w),(ii h),(ll iE l iy),(ll L8 aM OU)] [] [] F (jK.R r):=by
 unfold jK.f at H;refine aD Tryz.func166 J J (λW=>rc T 14 (mq H [0,1,2,3,8] [0] (λz2 (x1:Bool)=>(x1=z2,[(34,(bb x1))],[])) J J (λz2 Z1 _=>?_) ?_))
 ·refine rc T 4 (k [] J T6 Z1 (pF.c · (rO dr 0) gB) (λv3 Z1=>ro T 2 (go T [6,7,8,9,10,11] 23 [0,1,2,3,8,12] 29 J J J J J J J (ro T 1 (ab 30 J Z1 (λZ1=>?_) (λZ1=>?_))))))
  ·refine ro T 6 (am _ [0] (oi Z1) J J)
  refine ro T 2 (k [] J adq Z1 (Dx.c · (rO Gq 0) MD) (λv4 Z1=>ro T 3 (am _ [0] (oi Z1) J J)))
 rintro _ x1 rfl H;refine cb J H (λH=>?_) (λH=>?_)
 ·refine rc T 10 ?_
  cases H;refine bq (bq (bq (p1 T J [1,1,1,0] ⟨none,0,[],none,0,[],none,0,[],aj.nil,aj.nil,aj.nil,J,J⟩ J)))
 refine rc T 8 (aX (vt T (Ky.int .i64 u3) (λx:Bool=>Value.bool x) J J J ⟨_,_,J⟩ (λa4 H4 s4=>ro T 1 (nc T J (λb5=>ro T 12 (lq [2,3,8,13,42,43] [0] (λ(⟨k9,x7,x8,a7,H7⟩:Nat×(List (Int×Bool))×Int×Nat×Hp)=>(jK.l0 k9 w h l aM x7 x8=some r/\cV (Ky.int .i64 u3) (λx:Bool=>Value.bool x) x7 a7 H7,[(44,(ii x8))],[(cl b5 309 [(ii w),(ii h),(.map (some a7)),nl,nl]),H7])) J J (fuel,([]:(List (Int×Bool))),0,a4,H4) [0,1,0] ⟨H,s4⟩ J J ?_))))));rintro k9 ⟨x7,x8,a7,H7⟩ ⟨Z6,s7⟩;rw[jK.l0] at Z6;refine rc T 6 (cd J Z6 (λZ6=>?_) (λZ6=>?_))
 ·refine rc T 6 ?_;obtain⟨c8,Z6⟩:=az Z6;obtain⟨q8,o8,e8⟩:=dr.addr c8.1 c8.2;refine ix T J e8 c8 (br J (fC T (cs:=[(ii (rd l x8).Id),(ii (rd l x8).Cell),(ii (rd l x8).Goal)]) J J J J J J (iv (k:=lQ) (rO dr 0) e8 c8 J)) (nc T J (λb9=>sg T 3 J (ro T 2 (ks [2,3,8,13,15,42,43,44] J (fz J (rz [6] mix (bO bN) (λhg pf=>ha T 4 [0,1,2] sz hg pf J (av 3 sz hg pf J (aw T J J J J (aK (j:=1) J J)) (ha T 2 [4] sz hg pf J (av 5 sz hg pf J (aw T J J J J (aK (j:=3) J J)) (ao 6 (pX (g:=2) (m:=x7) (k:=(rd l x8).Cell) (v:=true) T (Ky.int .i64 u3) (λx:Bool=>Value.bool x) J J J J J J J s7 (λb_ bP=>an sl (ae (rx T 7 (ar (_,_,_,_) [0,0,0] ⟨Z6,bP⟩ J J)))))))))))))))))
 refine rc T 14 (bq (bq (bq (lq [3,13,55,56] [0] (λ(⟨pz,cD,cy,dE,jk,dH,cg,eA,jS,n15,dI,jT,fY,a17,n17,eH,jo,n18,ft⟩:Nat×List aF×Int×Int×(List (Int×Bool))×List eD×List Int×Int×Option Addr×Nat×Hp×Nat×Hp×Option Addr×Nat×Hp×Option Addr×Nat×Hp)=>(jK.l1 pz w h l aM cD cy dE jk dH cg eA=some r/\aj lQ 67 cD jS n15 dI/\cV (Ky.int .i64 u3) (λx:Bool=>Value.bool x) jk jT fY/\aj iJ 94 dH a17 n17 eH/\aj (Fl.int .i64) 3 cg jo n18 ft,[(8,(ll jS cD n15)),(57,(ii eA))],[dI,(cl b5 309 [(ii cy),(ii dE),(.map (some jT)),(ll a17 dH n17),(ll jo cg n18)]),fY,eH,ft])) J J (fuel,[],w,h,x7,[],[],0,none,0,[],a7,H7,none,0,[],none,0,[]) [0,2,0,0,0,0] ⟨Z6,aj.nil,s7,aj.nil,aj.nil⟩ J J ?_))));rintro pz ⟨cD,cy,dE,jk,dH,cg,eA,jS,n15,dI,jT,fY,a17,n17,eH,jo,n18,ft⟩ ⟨Z9,dP,fU,fq,fF⟩;rw[jK.l1] at Z9;refine rc T 6 (cd J Z9 (λZ9=>?_) (λZ9=>?_))
 ·refine rc T 7 ?_;obtain⟨eJ,Z9⟩:=az Z9;obtain⟨q19,o19,Ga⟩:=dr.addr eJ.1 eJ.2;refine ix T J Ga eJ (br J (fC T (cs:=[(ii (rd l eA).Id),(ii (rd l eA).Cell),(ii (rd l eA).Goal)]) J J J J J J (iv (k:=lQ) (rO dr 0) Ga eJ J)) (nc T J (λJs=>ro T 1 (sg T 6 J (ro T 7 ?_)))));obtain⟨ir,Z9⟩:=az Z9;obtain⟨EX,o21,Gb⟩:=Gq.addr ir.1 ir.2;refine ix T J Gb ir (le T 0 (rO Gq 0) Gb ir J J (kr (wc.R b5 Js) [] [2,2,2,2,2] J adr Z9 (wc.c (ag:=(mC.mk cy dE jk dH cg)) · fU fq fF) (λv25 Z9=>?_)));rintro _ _ ⟨a22,lX,a23,n23,jE,a24,n24,rG,iz,gG,mf,rfl,rfl⟩;refine fz J (ro T 2 (cb J Z9 (λZ9=>?_) (λZ9=>?_)))
  ·refine rc T 2 (lm T 6 J (aX (cY (k:=lQ) T [v25.2.2] J J J J J J J J J (λa25 gV jh=>?_))));obtain⟨yM,Z9⟩:=az Z9;refine aX (dW (k:=lQ) (xs:=cD) T (g:=1) J J J J J J J J J J dP (oO jh 7) yM J (λa26 n26 ot mL=>ro T 2 (ke [3,8,13,55,56,57] [0,0,0,0,0,0] J J (rx T 7 (ar (_,_,_,_,_,_,_,_,_,_,_,_,_,_,_,_,_,_) [0,0,0,0,0,0] ⟨Z9,mL,iz,gG,mf⟩ J J)))))
  refine rc T 8 (ar (_,_,_,_,_,_,_,_,_,_,_,_,_,_,_,_,_,_) [0,0,0,0,0,0] ⟨Z9,dP,iz,gG,mf⟩ J J)
 refine rc T 6 (dx mix ay ?_)
 iterate 4 refine au T J ?_
 refine aO J J J (aw T J J J J (aK (j:=2) J J)) (au T J (au T J (au T J (aO J J J (aw T J J J J (aK (j:=2) J J)) ?_))))
 iterate 4 refine au T J ?_
 refine dh (rx T 2 ?_)
 cases Z9;exact p1 T J [1,3,3,0] ⟨jS,n15,dI,a17,n17,eH,jo,n18,ft,dP,fq,fF,J,J⟩ J
end
noncomputable section
def yd.f (most:Int):Option (Option fk):=if((decide (most<1))||(decide (most>65536)))=true then(some none) else(some (some (fk.mk most 0 ([]:(List (Int×aF))) [])))
def yd.R (r:(Option fk)):bg:=λu G=> ∃(u0:Value) (G0:List Hp),Yw r u0 G0/\u=u0/\G=G0
theorem yd.c (H:yd.f most=some r):
 QR 152 [(ii most)] [] [] F (yd.R r):=by
 unfold yd.f at H;refine aD Tryz.func152 J J (λW=>rc T 11 (go T [3,4,5] 5 [0] 8 J J J J J J J (ro T 2 (cb J H (λH=>?_) (λH=>?_)))))
 ·refine rc T 7 ?_
  cases H;exact p1 T J [0] ⟨_,_,⟨J,J⟩,J,J⟩ J
 refine rc T 5 (aX (vt T (Ky.int .i64 u3) (λx:aF=>Value.agg #[.int .i64 x.Id,.int .i64 x.Cell,.int .i64 x.Goal]) J J J trivial (λa1 H1 s1=>ro T 1 (nc T J (λb2=>ro T 4 ?_)))))
 cases H;refine bq (p1 T J [2,1,1,0] ⟨_,_,⟨b2,a1,H1,none,0,[],s1,aj.nil,J,J⟩,J,J⟩ J)
def wP.f (u:fk):Option Int:=some (List.length u.live:Int)
theorem wP.c (H:wP.f u=some r) (jP:cV (Ky.int .i64 u3) (λx:aF=>Value.agg #[.int .i64 x.Id,.int .i64 x.Cell,.int .i64 x.Goal]) u.live jf ku) (km:aj (Fl.int .i64) 3 u.order jG jM jF):
 QU 158 [(pp eU)] [(cl eU 178 [(ii u.most),(ii u.next),(.map (some jf)),(ll jG u.order jM)]),ku,jF] F (ii r):=by
 unfold wP.f at H;refine aD Tryz.func158 J J (λW=>rc T 12 (eT J (rc T 7 (lf T 0 J (br J (Na T (Ky.int .i64 u3) (λx:aF=>Value.agg #[.int .i64 x.Id,.int .i64 x.Cell,.int .i64 x.Goal]) J J J (oJ jP (j:=1) J)) (ro T 4 ?_))))))
 cases H;exact p0 T J [0,0,0,0] J
def wO.f (u:fk) (cell:Int) (goal:Int):Option (Int×Bool×fk):=if(List.length u.live:Int)≥u.most then(some (0,false,u)) else(if(List.length u.order+1<=1099511627776) then(some (u.next,true,(fk.mk u.most (aa (u.next+1)) (cJ u.live u.next (aF.mk u.next cell goal)) (u.order++[u.next])))) else none)
def wO.R (eU:Nat) (r:(Int×Bool×fk)):bg:=λu G=> ∃(a0:Nat) (H0:Hp) (a1 n1 H1:_),cV (Ky.int .i64 u3) (λx:aF=>Value.agg #[.int .i64 x.Id,.int .i64 x.Cell,.int .i64 x.Goal]) r.2.2.live a0 H0/\aj (Fl.int .i64) 3 r.2.2.order a1 n1 H1/\u=(.tuple #[(ii r.1),(bb r.2.1)])/\G=[(cl eU 178 [(ii r.2.2.most),(ii r.2.2.next),(.map (some a0)),(ll a1 r.2.2.order n1)]),H0,H1]
theorem wO.c (H:wO.f u cell goal=some r) (jP:cV (Ky.int .i64 u3) (λx:aF=>Value.agg #[.int .i64 x.Id,.int .i64 x.Cell,.int .i64 x.Goal]) u.live jf ku) (km:aj (Fl.int .i64) 3 u.order jG jM jF):
 QR 156 [(pp eU),(ii cell),(ii goal)] [(cl eU 178 [(ii u.most),(ii u.next),(.map (some jf)),(ll jG u.order jM)]),ku,jF] [] F (wO.R eU r):=by
 unfold wO.f at H;refine aD Tryz.func156 J J (λW=>rc T 8 (dx mix ay ?_))
 iterate 6 refine au T J ?_
 refine aO J J J (aw T J J J J (aK (j:=0) J J)) (aO J J J (Na T (Ky.int .i64 u3) (λx:aF=>Value.agg #[.int .i64 x.Id,.int .i64 x.Cell,.int .i64 x.Goal]) J J J (oJ jP (j:=1) J)) (au T J (au T J (au T J (aO J J J (aw T J J J J (aK (j:=0) J J)) (au T J (au T J (dh (rx T 1 (cd J H (λH=>?_) (λH=>?_)))))))))))
 ·refine rc T 8 ?_
  cases H;exact p1 T J [0,0,0,0] ⟨jf,ku,jG,jM,jF,jP,km,J,J⟩ J
 refine rc T 7 (lf T 0 J (ro T 8 (lf T 0 J (ro T 3 (sg T 0 J (ro T 7 (lf T 0 J (ro T 5 (aX (pX (g:=1) (m:=u.live) (k:=u.next) (v:=(aF.mk u.next cell goal)) T (Ky.int .i64 u3) (λx:aF=>Value.agg #[.int .i64 x.Id,.int .i64 x.Cell,.int .i64 x.Goal]) J J J J J J J jP (λH4 s4=>ro T 8 (lf T 0 J (ro T 1 (aX (cY (k:=(Fl.int .i64)) T [u.next] J J J J J J J J J (λa5 H5 s5=>?_))))))))))))))))
 obtain⟨c2,H⟩:=az H;refine aX (dW (k:=(Fl.int .i64)) (xs:=u.order) T (g:=2) J J J J J J J J J J km (oO s5 4) c2 J (λa6 n6 H6 s6=>ro T 2 (sg T 0 J (ro T 1 (ke [8] [0,0,0,0] J J (rx T 9 ?_))))))
 cases H;exact p1 T J [0,0,0,0] ⟨jf,H4,a6,n6,H6,s4,s6,J,J⟩ J
def oX.f (u:fk) (ai:Int):Option (aF×Bool):=some ((aF.mk ((aR u.live ai).Id) ((aR u.live ai).Cell) ((aR u.live ai).Goal)),(bR u.live ai))
theorem oX.c (H:oX.f u ai=some r) (jP:cV (Ky.int .i64 u3) (λx:aF=>Value.agg #[.int .i64 x.Id,.int .i64 x.Cell,.int .i64 x.Goal]) u.live jf ku) (km:aj (Fl.int .i64) 3 u.order jG jM jF):
 QU 122 [(pp eU),(ii ai)] [(cl eU 178 [(ii u.most),(ii u.next),(.map (some jf)),(ll jG u.order jM)]),ku,jF] F (.tuple #[(.agg #[(ii r.1.Id),(ii r.1.Cell),(ii r.1.Goal)]),(bb r.2)]):=by
 unfold oX.f at H;refine aD Tryz.func122 J J (λW=>rc T 2 (nc T J (λb4=>ro T 10 (eT J (rc T 7 (lf T 0 J (ro T 1 (br J (qa (k:=ai) T (Ky.int .i64 u3) (λx:aF=>Value.agg #[.int .i64 x.Id,.int .i64 x.Cell,.int .i64 x.Goal]) J J J J J (oJ jP (j:=1) J)) (ro T 3 (nc T J (λb5=>sg T 5 J (ro T 5 (lm T 5 J (ro T 1 (sg T 4 J (ro T 2 (ke [4,5] [0,0,0,0,0] J J (rx T 1 (rc T 1 ?_)))))))))))))))))))
 cases H;exact pb T J (.cQ (j:=4) [(ii (aR u.live ai).Id),(ii (aR u.live ai).Cell),(ii (aR u.live ai).Goal)] J J J J J J J (.tmp J .nil)) [0,0,0,0] () J J
def lT.l0:Nat->fk->List Int->Int->Option (List Int)
 |0,_,_,_=>none
 |k5+1,u,x3,x4=>if x4<(List.length u.order:Int) then(if(0<=x4/\x4<(List.length u.order:Int)) then(if(bR u.live (rd u.order x4))=true then(if(List.length x3+1<=1099511627776) then(lT.l0 k5 u (x3++[(rd u.order x4)]) (aa (x4+1))) else none) else(lT.l0 k5 u x3 (aa (x4+1)))) else none) else(some x3)
def lT.f (u:fk):Option (List Int):=lT.l0 fuel u [] 0
def lT.R (r:(List Int)):bg:=λu G=> ∃a0 n0 H0,aj (Fl.int .i64) 3 r a0 n0 H0/\u=(ll a0 r n0)/\G=[H0]
theorem lT.c (H:lT.f u=some r) (jP:cV (Ky.int .i64 u3) (λx:aF=>Value.agg #[.int .i64 x.Id,.int .i64 x.Cell,.int .i64 x.Goal]) u.live jf ku) (km:aj (Fl.int .i64) 3 u.order jG jM jF):
 QR 109 [(pp eU)] [(cl eU 178 [(ii u.most),(ii u.next),(.map (some jf)),(ll jG u.order jM)]),ku,jF] [(cl eU 178 [(ii u.most),(ii u.next),(.map (some jf)),(ll jG u.order jM)]),ku,jF] F (lT.R r):=by
 unfold lT.f at H;refine aD Tryz.func109 J J (λW=>rc T 16 (lf T 0 J (ro T 5 (bq (lq [0,11,12] [3,0,0,0] (λ(⟨k5,x3,x4,a5,n5,H5⟩:Nat×List Int×Int×Option Addr×Nat×Hp)=>(lT.l0 k5 u x3 x4=some r/\aj (Fl.int .i64) 3 x3 a5 n5 H5,[(3,(ll a5 x3 n5)),(13,(ii x4))],[H5])) J J (fuel,[],0,none,0,[]) [3,0,0,0,0] ⟨H,aj.nil⟩ J J ?_)))));rintro k5 ⟨x3,x4,a5,n5,H5⟩ ⟨Z1,s5⟩;rw[lT.l0] at Z1;refine rc T 6 (cd J Z1 (λZ1=>?_) (λZ1=>?_))
 ·refine rc T 6 ?_;obtain⟨c3,Z1⟩:=az Z1;obtain⟨q6,o6,e6⟩:=km.r.addr c3.1 c3.2;refine ix T J e6 c3 (le T 0 (oO km 3) e6 c3 J J (ro T 8 (lf T 1 J (ro T 1 (br J (qa (k:=(rd u.order x4)) T (Ky.int .i64 u3) (λx:aF=>Value.agg #[.int .i64 x.Id,.int .i64 x.Cell,.int .i64 x.Goal]) J J J J J (oJ jP (j:=2) J)) (ro T 3 (nc T J (λb7=>sg T 5 J (ro T 8 (cb J Z1 (λZ1=>?_) (λZ1=>?_)))))))))))
  ·refine rc T 3 (aX (cY (k:=(Fl.int .i64)) T [(rd u.order x4)] J J J J J J J J J (λa8 H8 s8=>?_)));obtain⟨c5,Z1⟩:=az Z1;refine aX (dW (k:=(Fl.int .i64)) (xs:=x3) T (g:=4) J J J J J J J J J J s5 (oO s8 6) c5 J (λa9 n9 H9 s9=>ro T 9 (ar (_,_,_,_,_) [0,0,0,0,0] ⟨Z1,s9⟩ J J)))
  refine rc T 8 (ar (_,_,_,_,_) [0,0,0,0,0] ⟨Z1,s5⟩ J J)
 refine rc T 12 ?_
 cases Z1;exact p1 T J [4,1,1,1,0] ⟨a5,n5,H5,s5,J,J⟩ J
def yf.f (u:fk) (ai:Int):Option (Bool×fk):=(oX.f u ai).bind λv1=>if(!v1.2)=true then(some (false,u)) else(if(List.length u.order:Int)>(aa (2*(List.length (dT u.live ai):Int))) then((lT.f (fk.mk u.most u.next (dT u.live ai) u.order)).bind λv2=>some (true,(fk.mk u.most u.next (dT u.live ai) v2))) else(some (true,(fk.mk u.most u.next (dT u.live ai) u.order))))
def yf.R (eU:Nat) (r:(Bool×fk)):bg:=λu G=> ∃(a0:Nat) (H0:Hp) (a1 n1 H1:_),cV (Ky.int .i64 u3) (λx:aF=>Value.agg #[.int .i64 x.Id,.int .i64 x.Cell,.int .i64 x.Goal]) r.2.live a0 H0/\aj (Fl.int .i64) 3 r.2.order a1 n1 H1/\u=(bb r.1)/\G=[(cl eU 178 [(ii r.2.most),(ii r.2.next),(.map (some a0)),(ll a1 r.2.order n1)]),H0,H1]
theorem yf.c (H:yf.f u ai=some r) (jP:cV (Ky.int .i64 u3) (λx:aF=>Value.agg #[.int .i64 x.Id,.int .i64 x.Cell,.int .i64 x.Goal]) u.live jf ku) (km:aj (Fl.int .i64) 3 u.order jG jM jF):
 QR 159 [(pp eU),(ii ai)] [(cl eU 178 [(ii u.most),(ii u.next),(.map (some jf)),(ll jG u.order jM)]),ku,jF] [] F (yf.R eU r):=by
 unfold yf.f at H;refine aD Tryz.func159 J J (λW=>rc T 9 (k [0,0,0] J Cn H (oX.c · jP km) (λv1 H=>ro T 3 (nc T J (λb4=>sg T 4 J (ro T 10 (cb J H (λH=>?_) (λH=>?_))))))))
 ·refine rc T 7 ?_
  cases H;exact p1 T J [0,0,0,0] ⟨jf,ku,jG,jM,jF,jP,km,J,J⟩ J
 refine rc T 7 (lf T 0 J (ro T 1 (aX (DZ (g:=1) (m:=u.live) (k:=ai) T (Ky.int .i64 u3) (λx:aF=>Value.agg #[.int .i64 x.Id,.int .i64 x.Cell,.int .i64 x.Goal]) J J J J J J J J jP (λH5 s5=>ro T 4 (dx mix ay (au T J (au T J (au T J (aO J J J (aw T J J J J (aK (j:=0) J J)) ?_))))))))))
 iterate 4 refine au T J ?_
 refine aO J J J (aw T J J J J (aK (j:=0) J J)) (aO J J J (Na T (Ky.int .i64 u3) (λx:aF=>Value.agg #[.int .i64 x.Id,.int .i64 x.Cell,.int .i64 x.Goal]) J J J (oJ s5 (j:=1) J)) (au T J (au T J (dh (rx T 1 (cd J H (λH=>?_) (λH=>?_)))))))
 ·refine rc T 3 (kr lT.R [0,0,0] [0,0,0] J Tc H (lT.c (u:=(fk.mk u.most u.next (dT u.live ai) u.order)) · s5 km) (λv2 H=>?_))
  rintro _ _ ⟨a6,n6,H6,s6,rfl,rfl⟩;refine fz J (ro T 2 (sg T 3 J (ro T 1 (ke [] [0,1,1,1] J J (rx T 7 ?_)))))
  cases H;exact p1 T J [2,2,1,0] ⟨jf,H5,a6,n6,H6,s5,s6,J,J⟩ J
 refine rc T 8 ?_
 cases H;exact p1 T J [0,0,0,0] ⟨jf,H5,jG,jM,jF,s5,km,J,J⟩ J
def BI.f (x:aF) (ai:Int):Option aF:=some (aF.mk x.Id x.Cell ai)
def BI.R (yI:Nat) (r:aF) (u:Value) (G:List Hp):Prop:=u=(.tuple #[])/\G=[(cl yI 67 [(ii r.Id),(ii r.Cell),(ii r.Goal)])]
theorem BI.c (H:BI.f x ai=some r):
 QR 162 [(pp yI),(pp uz)] [(cl yI 67 [(ii x.Id),(ii x.Cell),(ii x.Goal)]),(cl uz 3 [(ii ai)])] [(cl uz 3 [(ii ai)])] F (BI.R yI r):=by
 unfold BI.f at H;refine aD Tryz.func162 J J (λW=>rc T 2 (lf T 1 J (ro T 2 (sg T 0 J (ro T 1 (jq ?_))))))
 cases H;exact p1 T J [0,0,0] ⟨J,J⟩ J
def yh.f (u:fk) (ai:Int) (zA:Int):Option (Bool×fk):=(oX.f u ai).bind λv1=>if v1.2=true then((BI.f v1.1 zA).bind λv2=>some (v1.2,(fk.mk u.most u.next (cJ u.live ai v2) u.order))) else(some (v1.2,u))
def yh.R (eU:Nat) (r:(Bool×fk)):bg:=λu G=> ∃(a0:Nat) (H0:Hp) (a1 n1 H1:_),cV (Ky.int .i64 u3) (λx:aF=>Value.agg #[.int .i64 x.Id,.int .i64 x.Cell,.int .i64 x.Goal]) r.2.live a0 H0/\aj (Fl.int .i64) 3 r.2.order a1 n1 H1/\u=(bb r.1)/\G=[(cl eU 178 [(ii r.2.most),(ii r.2.next),(.map (some a0)),(ll a1 r.2.order n1)]),H0,H1]
theorem yh.c (H:yh.f u ai zA=some r) (jP:cV (Ky.int .i64 u3) (λx:aF=>Value.agg #[.int .i64 x.Id,.int .i64 x.Cell,.int .i64 x.Goal]) u.live jf ku) (km:aj (Fl.int .i64) 3 u.order jG jM jF):
 QR 161 [(pp eU),(ii ai),(.func (.func 162) #[] #[(pp F2)])] [(cl eU 178 [(ii u.most),(ii u.next),(.map (some jf)),(ll jG u.order jM)]),ku,jF,(cl F2 3 [(ii zA)])] [(cl F2 3 [(ii zA)])] F (yh.R eU r):=by
 unfold yh.f at H;refine aD Tryz.func161 J J (λW=>rc T 9 (k [0,0,0] J Cn H (oX.c · jP km) (λv1 H=>ro T 3 (nc T J (λb5=>sg T 5 J (ro T 9 (cb J H (λH=>?_) (λH=>?_))))))))
 ·refine rc T 3 (kr (BI.R b5) [3] [5,3] J ac6 H (BI.c ·) (λv2 H=>?_));rintro _ _ ⟨rfl,rfl⟩;refine fz J (ro T 2 (ks [0,1,7,8] J (fz J (rz [6] mix (bO bN) (λhg pf=>ha T 4 [0,1,2] sz hg pf J (av 3 sz hg pf J (aw T J J J J (aK (j:=0) J J)) (ha T 2 [4] sz hg pf J (av 5 sz hg pf J (gA T 4 J J J J J J J) (ao 6 (pX (g:=1) (m:=u.live) (k:=ai) (v:=v2) T (Ky.int .i64 u3) (λx:aF=>Value.agg #[.int .i64 x.Id,.int .i64 x.Cell,.int .i64 x.Goal]) J J J J J J J jP (λH6 s6=>an sl (ae (rx T 8 ?_)))))))))))))
  cases H;exact p1 T J [0,0,0,2,0] ⟨jf,H6,jG,jM,jF,s6,km,J,J⟩ J
 refine rc T 9 ?_
 cases H;exact p1 T J [0,0,0,0,0] ⟨jf,ku,jG,jM,jF,jP,km,J,J⟩ J
def ye.f (u:fk) (ai:Int) (goal:Int):Option (Bool×fk):=(yh.f u ai goal).bind λv1=>some (v1.1,v1.2)
def ye.R (eU:Nat) (r:(Bool×fk)):bg:=λu G=> ∃(a0:Nat) (H0:Hp) (a1 n1 H1:_),cV (Ky.int .i64 u3) (λx:aF=>Value.agg #[.int .i64 x.Id,.int .i64 x.Cell,.int .i64 x.Goal]) r.2.live a0 H0/\aj (Fl.int .i64) 3 r.2.order a1 n1 H1/\u=(bb r.1)/\G=[(cl eU 178 [(ii r.2.most),(ii r.2.next),(.map (some a0)),(ll a1 r.2.order n1)]),H0,H1]
theorem ye.c (H:ye.f u ai goal=some r) (jP:cV (Ky.int .i64 u3) (λx:aF=>Value.agg #[.int .i64 x.Id,.int .i64 x.Cell,.int .i64 x.Goal]) u.live jf ku) (km:aj (Fl.int .i64) 3 u.order jG jM jF):
 QR 126 [(pp eU),(ii ai),(ii goal)] [(cl eU 178 [(ii u.most),(ii u.next),(.map (some jf)),(ll jG u.order jM)]),ku,jF] [] F (ye.R eU r):=by
 unfold ye.f at H;refine aD Tryz.func126 J J (λW=>rc T 2 (nc T J (λb4=>ro T 8 (kr (yh.R eU) [4] [0,0,0,1] J Ts H (yh.c · jP km) (λv1 H=>?_)))));rintro _ _ ⟨a5,H5,a6,n6,H6,s5,s6,rfl,rfl⟩;refine fz J (ro T 4 ?_)
 cases H;exact p1 T J [1,1,1,0] ⟨a5,H5,a6,n6,H6,s5,s6,J,J⟩ J
def oW.l0:Nat->fk->(List Int)->List aF->Int->Option (List aF)
 |0,_,_,_,_=>none
 |k6+1,u,v1,x4,x5=>if x5<(List.length v1:Int) then(if(0<=x5/\x5<(List.length v1:Int)) then(if(List.length x4+1<=1099511627776) then(oW.l0 k6 u v1 (x4++[(aF.mk ((aR u.live (rd v1 x5)).Id) ((aR u.live (rd v1 x5)).Cell) ((aR u.live (rd v1 x5)).Goal))]) (aa (x5+1))) else none) else none) else(some x4)
def oW.f (u:fk):Option (List aF):=(lT.f u).bind λv1=>oW.l0 fuel u v1 [] 0
def oW.R (r:(List aF)):bg:=λu G=> ∃a0 n0 H0,aj lQ 67 r a0 n0 H0/\u=(ll a0 r n0)/\G=[H0]
theorem oW.c (H:oW.f u=some r) (jP:cV (Ky.int .i64 u3) (λx:aF=>Value.agg #[.int .i64 x.Id,.int .i64 x.Cell,.int .i64 x.Goal]) u.live jf ku) (km:aj (Fl.int .i64) 3 u.order jG jM jF):
 QR 81 [(pp eU)] [(cl eU 178 [(ii u.most),(ii u.next),(.map (some jf)),(ll jG u.order jM)]),ku,jF] [(cl eU 178 [(ii u.most),(ii u.next),(.map (some jf)),(ll jG u.order jM)]),ku,jF] F (oW.R r):=by
 unfold oW.f at H;refine aD Tryz.func81 J J (λW=>rc T 12 (eT J (rc T 11 (kr lT.R [0,0,0] [0,0,0] J Tc H (lT.c · jP km) (λv1 H=>?_)))));rintro _ _ ⟨a4,n4,H4,s4,rfl,rfl⟩;refine fz J (ro T 5 (bq (lq [0,9,10] [0,1,1,1,0] (λ(⟨k6,x4,x5,a6,n6,H6⟩:Nat×List aF×Int×Option Addr×Nat×Hp)=>(oW.l0 k6 u v1 x4 x5=some r/\aj lQ 67 x4 a6 n6 H6,[(3,(ll a6 x4 n6)),(11,(ii x5))],[H6])) J J (fuel,[],0,none,0,[]) [0,1,1,1,0,0] ⟨H,aj.nil⟩ J J ?_)));rintro k6 ⟨x4,x5,a6,n6,H6⟩ ⟨Z2,s6⟩;rw[oW.l0] at Z2;refine rc T 6 (cd J Z2 (λZ2=>?_) (λZ2=>?_))
 ·refine rc T 6 ?_;obtain⟨c4,Z2⟩:=az Z2;obtain⟨q7,o7,e7⟩:=s4.r.addr c4.1 c4.2;refine ix T J e7 c4 (le T 0 (oO s4 4) e7 c4 J J (ro T 8 (lf T 1 J (ro T 1 (br J (qa (k:=(rd v1 x5)) T (Ky.int .i64 u3) (λx:aF=>Value.agg #[.int .i64 x.Id,.int .i64 x.Cell,.int .i64 x.Goal]) J J J J J (oJ jP (j:=2) J)) (aX (cY (k:=lQ) T [(aF.mk ((aR u.live (rd v1 x5)).Id) ((aR u.live (rd v1 x5)).Cell) ((aR u.live (rd v1 x5)).Goal))] J J J J J J J J J (λa8 H8 s8=>?_))))))));obtain⟨c5,Z2⟩:=az Z2;refine aX (dW (k:=lQ) (xs:=x4) T (g:=5) J J J J J J J J J J s6 (oO s8 6) c5 J (λa9 n9 H9 s9=>ro T 9 (ar (_,_,_,_,_) [0,0,0,0,0,0] ⟨Z2,s9⟩ J J)))
 refine rc T 12 ?_
 cases Z2;exact p1 T J [5,1,1,1,0] ⟨a6,n6,H6,s6,J,J⟩ J
def BJ.f (x:aF) (ai:Int):Option aF:=some (aF.mk x.Id ai x.Goal)
def BJ.R (yI:Nat) (r:aF) (u:Value) (G:List Hp):Prop:=u=(.tuple #[])/\G=[(cl yI 67 [(ii r.Id),(ii r.Cell),(ii r.Goal)])]
theorem BJ.c (H:BJ.f x ai=some r):
 QR 200 [(pp yI),(pp uz)] [(cl yI 67 [(ii x.Id),(ii x.Cell),(ii x.Goal)]),(cl uz 3 [(ii ai)])] [(cl uz 3 [(ii ai)])] F (BJ.R yI r):=by
 unfold BJ.f at H;refine aD Tryz.func200 J J (λW=>rc T 2 (lf T 1 J (ro T 2 (sg T 0 J (ro T 1 (jq ?_))))))
 cases H;exact p1 T J [0,0,0] ⟨J,J⟩ J
def yi.f (u:fk) (ai:Int) (zA:Int):Option (Bool×fk):=(oX.f u ai).bind λv1=>if v1.2=true then((BJ.f v1.1 zA).bind λv2=>some (v1.2,(fk.mk u.most u.next (cJ u.live ai v2) u.order))) else(some (v1.2,u))
def yi.R (eU:Nat) (r:(Bool×fk)):bg:=λu G=> ∃(a0:Nat) (H0:Hp) (a1 n1 H1:_),cV (Ky.int .i64 u3) (λx:aF=>Value.agg #[.int .i64 x.Id,.int .i64 x.Cell,.int .i64 x.Goal]) r.2.live a0 H0/\aj (Fl.int .i64) 3 r.2.order a1 n1 H1/\u=(bb r.1)/\G=[(cl eU 178 [(ii r.2.most),(ii r.2.next),(.map (some a0)),(ll a1 r.2.order n1)]),H0,H1]
theorem yi.c (H:yi.f u ai zA=some r) (jP:cV (Ky.int .i64 u3) (λx:aF=>Value.agg #[.int .i64 x.Id,.int .i64 x.Cell,.int .i64 x.Goal]) u.live jf ku) (km:aj (Fl.int .i64) 3 u.order jG jM jF):
 QR 161 [(pp eU),(ii ai),(.func (.func 200) #[] #[(pp F2)])] [(cl eU 178 [(ii u.most),(ii u.next),(.map (some jf)),(ll jG u.order jM)]),ku,jF,(cl F2 3 [(ii zA)])] [(cl F2 3 [(ii zA)])] F (yi.R eU r):=by
 unfold yi.f at H;refine aD Tryz.func161 J J (λW=>rc T 9 (k [0,0,0] J Cn H (oX.c · jP km) (λv1 H=>ro T 3 (nc T J (λb5=>sg T 5 J (ro T 9 (cb J H (λH=>?_) (λH=>?_))))))))
 ·refine rc T 3 (kr (BJ.R b5) [3] [5,3] J adt H (BJ.c ·) (λv2 H=>?_));rintro _ _ ⟨rfl,rfl⟩;refine fz J (ro T 2 (ks [0,1,7,8] J (fz J (rz [6] mix (bO bN) (λhg pf=>ha T 4 [0,1,2] sz hg pf J (av 3 sz hg pf J (aw T J J J J (aK (j:=0) J J)) (ha T 2 [4] sz hg pf J (av 5 sz hg pf J (gA T 4 J J J J J J J) (ao 6 (pX (g:=1) (m:=u.live) (k:=ai) (v:=v2) T (Ky.int .i64 u3) (λx:aF=>Value.agg #[.int .i64 x.Id,.int .i64 x.Cell,.int .i64 x.Goal]) J J J J J J J jP (λH6 s6=>an sl (ae (rx T 8 ?_)))))))))))))
  cases H;exact p1 T J [0,0,0,2,0] ⟨jf,H6,jG,jM,jF,s6,km,J,J⟩ J
 refine rc T 9 ?_
 cases H;exact p1 T J [0,0,0,0,0] ⟨jf,ku,jG,jM,jF,jP,km,J,J⟩ J
def yg.f (u:fk) (ai:Int) (cell:Int):Option (Bool×fk):=(yi.f u ai cell).bind λv1=>some (v1.1,v1.2)
def yg.R (eU:Nat) (r:(Bool×fk)):bg:=λu G=> ∃(a0:Nat) (H0:Hp) (a1 n1 H1:_),cV (Ky.int .i64 u3) (λx:aF=>Value.agg #[.int .i64 x.Id,.int .i64 x.Cell,.int .i64 x.Goal]) r.2.live a0 H0/\aj (Fl.int .i64) 3 r.2.order a1 n1 H1/\u=(bb r.1)/\G=[(cl eU 178 [(ii r.2.most),(ii r.2.next),(.map (some a0)),(ll a1 r.2.order n1)]),H0,H1]
theorem yg.c (H:yg.f u ai cell=some r) (jP:cV (Ky.int .i64 u3) (λx:aF=>Value.agg #[.int .i64 x.Id,.int .i64 x.Cell,.int .i64 x.Goal]) u.live jf ku) (km:aj (Fl.int .i64) 3 u.order jG jM jF):
 QR 168 [(pp eU),(ii ai),(ii cell)] [(cl eU 178 [(ii u.most),(ii u.next),(.map (some jf)),(ll jG u.order jM)]),ku,jF] [] F (yg.R eU r):=by
 unfold yg.f at H;refine aD Tryz.func168 J J (λW=>rc T 2 (nc T J (λb4=>ro T 8 (kr (yi.R eU) [4] [0,0,0,1] J Ts H (yi.c · jP km) (λv1 H=>?_)))));rintro _ _ ⟨a5,H5,a6,n6,H6,s5,s6,rfl,rfl⟩;refine fz J (ro T 4 ?_)
 cases H;exact p1 T J [1,1,1,0] ⟨a5,H5,a6,n6,H6,s5,s6,J,J⟩ J
end
noncomputable section
def vD.f (w:Int) (h:Int) (most:Int):Option (Option dN):=(og.f w h).bind λv1=>if(((!v1)||(decide (most<1)))||(decide (most>65536)))=true then(some none) else((yd.f most).bind λv2=>cT v2 ((sY.f (aa (w*h))).bind λv3=>cT v3 (none) (λAd=>none)) (λsB=>(sY.f (aa (w*h))).bind λv4=>cT v4 (none) (λrD=>some (some (dN.mk w h most sB rD)))))
def vD.R (r:(Option dN)):bg:=λu G=> ∃(u0:Value) (G0:List Hp),Yk r u0 G0/\u=u0/\G=G0
theorem vD.c (H:vD.f w h most=some r):
 QR 116 [(ii w),(ii h),(ii most)] [] [] F (vD.R r):=by
 unfold vD.f at H;refine aD Tryz.func116 J J (λW=>rc T 10 (k [] J Cr H (og.c ·) (λv1 H=>ro T 2 (go T [5,6,7] 11 [0,1,2] 14 J J J J J J J (ro T 1 (go T [9,10,11] 15 [0,1,2] 18 J J J J J J J (ro T 2 (cb J H (λH=>?_) (λH=>?_)))))))))
 ·refine rc T 7 ?_
  cases H;exact p1 T J [0] ⟨_,_,⟨J,J⟩,J,J⟩ J
 refine rc T 8 (kr yd.R [] [] J ac2 H (yd.c ·) (λv2 H=>?_));rintro _ _ ⟨_,_,O4,rfl,rfl⟩;rcases v2 with _ |sB
 ·replace H:=eW J H;obtain⟨rfl,rfl⟩:=O4;refine ro T 3 (kr sY.R [] [] J Tn H (sY.c ·) (λv3 H=>?_));rintro _ _ ⟨_,_,O6,rfl,rfl⟩;rcases v3 with _ |Ad
  ·replace H:=eW J H;obtain⟨rfl,rfl⟩:=O6;refine ro T 1 (nc T J (λb6=>ro T 4 ?_))
   cases H
  replace H:=eX J H;obtain⟨b4,a5,n5,H5,s5,rfl,rfl⟩:=O6;refine ro T 1 (nc T J (λb7=>ro T 4 ?_))
  cases H
 replace H:=eX J H;obtain⟨b1,a2,H2,a3,n3,H3,s2,s3,rfl,rfl⟩:=O4;refine ro T 3 (kr sY.R [] [] J Tn H (sY.c ·) (λv4 H=>?_));rintro _ _ ⟨_,_,O8,rfl,rfl⟩;rcases v4 with _ |rD
 ·replace H:=eW J H;obtain⟨rfl,rfl⟩:=O8;refine ro T 1 (nc T J (λgd=>ro T 4 ?_))
  cases H
 replace H:=eX J H;obtain⟨b8,a9,n9,H9,s9,rfl,rfl⟩:=O8;refine ro T 1 (nc T J (λjU=>ro T 4 ?_))
 cases H;refine f_ [6,1,1,1,1,1] J (p1 T J [1,0] ⟨_,_,⟨jU,(List.flatten [(cl jU 146 [(ii w),(ii h),(ii most),(pp b1),(pp b8)]),(cl b1 178 [(ii sB.most),(ii sB.next),(.map (some a2)),(ll a3 sB.order n3)]),H2,H3,(cl b8 221 [(ll a9 rD.words n9),(ii rD.count)]),H9]),(show lJ (dN.mk w h most sB rD) jU (List.flatten [(cl jU 146 [(ii w),(ii h),(ii most),(pp b1),(pp b8)]),(cl b1 178 [(ii sB.most),(ii sB.next),(.map (some a2)),(ll a3 sB.order n3)]),H2,H3,(cl b8 221 [(ll a9 rD.words n9),(ii rD.count)]),H9]) from⟨b1,a2,H2,a3,n3,H3,b8,a9,n9,H9,s2,s3,s9,J⟩),J,J⟩,J,J⟩ J)
def yN.f (ag:dN) (cell:Int):Option Int:=(qO.f ag.floor cell).bind λv1=>some v1
theorem yN.c (H:yN.f ag cell=some r) (cK:lJ ag aW db):
 QU 119 [(pp aW),(ii cell)] [db] F (ii r):=by
 unfold yN.f at H;refine aD Tryz.func119 J J (λW=>rc T 12 (eT J (rc T 3 ?_)));obtain⟨b3,a4,H4,a5,n5,H5,b6,a7,n7,H7,s4,s5,s7,ct⟩:=(λx=>x) cK;refine bS 0 (congrArg some ct) (fz J (rc T 4 (lf T 1 J (ro T 1 (k [5,5] J Gt H (qO.c · s7) (λv1 H=>ro T 4 ?_))))))
 cases H;refine dw [1,1,1,1,1,1] J ct (p0 T J [1,0] J)
def vB.f (ag:dN) (cell:Int):Option Bool:=(gR.f ag.w ag.h cell).bind λv1=>some (decide (v1≥0))
theorem vB.c (H:vB.f ag cell=some r) (cK:lJ ag aW db):
 QU 123 [(pp aW),(ii cell)] [db] F (bb r):=by
 unfold vB.f at H;refine aD Tryz.func123 J J (λW=>rc T 6 ?_);obtain⟨b3,a4,H4,a5,n5,H5,b6,a7,n7,H7,s4,s5,s7,ct⟩:=(λx=>x) cK;refine bS 0 (congrArg some ct) (fz J (dx mix ay (au T J (au T J (au T J (aO J J J (aw T J J J J (aK (j:=1) J J)) (au T J (au T J (au T J (aO J J J (aw T J J J J (aK (j:=1) J J)) (au T J ?_)))))))))));obtain⟨v1,V1,H⟩:=gu H;refine uy J J J J J J rU J (gR.c V1) (au T J (au T J (dh (rx T 2 ?_))))
 cases H;refine dw [1,1,1,1,1,1] J ct (p0 T J [1,0] J)
def vC.f (ag:dN) (ai:Int) (cell:Int) (goal:Int):Option Int:=if(ai==0)=true then(((vB.f ag cell).bind λv3=>if(!v3)=true then(some true) else((vB.f ag goal).bind λv4=>some (!v4))).bind λx1=>if x1=true then(some 7) else((qO.f ag.floor cell).bind λv5=>if(v5 !=(-1))=true then(some 10) else((wP.f ag.cU).bind λv6=>if v6≥ag.most then(some 11) else(if(cell==goal)=true then(some 13) else(some 0))))) else(if(ai==1)=true then((qO.f ag.floor cell).bind λv7=>if(v7 !=(-1))=true then(some 10) else((wP.f ag.cU).bind λv8=>if v8≥ag.most then(some 11) else(if(cell==goal)=true then(some 13) else(some 0)))) else(if(ai==2)=true then((wP.f ag.cU).bind λv9=>if v9≥ag.most then(some 11) else(if(cell==goal)=true then(some 13) else(some 0))) else(if(ai==3)=true then(if(cell==goal)=true then(some 13) else(some 0)) else(some 0))))
theorem vC.c (H:vC.f ag ai cell goal=some r) (cK:lJ ag aW db):
 QU 124 [(pp aW),(ii ai),(ii cell),(ii goal)] [db] F (ii r):=by
 unfold vC.f at H;refine aD Tryz.func124 J J (λW=>rc T 28 (cb J H (λH=>?_) (λH=>?_)))
 ·refine rc T 5 (mq H [0,2,3] [1,0] (λz2 (x1:Bool)=>(x1=z2,[(27,(bb x1))],[])) J J (λz2 Z2 _=>?_) ?_)
  ·refine rc T 3 (k [0] J NC Z2 (vB.c · cK) (λv3 Z2=>ro T 2 (ab 22 J Z2 (λZ2=>?_) (λZ2=>?_))))
   ·refine ro T 7 (am _ [1,0] (oi Z2) J J)
   refine ro T 2 (k [0] J NC Z2 (vB.c · cK) (λv4 Z2=>ro T 4 (am _ [1,0] (oi Z2) J J)))
  rintro _ x1 rfl H;refine cb J H (λH=>?_) (λH=>?_)
  ·refine rc T 14 ?_
   cases H;exact p0 T J [1,0] J
  refine rc T 4 ?_;obtain⟨b3,a4,H4,a5,n5,H5,b6,a7,n7,H7,s4,s5,s7,ct⟩:=(λx=>x) cK;refine bS 1 (congrArg some ct) (fz J (rc T 4 (lf T 1 J (ro T 1 (k [5,5] J Gt H (qO.c · s7) (λv5 H=>ro T 3 (cb J H (λH=>?_) (λH=>?_))))))))
  ·refine rc T 12 ?_
   cases H;refine dw [1,1,1,1,1,1] J ct (p0 T J [1,0] J)
  refine rc T 4 (dx mix ay (au T J (au T J (au T J (aO J J J (aw T J J J J (aK (j:=1) J J)) ?_)))));obtain⟨v6,V9,H⟩:=gu H;refine xf [2,2,2] J J J J J J NF J (wP.c V9 s4 s5) (au T J (au T J (au T J (aO J J J (aw T J J J J (aK (j:=1) J J)) (au T J (dh (rx T 1 (cd J H (λH=>?_) (λH=>?_)))))))))
  ·refine rc T 10 ?_
   cases H;refine dw [1,1,1,1,1,1] J ct (p0 T J [1,0] J)
  refine rc T 11 (cb J H (λH=>?_) (λH=>?_))
  ·refine rc T 9 ?_
   cases H;refine dw [1,1,1,1,1,1] J ct (p0 T J [1,0] J)
  refine rc T 11 ?_
  cases H;refine dw [1,1,1,1,1,1] J ct (p0 T J [1,0] J)
 refine rc T 9 (cb J H (λH=>?_) (λH=>?_))
 ·refine rc T 8 ?_;obtain⟨b9,cB,b_,dj,n11,cz,kY,dK,n13,dV,bP,c_,dm,Gm⟩:=(λx=>x) cK;refine bS 0 (congrArg some Gm) (fz J (rc T 4 (lf T 1 J (ro T 1 (k [5,5] J Gt H (qO.c · dm) (λv7 H=>ro T 3 (cb J H (λH=>?_) (λH=>?_))))))))
  ·refine rc T 12 ?_
   cases H;refine dw [1,1,1,1,1,1] J Gm (p0 T J [1,0] J)
  refine rc T 4 (dx mix ay (au T J (au T J (au T J (aO J J J (aw T J J J J (aK (j:=1) J J)) ?_)))));obtain⟨v8,Qq,H⟩:=gu H;refine xf [2,2,2] J J J J J J NF J (wP.c Qq bP c_) (au T J (au T J (au T J (aO J J J (aw T J J J J (aK (j:=1) J J)) (au T J (dh (rx T 1 (cd J H (λH=>?_) (λH=>?_)))))))))
  ·refine rc T 10 ?_
   cases H;refine dw [1,1,1,1,1,1] J Gm (p0 T J [1,0] J)
  refine rc T 11 (cb J H (λH=>?_) (λH=>?_))
  ·refine rc T 9 ?_
   cases H;refine dw [1,1,1,1,1,1] J Gm (p0 T J [1,0] J)
  refine rc T 11 ?_
  cases H;refine dw [1,1,1,1,1,1] J Gm (p0 T J [1,0] J)
 refine rc T 9 (cb J H (λH=>?_) (λH=>?_))
 ·refine rc T 10 ?_;obtain⟨oy,jT,fY,a17,n17,eH,qJ,kW,n19,kT,fU,fq,ie,Ei⟩:=(λx=>x) cK;refine bS 0 (congrArg some Ei) (fz J (dx mix ay (au T J (au T J (au T J (aO J J J (aw T J J J J (aK (j:=1) J J)) ?_))))));obtain⟨v9,Jb,H⟩:=gu H;refine xf [2,2,2] J J J J J J NF J (wP.c Jb fU fq) (au T J (au T J (au T J (aO J J J (aw T J J J J (aK (j:=1) J J)) (au T J (dh (rx T 1 (cd J H (λH=>?_) (λH=>?_)))))))))
  ·refine rc T 10 ?_
   cases H;refine dw [1,1,1,1,1,1] J Ei (p0 T J [1,0] J)
  refine rc T 11 (cb J H (λH=>?_) (λH=>?_))
  ·refine rc T 9 ?_
   cases H;refine dw [1,1,1,1,1,1] J Ei (p0 T J [1,0] J)
  refine rc T 11 ?_
  cases H;refine dw [1,1,1,1,1,1] J Ei (p0 T J [1,0] J)
 refine rc T 8 (cb J H (λH=>?_) (λH=>?_))
 ·refine rc T 18 (cb J H (λH=>?_) (λH=>?_))
  ·refine rc T 9 ?_
   cases H;exact p0 T J [0,0] J
  refine rc T 11 ?_
  cases H;exact p0 T J [0,0] J
 refine rc T 19 ?_
 cases H;exact p0 T J [0,0] J
def uF.f (ag:dN) (cell:Int) (goal:Int):Option (Int×Int×dN):=(vC.f ag 0 cell goal).bind λv1=>if(v1 !=0)=true then(some ((-1),v1,ag)) else((wO.f ag.cU cell goal).bind λv2=>(sW.f ag.floor cell v2.1).bind λv3=>some (v2.1,0,(dN.mk ag.w ag.h ag.most v2.2.2 v3.2)))
def uF.R (ny:Nat) (r:(Int×Int×dN)):bg:=λu G=> ∃(H0:Hp),lJ r.2.2 ny H0/\u=(.tuple #[(ii r.1),(ii r.2.1)])/\G=[H0]
theorem uF.c (H:uF.f ag cell goal=some r) (cK:lJ ag aW db):
 QR 121 [(pp aW),(ii cell),(ii goal)] [db] [] F (uF.R aW r):=by
 unfold uF.f at H;refine aD Tryz.func121 J J (λW=>rc T 13 (eT J (rc T 8 (k [0] J Te H (vC.c · cK) (λv1 H=>ro T 9 (cb J H (λH=>?_) (λH=>?_)))))))
 ·refine rc T 9 ?_
  cases H;exact p1 T J [0,0] ⟨db,cK,J,J⟩ J
 refine rc T 3 ?_;obtain⟨b3,a4,H4,a5,n5,H5,b6,a7,n7,H7,s4,s5,s7,ct⟩:=(λx=>x) cK;refine bS 0 (congrArg some ct) (fz J (rc T 4 (lf T 1 J (ro T 2 (kr (wO.R b3) [] [2,2,2] J ac4 H (wO.c · s4 s5) (λv2 H=>?_))))));rintro _ _ ⟨a8,H8,a9,n9,H9,s8,s9,rfl,rfl⟩;refine fz J (ro T 11 (lf T 1 J (ro T 2 (kr (sW.R b6) [] [2,2] J Tq H (sW.c · s7) (λv3 H=>?_)))));rintro _ _ ⟨cB,n10,b_,bP,rfl,rfl⟩;refine fz J (ro T 10 ?_)
 cases H;refine f_ [1,1,1,1,1,1] J (p1 T J [1,0] ⟨(List.flatten [(cl aW 146 [(ii ag.w),(ii ag.h),(ii ag.most),(pp b3),(pp b6)]),(cl b3 178 [(ii v2.2.2.most),(ii v2.2.2.next),(.map (some a8)),(ll a9 v2.2.2.order n9)]),H8,H9,(cl b6 221 [(ll cB v3.2.words n10),(ii v3.2.count)]),b_]),(show lJ (dN.mk ag.w ag.h ag.most v2.2.2 v3.2) aW (List.flatten [(cl aW 146 [(ii ag.w),(ii ag.h),(ii ag.most),(pp b3),(pp b6)]),(cl b3 178 [(ii v2.2.2.most),(ii v2.2.2.next),(.map (some a8)),(ll a9 v2.2.2.order n9)]),H8,H9,(cl b6 221 [(ll cB v3.2.words n10),(ii v3.2.count)]),b_]) from⟨b3,a8,H8,a9,n9,H9,b6,cB,n10,b_,s8,s9,bP,J⟩),J,J⟩ J)
def F9.f (ai:Int) (goal:Int):Option Int:=some 1
theorem F9.c (H:F9.f ai goal=some r):
 QU 89 [(.pointer none),(ii ai),(ii goal)] [] F (ii r):=by
 unfold F9.f at H;refine aD Tryz.func89 J J (λW=>rc T 12 (mu J (rc T 7 ?_)))
 cases H;exact p0 T J [0] J
def pZ.f (ag:dN) (u:aF):Option dN:=(yf.f ag.cU u.Id).bind λv1=>(sX.f ag.floor u.Cell).bind λv2=>some (dN.mk ag.w ag.h ag.most v1.2 v2.2)
def pZ.R (ny:Nat) (r:dN):bg:=λu G=> ∃(H0:Hp),lJ r ny H0/\u=(.tuple #[])/\G=[H0]
theorem pZ.c (H:pZ.f ag u=some r) (cK:lJ ag aW db):
 QR 125 [(pp aW),(.agg #[(ii u.Id),(ii u.Cell),(ii u.Goal)])] [db] [] F (pZ.R aW r):=by
 unfold pZ.f at H;refine aD Tryz.func125 J J (λW=>rc T 2 (nc T J (λb2=>ro T 3 ?_)));obtain⟨b4,a5,H5,a6,n6,H6,b7,a8,n8,H8,s5,s6,s8,dy⟩:=(λx=>x) cK;refine bS 0 (congrArg some dy) (fz J (ks [0,3] J (fz J (rz [6] mix (bO bN) (λhg pf=>ha T 4 [0,1,2] sz hg pf J (av 3 sz hg pf J (aw T J J J J (aK (j:=2) J J)) (ha T 2 [4] sz hg pf J (av 5 sz hg pf J (aw T J J J J (aK (j:=1) J J)) (ao 6 (kR (yf.R b4) [] [3,3,3] J ac5 H (yf.c · s5 s6) (λv1 H=>?_)))))))))));rintro _ _ ⟨a9,H9,cB,n10,b_,s9,bP,rfl,rfl⟩;refine fz J (an sl (ae (rx T 1 (ks [0,3] J (fz J (rz [6] mix (bO bN) (λhg pf=>ha T 4 [0,1,2] sz hg pf J (av 3 sz hg pf J (aw T J J J J (aK (j:=2) J J)) (ha T 2 [4] sz hg pf J (av 5 sz hg pf J (aw T J J J J (aK (j:=1) J J)) (ao 6 (kR (sX.R b7) [] [3,3] J Tr H (sX.c · s8) (λv2 H=>?_)))))))))))));rintro _ _ ⟨dj,n11,cz,c_,rfl,rfl⟩;refine fz J (an sl (ae (jq ?_)))
 cases H;refine f_ [2,2,2,2,2,2] J (p1 T J [2,0] ⟨(List.flatten [(cl aW 146 [(ii ag.w),(ii ag.h),(ii ag.most),(pp b4),(pp b7)]),(cl b4 178 [(ii v1.2.most),(ii v1.2.next),(.map (some a9)),(ll cB v1.2.order n10)]),H9,b_,(cl b7 221 [(ll dj v2.2.words n11),(ii v2.2.count)]),cz]),(show lJ (dN.mk ag.w ag.h ag.most v1.2 v2.2) aW (List.flatten [(cl aW 146 [(ii ag.w),(ii ag.h),(ii ag.most),(pp b4),(pp b7)]),(cl b4 178 [(ii v1.2.most),(ii v1.2.next),(.map (some a9)),(ll cB v1.2.order n10)]),H9,b_,(cl b7 221 [(ll dj v2.2.words n11),(ii v2.2.count)]),cz]) from⟨b4,a9,H9,cB,n10,b_,b7,dj,n11,cz,s9,bP,c_,J⟩),J,J⟩ J)
def uD.f (ag:dN) (ai:Int) (goal:Int):Option (Int×dN):=(oX.f ag.cU ai).bind λv1=>if(!v1.2)=true then(some (12,ag)) else((vB.f ag goal).bind λv2=>if(!v2)=true then(some (7,ag)) else((vC.f ag 3 v1.1.Cell goal).bind λv3=>if(v3 !=0)=true then((pZ.f ag v1.1).bind λv4=>some (v3,v4)) else((ye.f ag.cU ai goal).bind λv5=>some (0,(dN.mk ag.w ag.h ag.most v5.2 ag.floor)))))
def uD.R (ny:Nat) (r:(Int×dN)):bg:=λu G=> ∃(H0:Hp),lJ r.2 ny H0/\u=(ii r.1)/\G=[H0]
theorem uD.c (H:uD.f ag ai goal=some r) (cK:lJ ag aW db):
 QR 89 [(pp aW),(ii ai),(ii goal)] [db] [] F (uD.R aW r):=by
 unfold uD.f at H;refine aD Tryz.func89 J J (λW=>rc T 12 (eT J (rc T 3 ?_)));obtain⟨b3,a4,H4,a5,n5,H5,b6,a7,n7,H7,s4,s5,s7,ct⟩:=(λx=>x) cK;refine bS 0 (congrArg some ct) (fz J (rc T 4 (lf T 1 J (ro T 1 (k [2,2,2] J Cn H (oX.c · s4 s5) (λv1 H=>ro T 3 (nc T J (λb8=>sg T 7 J (ro T 12 (cb J H (λH=>?_) (λH=>?_)))))))))))
 ·refine rc T 8 ?_
  cases H;refine dw [1,1,1,1,1,1] J ct (p1 T J [2,0] ⟨db,cK,J,J⟩ J)
 refine rc T 4 ?_;obtain⟨v2,V3,H⟩:=gu H;refine aX (Jm (As:=[(cl aW 146 [(ii ag.w),(ii ag.h),(ii ag.most),(pp b3),(pp b6)]),(cl b3 178 [(ii ag.cU.most),(ii ag.cU.next),(.map (some a4)),(ll a5 ag.cU.order n5)]),H4,H5,(cl b6 221 [(ll a7 ag.floor.words n7),(ii ag.floor.count)]),H7]) [1,1,1,1,1,1] J J J J NC J J (Jy (A:=[db]) (by simp only[ct,List.flatten_cons,List.flatten_append,List.flatten_nil,List.append_nil,List.append_assoc]) (vB.c V3 cK)) (ro T 4 (cb J H (λH=>?_) (λH=>?_))))
 ·refine rc T 8 ?_
  cases H;refine dw [1,1,1,1,1,1] J ct (p1 T J [2,0] ⟨db,cK,J,J⟩ J)
 refine rc T 8 (lf T 7 J (ro T 1 ?_));obtain⟨v3,V5,H⟩:=gu H;refine aX (Jm (As:=[(cl aW 146 [(ii ag.w),(ii ag.h),(ii ag.most),(pp b3),(pp b6)]),(cl b3 178 [(ii ag.cU.most),(ii ag.cU.next),(.map (some a4)),(ll a5 ag.cU.order n5)]),H4,H5,(cl b6 221 [(ll a7 ag.floor.words n7),(ii ag.floor.count)]),H7]) [1,1,1,1,1,1] J J J J Te J J (Jy (A:=[db]) (by simp only[ct,List.flatten_cons,List.flatten_append,List.flatten_nil,List.append_nil,List.append_assoc]) (vC.c V5 cK)) (ro T 9 (cb J H (λH=>?_) (λH=>?_))))
 ·refine rc T 3 (lm T 7 J (dw [1,1,1,1,1,1] J ct (kr (pZ.R aW) [] [2] J ND H (pZ.c · cK) (λv4 H=>?_))));rintro _ _ ⟨H9,s9,rfl,rfl⟩;refine fz J (ro T 10 ?_)
  cases H;exact p1 T J [2,0] ⟨H9,s9,J,J⟩ J
 refine rc T 7 (lf T 1 J (ro T 2 (kr (ye.R b3) [] [2,2,2] J acT H (ye.c · s4 s5) (λv5 H=>?_))));rintro _ _ ⟨cB,b_,dj,n11,cz,bP,c_,rfl,rfl⟩;refine fz J (ro T 8 ?_)
 cases H;refine f_ [1,4,4,4,1,1] J (p1 T J [2,0] ⟨(List.flatten [(cl aW 146 [(ii ag.w),(ii ag.h),(ii ag.most),(pp b3),(pp b6)]),(cl b3 178 [(ii v5.2.most),(ii v5.2.next),(.map (some cB)),(ll dj v5.2.order n11)]),b_,cz,(cl b6 221 [(ll a7 ag.floor.words n7),(ii ag.floor.count)]),H7]),(show lJ (dN.mk ag.w ag.h ag.most v5.2 ag.floor) aW (List.flatten [(cl aW 146 [(ii ag.w),(ii ag.h),(ii ag.most),(pp b3),(pp b6)]),(cl b3 178 [(ii v5.2.most),(ii v5.2.next),(.map (some cB)),(ll dj v5.2.order n11)]),b_,cz,(cl b6 221 [(ll a7 ag.floor.words n7),(ii ag.floor.count)]),H7]) from⟨b3,cB,b_,dj,n11,cz,b6,a7,n7,H7,bP,c_,s7,J⟩),J,J⟩ J)
def F8.f (ai:Int):Option Int:=some 1
theorem F8.c (H:F8.f ai=some r):
 QU 90 [(.pointer none),(ii ai)] [] F (ii r):=by
 unfold F8.f at H;refine aD Tryz.func90 J J (λW=>rc T 12 (mu J (rc T 7 ?_)))
 cases H;exact p0 T J [0] J
def uC.f (ag:dN) (ai:Int):Option (Int×dN):=(oX.f ag.cU ai).bind λv1=>if(!v1.2)=true then(some (12,ag)) else((pZ.f ag v1.1).bind λv2=>some (0,v2))
def uC.R (ny:Nat) (r:(Int×dN)):bg:=λu G=> ∃(H0:Hp),lJ r.2 ny H0/\u=(ii r.1)/\G=[H0]
theorem uC.c (H:uC.f ag ai=some r) (cK:lJ ag aW db):
 QR 90 [(pp aW),(ii ai)] [db] [] F (uC.R aW r):=by
 unfold uC.f at H;refine aD Tryz.func90 J J (λW=>rc T 12 (eT J (rc T 3 ?_)));obtain⟨b3,a4,H4,a5,n5,H5,b6,a7,n7,H7,s4,s5,s7,ct⟩:=(λx=>x) cK;refine bS 0 (congrArg some ct) (fz J (rc T 4 (lf T 1 J (ro T 1 (k [2,2,2] J Cn H (oX.c · s4 s5) (λv1 H=>ro T 3 (nc T J (λb8=>sg T 7 J (ro T 10 (cb J H (λH=>?_) (λH=>?_)))))))))))
 ·refine rc T 7 ?_
  cases H;refine dw [1,1,1,1,1,1] J ct (p1 T J [2,0] ⟨db,cK,J,J⟩ J)
 refine rc T 5 (lm T 7 J (dw [1,1,1,1,1,1] J ct (kr (pZ.R aW) [] [2] J ND H (pZ.c · cK) (λv2 H=>?_))));rintro _ _ ⟨H9,s9,rfl,rfl⟩;refine fz J (ro T 8 ?_)
 cases H;exact p1 T J [2,0] ⟨H9,s9,J,J⟩ J
def oA.f (ag:dN):Option (List aF):=(oW.f ag.cU).bind λv1=>some v1
def oA.R (r:(List aF)):bg:=λu G=> ∃a0 n0 H0,aj lQ 67 r a0 n0 H0/\u=(ll a0 r n0)/\G=[H0]
theorem oA.c (H:oA.f ag=some r) (cK:lJ ag aW db):
 QR 54 [(pp aW)] [db] [db] F (oA.R r):=by
 unfold oA.f at H;refine aD Tryz.func54 J J (λW=>rc T 12 (eT J (rc T 3 ?_)));obtain⟨b3,a4,H4,a5,n5,H5,b6,a7,n7,H7,s4,s5,s7,ct⟩:=(λx=>x) cK;refine bS 0 (congrArg some ct) (fz J (rc T 4 (lf T 1 J (kr oW.R [2,2,2] [2,2,2] J aeF H (oW.c · s4 s5) (λv1 H=>?_)))));rintro _ _ ⟨a8,n8,H8,s8,rfl,rfl⟩;refine fz J (ro T 4 ?_)
 cases H;refine dw [1,4,4,4,1,1] J ct (p1 T J [1,1,0] ⟨a8,n8,H8,s8,J,J⟩ J)
def mw.l0:Nat->((List aF)×(List eD)×(List Int)×Int)->dN->Int->Option ((List eD)×(List Int)×Int×dN)
 |0,_,_,_=>none
 |k7+1,v2,x5,x6=>if x6<(List.length v2.2.1:Int) then(if(0<=x6/\x6<(List.length v2.2.1:Int)) then(((oX.f x5.cU ((rd v2.2.1 x6).Id)).bind λv12=>some (v12.1.Id,v12.1.Cell,v12.1.Goal)).bind λ(x8,x9,aN)=>if((rd v2.2.1 x6).To==aN)=true then((pZ.f x5 (aF.mk x8 x9 aN)).bind λek=>mw.l0 k7 v2 ek (aa (x6+1))) else((xo.f x5.floor x9 ((rd v2.2.1 x6).To)).bind λdD=>(yg.f x5.cU ((rd v2.2.1 x6).Id) ((rd v2.2.1 x6).To)).bind λeG=>mw.l0 k7 v2 (dN.mk x5.w x5.h x5.most eG.2 dD.2) (aa (x6+1)))) else none) else(some (v2.2.1,v2.2.2.1,0,x5))
def mw.f (ag:dN) (aM:(List Int)):Option ((List eD)×(List Int)×Int×dN):=(oA.f ag).bind λv1=>(jK.f ag.w ag.h v1 aM).bind λv2=>if(v2.2.2.2 !=0)=true then(some ([],[],v2.2.2.2,ag)) else(mw.l0 fuel v2 ag 0)
def mw.R (ny:Nat) (r:((List eD)×(List Int)×Int×dN)):bg:=λu G=> ∃(a0 n0 H0:_) (a1 n1 H1:_) (H2:Hp),aj iJ 94 r.1 a0 n0 H0/\aj (Fl.int .i64) 3 r.2.1 a1 n1 H1/\lJ r.2.2.2 ny H2/\u=(.tuple #[(ll a0 r.1 n0),(ll a1 r.2.1 n1),(ii r.2.2.1)])/\G=[H0,H1,H2]
theorem mw.c (H:mw.f ag aM=some r) (cK:lJ ag aW db) (Gq:aP (Fl.int .i64) aM L8 F) (MD:List.length aM<=OU):
 QR 129 [(pp aW),(ll L8 aM OU)] [db] [] F (mw.R aW r):=by
 unfold mw.f at H;refine aD Tryz.func129 J J (λW=>rc T 14 (eT J (rc T 3 ?_)));obtain⟨b3,a4,H4,a5,n5,H5,b6,a7,n7,H7,s4,s5,s7,ct⟩:=(λx=>x) cK;refine bS 0 (congrArg some ct) (fz J (fz J (rg [] [0,0,0,0,0,0,0] mix (bO bN) (λhg pf=>ha T 17 [0,1,2] sz hg pf J (av 3 sz hg pf J (aw T J J J J (aK (j:=1) J J)) (ha T 13 [4,5,6] sz hg pf J (av 7 sz hg pf J (aw T J J J J (aK (j:=1) J J)) (ha T 10 [8,10] sz hg pf J (ao 9 ?_)))))))));obtain⟨v1,V1,H⟩:=gu H;refine FW (As:=[(cl aW 146 [(ii ag.w),(ii ag.h),(ii ag.most),(pp b3),(pp b6)]),(cl b3 178 [(ii ag.cU.most),(ii ag.cU.next),(.map (some a4)),(ll a5 ag.cU.order n5)]),H4,H5,(cl b6 221 [(ll a7 ag.floor.words n7),(ii ag.floor.count)]),H7]) (oA.R v1) [(cl aW 146 [(ii ag.w),(ii ag.h),(ii ag.most),(pp b3),(pp b6)]),(cl b3 178 [(ii ag.cU.most),(ii ag.cU.next),(.map (some a4)),(ll a5 ag.cU.order n5)]),H4,H5,(cl b6 221 [(ll a7 ag.floor.words n7),(ii ag.floor.count)]),H7] [1,1,1,1,1,1] J J J J Kb J J (Jz (A:=[db]) (A2:=[db]) (by simp only[ct,List.flatten_cons,List.flatten_append,List.flatten_nil,List.append_nil,List.append_assoc]) (by simp only[ct,List.flatten_cons,List.flatten_append,List.flatten_nil,List.append_nil,List.append_assoc]) (oA.c V1 cK)) ?_
 rintro _ _ ⟨a8,n8,H8,s8,rfl,rfl⟩;refine fz J (an (so [0,1,1,1,1,1,1]) (ao 11 (kR jK.R [] [] J ac8 H (jK.c · (oO s8 1) s8.bT (rO Gq 0) MD) (λv2 H=>?_))));rintro _ _ ⟨a9,n9,H9,cB,n10,b_,dj,n11,cz,s9,bP,c_,rfl,rfl⟩;refine fz J (an (so [0,1,1,1,1,1,1]) (ha T 0 [12,13,14,15,16,17,18,19] (so [0,1,1,1,1,1,1]) hg pf J (ae (rx T 8 (cb J H (λH=>?_) (λH=>?_))))))
 ·refine rc T 10 ?_
  cases H;refine dw [2,2,2,2,2,2] J ct (bq (bq (p1 T J [6,6,5,0] ⟨none,0,[],none,0,[],db,aj.nil,aj.nil,cK,J,J⟩ J)))
 refine rc T 11 (dw [2,2,2,2,2,2] J ct (lq [0,4,5,33,34] [0,2,2] (λ(⟨k7,x5,x6,dI⟩:Nat×dN×Int×Hp)=>(mw.l0 k7 v2 x5 x6=some r/\lJ x5 aW dI,[(35,(ii x6))],[dI])) J J (fuel,ag,0,db) [0,2,2,2] ⟨H,cK⟩ J J ?_));rintro k7 ⟨x5,x6,dI⟩ ⟨Z4,dP⟩;rw[mw.l0] at Z4;refine rc T 6 (cd J Z4 (λZ4=>?_) (λZ4=>?_))
 ·refine rc T 6 ?_;obtain⟨c6,Z4⟩:=az Z4;obtain⟨q16,o16,F_⟩:=bP.r.addr c6.1 c6.2;refine ix T J F_ c6 (br J (fC T (cs:=[(ii (rd v2.2.1 x6).Id),(ii (rd v2.2.1 x6).To)]) J J J J J J (iv (k:=iJ) (oO bP 1) F_ c6 J)) (nc T J (λvu=>sg T 4 J (ro T 2 (mq Z4 [0,4,5,8,33,34,35] [0,2,0,0,0] (λlV (⟨x8,x9,aN,qJ⟩:Int×Int×Int×Nat)=>((x8,x9,aN)=lV,[(9,(pp qJ))],[(cl qJ 67 [(ii x8),(ii x9),(ii aN)])])) J J (λlV Z7 _=>?_) ?_)))))
  ·obtain⟨Js,a21,kq,a22,n22,lX,b23,a24,n24,rG,jC,iz,mf,Gl⟩:=(λx=>x) dP;refine bS 3 (congrArg some Gl) (fz J (ks [0,4,5,8,33,34,35] J (fz J (rz [] mix (bO bN) (λhg pf=>ha T 10 [0,1,2] sz hg pf J (av 3 sz hg pf J (aw T J J J J (aK (j:=4) J J)) (ha T 8 [4] sz hg pf J (av 5 sz hg pf J (aw T J J J J (aK (j:=3) J J)) (gK 6 10 ?_ ?_)))))))))
   ·refine kh [5,5,5] J Cn Z7 (oX.c · jC iz) (λv12 Z7=>an sz (ha T 3 [7,8,9] sz hg pf J (ao 10 (nw T J (λlb=>an (so [0,0,0,0,0,0,0,0,0,0]) (ao 11 (sf T 10 J (an (so [0,0,0,0,0,0,0,0,0,0]) (ha T 0 [12] (so [0,0,0,0,0,0,0,0,0,0]) hg pf J (ae (rx T 1 (dw [4,4,4,4,4,4] J Gl (am (_,_,_,_) [0,4,0,0,0,0] (oi Z7) J J)))))))))))))
   refine nw T J (λlh=>an (so [0,0,0,0,0,0,0,0,0,0]) (ao 6 (kh [5,5,5] J Cn Z7 (oX.c · jC iz) (λlG Z7=>an (so [0,0,0,0,0,0,0,0,0,0]) (ha T 2 [7,8,9] (so [0,0,0,0,0,0,0,0,0,0]) hg pf J (ao 11 (sf T 10 J (an (so [0,0,0,0,0,0,0,0,0,0]) (ha T 0 [12] (so [0,0,0,0,0,0,0,0,0,0]) hg pf J (ae (rx T 1 (dw [4,4,4,4,4,4] J Gl (am (_,_,_,_) [0,4,0,0,0,0] (oi Z7) J J)))))))))))))
  rintro _ ⟨x8,x9,aN,qJ⟩ rfl Z4;refine rc T 4 (lf T 4 J (ro T 1 (lf T 5 J (ro T 3 (cb J Z4 (λZ4=>?_) (λZ4=>?_))))))
  ·refine rc T 3 (lm T 5 J (kr (pZ.R aW) [] [1] J ND Z4 (pZ.c (u:=(aF.mk x8 x9 aN)) · dP) (λek Z4=>?_)));rintro _ _ ⟨BR,tM,rfl,rfl⟩;refine fz J (ro T 11 (ar (_,_,_) [0,0,0,2] ⟨Z4,tM⟩ J J))
  refine rc T 3 ?_;obtain⟨Ap,B0,rH,a31,n31,Ag,xg,a33,n33,Fz,pJ,wz,si,J0⟩:=(λx=>x) dP;refine bS 1 (congrArg some J0) (fz J (fz J (rz [8] mix (bO bN) (λhg pf=>ha T 6 [0,1,2] sz hg pf J (av 3 sz hg pf J (aw T J J J J (aK (j:=5) J J)) (ha T 4 [4] sz hg pf J (av 5 sz hg pf J (aw T J J J J (aK (j:=4) J J)) (ha T 2 [6] sz hg pf J (av 7 sz hg pf J (aw T J J J J (aK (j:=3) J J)) (ao 8 (kR (xo.R xg) [] [9,9] J ac9 Z4 (xo.c · si) (λdD Z4=>?_))))))))))));rintro _ _ ⟨DV,n34,ur,tN,rfl,rfl⟩;refine fz J (an sl (ae (rx T 1 (ke [0,4,5,8,33,34,35] [0,0,0,0,1,1,1,1,1,1] J J (fz J (rz [8] mix (bO bN) (λhg pf=>ha T 6 [0,1,2] sz hg pf J (av 3 sz hg pf J (aw T J J J J (aK (j:=4) J J)) (ha T 4 [4] sz hg pf J (av 5 sz hg pf J (aw T J J J J (aK (j:=3) J J)) (ha T 2 [6] sz hg pf J (av 7 sz hg pf J (aw T J J J J (aK (j:=3) J J)) (ao 8 (kR (yg.R Ap) [] [5,5,5] J ac_ Z4 (yg.c · pJ wz) (λeG Z4=>?_)))))))))))))));rintro _ _ ⟨a35,FA,yD,n36,yu,Dm,xY,rfl,rfl⟩;refine fz J (an sl (ae (rx T 7 (f_ [4,6,6,6,4,4] J (ar (_,_,_) [0,0,0,1] ⟨Z4,(show lJ (dN.mk x5.w x5.h x5.most eG.2 dD.2) aW (List.flatten [(cl aW 146 [(ii x5.w),(ii x5.h),(ii x5.most),(pp Ap),(pp xg)]),(cl Ap 178 [(ii eG.2.most),(ii eG.2.next),(.map (some a35)),(ll yD eG.2.order n36)]),FA,yu,(cl xg 221 [(ll DV dD.2.words n34),(ii dD.2.count)]),ur]) from⟨Ap,a35,FA,yD,n36,yu,xg,DV,n34,ur,Dm,xY,tN,J⟩)⟩ J J)))))
 refine rc T 15 ?_
 cases Z4;exact p1 T J [1,1,1,0] ⟨cB,n10,b_,dj,n11,cz,dI,bP,c_,dP,J,J⟩ J
def AB.f:Option (List aF):=some []
def AB.R (r:(List aF)):bg:=λu G=> ∃a0 n0 H0,aj lQ 67 r a0 n0 H0/\u=(ll a0 r n0)/\G=[H0]
theorem AB.c (H:AB.f=some r):
 QR 54 [(.pointer none)] [] [] F (AB.R r):=by
 unfold AB.f at H;refine aD Tryz.func54 J J (λW=>rc T 12 (mu J (rc T 7 ?_)))
 cases H;refine bq (p1 T J [1,0] ⟨none,0,[],aj.nil,J,J⟩ J)
def AD.f:Option (List Int):=some []
def AD.R (r:(List Int)):bg:=λu G=> ∃a0 n0 H0,aj (Fl.int .u32) 65 r a0 n0 H0/\u=(ll a0 r n0)/\G=[H0]
theorem AD.c (H:AD.f=some r):
 QR 63 [(.pointer none)] [] [] F (AD.R r):=by
 unfold AD.f at H;refine aD Tryz.func63 J J (λW=>rc T 12 (mu J (rc T 7 ?_)))
 cases H;refine bq (p1 T J [1,0] ⟨none,0,[],aj.nil,J,J⟩ J)
def vA.f (ag:dN):Option (List Int):=(xp.f ag.floor).bind λv1=>some v1
def vA.R (r:(List Int)):bg:=λu G=> ∃a0 n0 H0,aj (Fl.int .u32) 65 r a0 n0 H0/\u=(ll a0 r n0)/\G=[H0]
theorem vA.c (H:vA.f ag=some r) (cK:lJ ag aW db):
 QR 63 [(pp aW)] [db] [db] F (vA.R r):=by
 unfold vA.f at H;refine aD Tryz.func63 J J (λW=>rc T 12 (eT J (rc T 3 ?_)));obtain⟨b3,a4,H4,a5,n5,H5,b6,a7,n7,H7,s4,s5,s7,ct⟩:=(λx=>x) cK;refine bS 0 (congrArg some ct) (fz J (rc T 4 (lf T 1 J (kr xp.R [5,5] [5,5] J aeP H (xp.c · s7) (λv1 H=>?_)))));rintro _ _ ⟨a8,n8,H8,s8,rfl,rfl⟩;refine fz J (ro T 4 ?_)
 cases H;refine dw [1,1,1,1,2,2] J ct (p1 T J [1,1,0] ⟨a8,n8,H8,s8,J,J⟩ J)
end
noncomputable section
def iU.f (g:bC) (cell:Int):Option Int:=(if cell<0 then(some true) else(some (decide (cell≥(List.length g.m.C:Int))))).bind λx1=>if x1=true then(some 0) else(if(0<=cell/\cell<(List.length g.m.C:Int)) then(some (aa (rd g.m.C cell))) else none)
theorem iU.c (H:iU.f g cell=some r) (fM:iP g fo gr):
 QU 141 [(pp fo),(ii cell)] [gr] F (ii r):=by
 unfold iU.f at H;refine aD Tryz.func141 J J (λW=>rc T 6 (mq H [0,1] [1,0] (λz2 (x1:Bool)=>(x1=z2,[(20,(bb x1))],[])) J J (λz2 Z1 _=>?_) ?_))
 ·obtain⟨a3,n3,H3,a4,n4,H4,s3,s4,ct⟩:=(λx=>x) fM;refine bS 0 (congrArg some ct) (fz J (rc T 8 (ad 11 J Z1 (λZ1=>?_) (λZ1=>?_))))
  ·refine ro T 11 (dw [1,1,1] J ct (am _ [0,0] (oi Z1) J J))
  refine ro T 5 (lf T 1 J (ro T 5 (dw [1,1,1] J ct (am _ [0,0] (oi Z1) J J))))
 rintro _ x1 rfl H;refine cb J H (λH=>?_) (λH=>?_)
 ·refine rc T 7 ?_
  cases H;exact p0 T J [1,0] J
 refine rc T 3 ?_;obtain⟨a6,n6,H6,a7,n7,H7,s6,s7,rS⟩:=(λx=>x) fM;refine bS 1 (congrArg some rS) (fz J (rc T 5 (lf T 1 J (ro T 1 ?_))));obtain⟨c4,H⟩:=az H;obtain⟨q8,o8,e8⟩:=s6.r.addr c4.1 c4.2;refine ix T J e8 c4 (le T 0 (oO s6 2) e8 c4 J J (ro T 5 ?_))
 cases H;refine dw [1,1,1] J rS (p0 T J [1,0] J)
def Ef.f:Option Int:=some 0
theorem Ef.c (H:Ef.f=some r):
 QU 136 [(.pointer none)] [] F (ii r):=by
 unfold Ef.f at H;refine aD Tryz.func136 J J (λW=>rc T 12 (mu J (rc T 7 ?_)))
 cases H;exact p0 T J [0] J
def lN.l0:Nat->aL->Int->(List Int)->(Int×Int)->List Int->Int->Option (Option bC)
 |0,_,_,_,_,_,_=>none
 |k8+1,m,bM,v2,v3,x6,x7=>if x7<(List.length (List.replicate (Int.toNat (aa (v3.1*v3.2))) (0:Int)):Int) then(if(0<=x7/\x7<(List.length x6:Int)) then(lN.l0 k8 m bM v2 v3 (List.set x6 (Int.toNat x7) (aa (bM+1))) (aa (x7+1))) else none) else(some (some (bC.mk (aL.mk m.W m.H v2) (aa (bM+1)) x6)))
def lN.f (m:aL) (bM:Int):Option (Option bC):=(yG.f m).bind λv1=>if(((!v1)||(decide (bM<0)))||(decide (bM>4611686018427387904)))=true then(some none) else((nX.f m.C).bind λv2=>(qA.f m.W m.H).bind λv3=>if(0<=(aa (v3.1*v3.2))/\(aa (v3.1*v3.2))<=1099511627776) then(lN.l0 fuel m bM v2 v3 (List.replicate (Int.toNat (aa (v3.1*v3.2))) (0:Int)) 0) else none)
def lN.R (r:(Option bC)):bg:=λu G=> ∃(u0:Value) (G0:List Hp),Ym r u0 G0/\u=u0/\G=G0
theorem lN.c (H:lN.f m bM=some r) (tf:aP (Fl.int .u8) m.C pa F) (vx:List.length m.C<=oK):
 QR 149 [(.agg #[(ii m.W),(ii m.H),(ll pa m.C oK)]),(ii bM)] [] [] F (lN.R r):=by
 unfold lN.f at H;refine aD Tryz.func149 J J (λW=>rc T 2 (nc T J (λb1=>ro T 6 (lm T 1 J (k [] J Tj H (yG.c · (rO tf 0) vx) (λv1 H=>ro T 2 (go T [4,5,6] 12 [1,2] 15 J J J J J J J (ro T 1 (go T [8,9,10] 16 [1,2] 19 J J J J J J J (ro T 2 (cb J H (λH=>?_) (λH=>?_))))))))))))
 ·refine rc T 7 ?_
  cases H;exact p1 T J [0] ⟨_,_,⟨J,J⟩,J,J⟩ J
 refine rc T 5 (lf T 1 J (kr nX.R [] [] J Ny H (nX.c · (rO tf 0) vx) (λv2 H=>?_)));rintro _ _ ⟨a2,n2,H2,s2,rfl,rfl⟩;refine fz J (ro T 1 (sg T 1 J (ro T 5 (lf T 1 J (ro T 1 (lf T 1 J (k [] J Gy H (qA.c ·) (λv3 H=>ro T 8 (ks [1,2,5,6] J (fz J (rg [] [0,0,0] mix (bO bN) (λhg pf=>av 0 sz hg pf J (gA T 1 J J J J J J J) (ha T 4 [1,2,3,4,5] sz hg pf J (ao 6 ?_))))))))))))));obtain⟨c5,H⟩:=az H;refine yE (k:=(Fl.int .i64)) T (0:Int) J J J J J J J J c5 J (λa3 n3 H3 s3=>an (so [0,0,0]) (ha T 2 [7] (so [0,0,0]) hg pf J (ao 8 (nw T J (λb4=>an (so [0,0,0]) (ha T 0 [9] (so [0,0,0]) hg pf J (ae (rx T 7 (lf T 4 J (ro T 5 (lq [7,45] [0,1] (λ(⟨k8,x6,x7,a6,n6,H6⟩:Nat×List Int×Int×Option Addr×Nat×Hp)=>(lN.l0 k8 m bM v2 v3 x6 x7=some r/\aj (Fl.int .i64) 2 x6 a6 n6 H6,[(46,(ii x7))],[(cl b4 167 [(ii m.W),(ii m.H),(ll a2 v2 n2),(ii (aa (bM+1))),(ll a6 x6 n6)]),H6])) J J (fuel,(List.replicate (Int.toNat (aa (v3.1*v3.2))) (0:Int)),0,a3,n3,H3) [0,1,2,1] ⟨H,s3⟩ J J ?_)))))))))));rintro k8 ⟨x6,x7,a6,n6,H6⟩ ⟨Z6,s6⟩;rw[lN.l0] at Z6;refine rc T 6 (cd J Z6 (λZ6=>?_) (λZ6=>?_))
 ·refine rc T 10 (fz J (rz [10] mix (bO bN) (λhg pf=>ha T 8 [0,1,2] sz hg pf J (av 3 sz hg pf J (aw T J J J J (aK (j:=2) J J)) (ha T 3 [4,5,6,7] sz hg pf J (av 8 sz hg pf J (aw T J J J J (aK (j:=2) J J)) ?_))))));obtain⟨c8,Z6⟩:=az Z6;obtain⟨q7,o7,e7⟩:=s6.r.addr c8.1 c8.2;refine av 9 sz hg pf J (cC T J J J J J e7 c8.1 c8.2) (ao 10 (kX (k:=(Fl.int .i64)) T 3 0 (aa (bM+1)) J J J J J J s6 e7 c8 J J J (λH8 s8=>kg [7,8,45,46,49,50,51,53,54,55,56,57,58] [0,0,1] [0,0,1,0] [(52,(ll a6 (List.set x6 (Int.toNat x7) (aa (bM+1))) n6))] [(cl b4 167 [(ii m.W),(ii m.H),(ll a2 v2 n2),(ii (aa (bM+1))),(ll a6 (List.set x6 (Int.toNat x7) (aa (bM+1))) n6)])] J J ⟨dJ,trivial⟩ dJ (an sl (ae (rx T 7 (ar (_,_,_,_,_) [0,0,1,0] ⟨Z6,s8⟩ J J)))))))
 refine rc T 12 ?_
 cases Z6;refine f_ [2,1,1] J (p1 T J [1,0] ⟨_,_,⟨b4,(List.flatten [(cl b4 167 [(ii m.W),(ii m.H),(ll a2 v2 n2),(ii (aa (bM+1))),(ll a6 x6 n6)]),H2,H6]),(show iP (bC.mk (aL.mk m.W m.H v2) (aa (bM+1)) x6) b4 (List.flatten [(cl b4 167 [(ii m.W),(ii m.H),(ll a2 v2 n2),(ii (aa (bM+1))),(ll a6 x6 n6)]),H2,H6]) from⟨a2,n2,H2,a6,n6,H6,s2,s6,J⟩),J,J⟩,J,J⟩ J)
def iV.f (g:bC):Option (Int×Int):=some (g.m.W,g.m.H)
theorem iV.c (H:iV.f g=some r) (fM:iP g fo gr):
 QU 171 [(pp fo)] [gr] F (.tuple #[(ii r.1),(ii r.2)]):=by
 unfold iV.f at H;refine aD Tryz.func171 J J (λW=>rc T 13 (eT J (rc T 3 ?_)));obtain⟨a3,n3,H3,a4,n4,H4,s3,s4,ct⟩:=(λx=>x) fM;refine bS 0 (congrArg some ct) (fz J (dx mix ay ?_))
 iterate 4 refine au T J ?_
 refine aO J J J (aw T J J J J (aK (j:=1) J J)) ?_
 iterate 4 refine au T J ?_
 refine aO J J J (aw T J J J J (aK (j:=1) J J)) (au T J (au T J (dh (rx T 2 ?_))))
 cases H;refine dw [1,1,1] J ct (p0 T J [1,0] J)
def oC.f (g:bC):Option Int:=some g.bM
theorem oC.c (H:oC.f g=some r) (fM:iP g fo gr):
 QU 136 [(pp fo)] [gr] F (ii r):=by
 unfold oC.f at H;refine aD Tryz.func136 J J (λW=>rc T 12 (eT J (rc T 3 ?_)));obtain⟨a3,n3,H3,a4,n4,H4,s3,s4,ct⟩:=(λx=>x) fM;refine bS 0 (congrArg some ct) (fz J (rc T 4 (lf T 1 J (ro T 4 ?_))))
 cases H;refine dw [1,1,1] J ct (p0 T J [1,0] J)
def xu.f (g:bC) (cell:Int) (cost:Int):Option (Int×bC):=(if cell<0 then(some true) else(some (decide (cell≥(List.length g.m.C:Int))))).bind λx1=>if x1=true then(some (7,g)) else(if((decide (cost<1))||(decide (cost>255)))=true then(some (8,g)) else(if(0<=cell/\cell<(List.length g.m.C:Int)) then((gR.f g.m.W g.m.H cell).bind λv3=>if(0<=v3/\v3<(List.length g.pS:Int)) then(some (0,(bC.mk (aL.mk g.m.W g.m.H (List.set g.m.C (Int.toNat cell) (bU cost))) (aa (g.bM+1)) (List.set g.pS (Int.toNat v3) (aa (g.bM+1)))))) else none) else none))
def xu.R (aa2:Nat) (r:(Int×bC)):bg:=λu G=> ∃(H0:Hp),iP r.2 aa2 H0/\u=(ii r.1)/\G=[H0]
theorem xu.c (H:xu.f g cell cost=some r) (fM:iP g fo gr):
 QR 155 [(pp fo),(ii cell),(ii cost)] [gr] [] F (xu.R fo r):=by
 unfold xu.f at H;refine aD Tryz.func155 J J (λW=>rc T 14 (eT J (mq H [0,1,2] [1,0] (λz2 (x1:Bool)=>(x1=z2,[(10,(bb x1))],[])) J J (λz2 Z1 _=>?_) ?_)))
 ·obtain⟨a3,n3,H3,a4,n4,H4,s3,s4,ct⟩:=(λx=>x) fM;refine bS 0 (congrArg some ct) (fz J (rc T 4 (ad 13 J Z1 (λZ1=>?_) (λZ1=>?_))))
  ·refine ro T 12 (dw [1,1,1] J ct (am _ [0,0] (oi Z1) J J))
  refine ro T 5 (lf T 1 J (ro T 6 (dw [1,1,1] J ct (am _ [0,0] (oi Z1) J J))))
 rintro _ x1 rfl H;refine cb J H (λH=>?_) (λH=>?_)
 ·refine rc T 8 ?_
  cases H;exact p1 T J [1,0] ⟨gr,fM,J,J⟩ J
 refine rc T 5 (go T [3,4,5] 26 [0,1,2] 29 J J J J J J J (ro T 3 (cb J H (λH=>?_) (λH=>?_))))
 ·refine rc T 8 ?_
  cases H;exact p1 T J [1,0] ⟨gr,fM,J,J⟩ J
 refine rc T 4 ?_;obtain⟨a6,n6,H6,a7,n7,H7,s6,s7,rS⟩:=(λx=>x) fM;refine bS 1 (congrArg some rS) (fz J (rc T 5 (lf T 1 J (ro T 3 ?_))));obtain⟨c5,H⟩:=az H;obtain⟨q8,o8,e8⟩:=s6.r.addr c5.1 c5.2;refine ix T J e8 c5 (aX (kX (k:=(Fl.int .u8)) T 2 0 (bU cost) J J J J J J s6 e8 c5 J J J (λH9 s9=>kg [0,1] [0,1,1] [0,1,1,0] [] [(cl fo 167 [(ii g.m.W),(ii g.m.H),(ll a6 (List.set g.m.C (Int.toNat cell) (bU cost)) n6),(ii g.bM),(ll a7 g.pS n7)])] J J trivial dJ (ro T 7 (lf T 3 J (ro T 3 (sg T 3 J (ro T 3 (ks [0,1] J (fz J (rz [21] mix (bO bN) (λhg pf=>ha T 19 [0,1,2] sz hg pf J (av 3 sz hg pf J (aw T J J J J (aK (j:=3) J J)) (ha T 14 [4,5,6,7] sz hg pf J (av 8 sz hg pf J (aw T J J J J (aK (j:=3) J J)) (ha T 9 [9,10,11,12] sz hg pf J (av 13 sz hg pf J (aw T J J J J (aK (j:=3) J J)) (ha T 4 [14,16,17,18] sz hg pf J (av 19 sz hg pf J (aw T J J J J (aK (j:=3) J J)) (ao 15 (kh [] J rU H (gR.c ·) (λv3 H=>an sz ?_))))))))))))))))))))));obtain⟨c7,H⟩:=az H;obtain⟨Ld,K5,p8⟩:=s7.r.addr c7.1 c7.2;refine av 20 sz hg pf J (cC T J J J J J p8 c7.1 c7.2) (ao 21 (kX (k:=(Fl.int .i64)) T 2 0 (aa (g.bM+1)) J J J J J J s7 p8 c7 J J J (λcz c_=>kg [0,1,46,47,48,50,51,52,53,54,55,56,57,58,59,60,61,62,63,64,65,66] [0,0,0] [0,0,0,0] [(49,(ll a7 (List.set g.pS (Int.toNat v3) (aa (g.bM+1))) n7))] [(cl fo 167 [(ii g.m.W),(ii g.m.H),(ll a6 (List.set g.m.C (Int.toNat cell) (bU cost)) n6),(ii (aa (g.bM+1))),(ll a7 (List.set g.pS (Int.toNat v3) (aa (g.bM+1))) n7)])] J J ⟨dJ,trivial⟩ dJ (an sl (ae (rx T 7 ?_))))))
 cases H;refine f_ [3,1,1] J (p1 T J [1,0] ⟨(List.flatten [(cl fo 167 [(ii g.m.W),(ii g.m.H),(ll a6 (List.set g.m.C (Int.toNat cell) (bU cost)) n6),(ii (aa (g.bM+1))),(ll a7 (List.set g.pS (Int.toNat v3) (aa (g.bM+1))) n7)]),H9,cz]),(show iP (bC.mk (aL.mk g.m.W g.m.H (List.set g.m.C (Int.toNat cell) (bU cost))) (aa (g.bM+1)) (List.set g.pS (Int.toNat v3) (aa (g.bM+1)))) fo (List.flatten [(cl fo 167 [(ii g.m.W),(ii g.m.H),(ll a6 (List.set g.m.C (Int.toNat cell) (bU cost)) n6),(ii (aa (g.bM+1))),(ll a7 (List.set g.pS (Int.toNat v3) (aa (g.bM+1))) n7)]),H9,cz]) from⟨a6,n6,H9,a7,n7,cz,s9,c_,J⟩),J,J⟩ J)
def l_.l0:Nat->bC->Int->(Int×Int)->(Int×Int)->List Int->Int->Option (aL×Bool)
 |0,_,_,_,_,_,_=>none
 |k7+1,g,bI,v1,v2,x5,x6=>if x6<v2.2 then((um.f v1.1 v1.2 bI (aa (x6*v2.1))).bind λv8=>if(0<=v8/\v8<=(aa (v8+v2.1))/\(aa (v8+v2.1))<=(List.length g.m.C:Int)) then(if(List.length x5+List.length (aA g.m.C v8 (aa (v8+v2.1)))<=1099511627776) then(l_.l0 k7 g bI v1 v2 (x5++(aA g.m.C v8 (aa (v8+v2.1)))) (aa (x6+1))) else none) else none) else(some ((aL.mk v2.1 v2.2 x5),true))
def l_.f (g:bC) (bI:Int):Option (aL×Bool):=(iV.f g).bind λv1=>(rA.f v1.1 v1.2 bI).bind λv2=>if(v2.1==0)=true then(some ((aL.mk 0 0 []),false)) else(l_.l0 fuel g bI v1 v2 [] 0)
def l_.R (r:(aL×Bool)):bg:=λu G=> ∃a0 n0 H0,aj (Fl.int .u8) 5 r.1.C a0 n0 H0/\u=(.tuple #[(.agg #[(ii r.1.W),(ii r.1.H),(ll a0 r.1.C n0)]),(bb r.2)])/\G=[H0]
theorem l_.c (H:l_.f g bI=some r) (fM:iP g fo gr):
 QR 140 [(pp fo),(ii bI)] [gr] [gr] F (l_.R r):=by
 unfold l_.f at H;refine aD Tryz.func140 J J (λW=>rc T 2 (nc T J (λb2=>ro T 6 (k [0] J uK H (iV.c · fM) (λv1 H=>ro T 12 (k [] J Gv H (rA.c ·) (λv2 H=>ro T 14 (cb J H (λH=>?_) (λH=>?_)))))))))
 ·refine rc T 3 (sg T 2 J (ro T 5 ?_))
  cases H;refine bq (pb T J (.cQ (j:=2) [(ii 0),(ii 0),nl] J J J J J J J (.tmp J .nil)) [3,0,0] ⟨(_,_),none,0,[],aj.nil,J,J⟩ J J)
 refine rc T 7 (nc T J (λb4=>sg T 3 J (ro T 10 (bq (lq [0,1,4,6,7,8,10,31] [1,0,0] (λ(⟨k7,x5,x6,a6,n6,H6⟩:Nat×List Int×Int×Option Addr×Nat×Hp)=>(l_.l0 k7 g bI v1 v2 x5 x6=some r/\aj (Fl.int .u8) 5 x5 a6 n6 H6,[(32,(ii x6))],[(cl b4 139 [(ii v2.1),(ii v2.2),(ll a6 x5 n6)]),H6])) J J (fuel,[],0,none,0,[]) [1,0,0,0,0] ⟨H,aj.nil⟩ J J ?_)))));rintro k7 ⟨x5,x6,a6,n6,H6⟩ ⟨Z4,s6⟩;rw[l_.l0] at Z4;refine rc T 6 (cd J Z4 (λZ4=>?_) (λZ4=>?_))
 ·refine rc T 18 (k [] J J3 Z4 (um.c ·) (λv8 Z4=>ro T 3 ?_));obtain⟨a8,n8,H8,a9,n9,H9,s8,s9,rT⟩:=(λx=>x) fM;refine bS 1 (congrArg some rT) (fz J (fz J (rz [12,14] mix (bO bN) (λhg pf=>ha T 14 [0] sz hg pf J (av 1 sz hg pf J (aw T J J J J (aK (j:=2) J J)) (ha T 9 [2,3,4,5] sz hg pf J (av 6 sz hg pf J (aw T J J J J (aK (j:=4) J J)) (ha T 4 [7,8,9,10] sz hg pf J ?_))))))));obtain⟨c7,Z4⟩:=az Z4;refine av 11 sz hg pf J (kE T J J J J J J c7 s8.bT) (ao 12 ?_);obtain⟨c8,Z4⟩:=az Z4;refine dW (k:=(Fl.int .u8)) (xs:=x5) T (g:=3) J J J J J J J J J J s6 (nj (oO s8 5) c7 s8.bT) c8 J (λcB n10 b_ bP=>an sl (hb T 13 sl hg pf J (ao 14 (sf T 2 J (an sl (ae (rx T 7 (dw [4,4,4] J rT (ar (_,_,_,_,_) [0,3,0,0,0] ⟨Z4,bP⟩ J J)))))))))
 refine rc T 7 (lm T 3 J (sg T 2 J (ro T 4 ?_)))
 cases Z4;exact pb T J (.cQ (j:=2) [(ii v2.1),(ii v2.2),(ll a6 x5 n6)] J J J J J J J (.tmp J .nil)) [4,1,0] ⟨(_,_),a6,n6,H6,s6,J,J⟩ J J
def qc.f (g:bC) (bI:Int):Option Int:=(if bI<0 then(some true) else(some (decide (bI≥(List.length g.pS:Int))))).bind λx1=>if x1=true then(some 0) else(if(0<=bI/\bI<(List.length g.pS:Int)) then(some (rd g.pS bI)) else none)
theorem qc.c (H:qc.f g bI=some r) (fM:iP g fo gr):
 QU 137 [(pp fo),(ii bI)] [gr] F (ii r):=by
 unfold qc.f at H;refine aD Tryz.func137 J J (λW=>rc T 6 (mq H [0,1] [1,0] (λz2 (x1:Bool)=>(x1=z2,[(19,(bb x1))],[])) J J (λz2 Z1 _=>?_) ?_))
 ·obtain⟨a3,n3,H3,a4,n4,H4,s3,s4,ct⟩:=(λx=>x) fM;refine bS 0 (congrArg some ct) (fz J (rc T 8 (ad 11 J Z1 (λZ1=>?_) (λZ1=>?_))))
  ·refine ro T 10 (dw [1,1,1] J ct (am _ [0,0] (oi Z1) J J))
  refine ro T 4 (lf T 1 J (ro T 5 (dw [1,1,1] J ct (am _ [0,0] (oi Z1) J J))))
 rintro _ x1 rfl H;refine cb J H (λH=>?_) (λH=>?_)
 ·refine rc T 7 ?_
  cases H;exact p0 T J [1,0] J
 refine rc T 3 ?_;obtain⟨a6,n6,H6,a7,n7,H7,s6,s7,rS⟩:=(λx=>x) fM;refine bS 1 (congrArg some rS) (fz J (rc T 4 (lf T 1 J (ro T 1 ?_))));obtain⟨c4,H⟩:=az H;obtain⟨q8,o8,e8⟩:=s7.r.addr c4.1 c4.2;refine ix T J e8 c4 (le T 0 (oO s7 3) e8 c4 J J (ro T 4 ?_))
 cases H;refine dw [1,1,1] J rS (p0 T J [1,0] J)
def AK.f:Option aL:=some (aL.mk 0 0 [])
def AK.R (r:aL):bg:=λu G=> ∃a0 n0 H0,aj (Fl.int .u8) 5 r.C a0 n0 H0/\u=(.agg #[(ii r.W),(ii r.H),(ll a0 r.C n0)])/\G=[H0]
theorem AK.c (H:AK.f=some r):
 QR 74 [(.pointer none)] [] [] F (AK.R r):=by
 unfold AK.f at H;refine aD Tryz.func74 J J (λW=>rc T 2 (nc T J (λb1=>ro T 9 (mu J (rc T 3 (sg T 1 J (ro T 4 ?_)))))))
 cases H;refine bq (pb T J (.cQ (j:=1) [(ii 0),(ii 0),nl] J J J J J J J .nil) [2,0] ⟨(_,_),none,0,[],aj.nil,J,J⟩ J J)
def xv.f (g:bC):Option aL:=(nX.f g.m.C).bind λv1=>some (aL.mk g.m.W g.m.H v1)
def xv.R (r:aL):bg:=λu G=> ∃a0 n0 H0,aj (Fl.int .u8) 5 r.C a0 n0 H0/\u=(.agg #[(ii r.W),(ii r.H),(ll a0 r.C n0)])/\G=[H0]
theorem xv.c (H:xv.f g=some r) (fM:iP g fo gr):
 QR 74 [(pp fo)] [gr] [gr] F (xv.R r):=by
 unfold xv.f at H;refine aD Tryz.func74 J J (λW=>rc T 2 (nc T J (λb2=>ro T 9 (eT J (rc T 3 ?_)))));obtain⟨a4,n4,H4,a5,n5,H5,s4,s5,dy⟩:=(λx=>x) fM;refine bS 0 (congrArg some dy) (fz J (ks [0,2] J (fz J (rg [17] [0,0,0,0,0] mix (bO bN) (λhg pf=>ha T 14 [0,1,2,3] sz hg pf J (av 4 sz hg pf J (aw T J J J J (aK (j:=2) J J)) (ha T 9 [5,6,7,8] sz hg pf J (av 9 sz hg pf J (aw T J J J J (aK (j:=2) J J)) (ha T 4 [10,11,12,13] sz hg pf J (av 14 sz hg pf J (aw T J J J J (aK (j:=2) J J)) (ao 15 (kR nX.R [] [] J Ny H (nX.c · (oO s4 3) s4.bT) (λv1 H=>?_)))))))))))));rintro _ _ ⟨a6,n6,H6,s6,rfl,rfl⟩;refine fz J (an (so [0,0,0,0,0]) (ha T 1 [16] (so [0,0,0,0,0]) hg pf J (ao 17 (sf T 1 J (an sl (ae (rx T 1 (rc T 1 ?_))))))))
 cases H;refine dw [2,2,2] J dy (pb T J (.cQ (j:=1) [(ii g.m.W),(ii g.m.H),(ll a6 v1 n6)] J J J J J J J .nil) [2,2,0] ⟨(_,_),a6,n6,H6,s6,J,J⟩ J J)
end
noncomputable section
def yL.f:Option (List Int):=some [0,1,2,3]
theorem yL.c (H:yL.f=some r):
 QU 205 [] [] F (.agg #[(ii (rd r 0)),(ii (rd r 1)),(ii (rd r 2)),(ii (rd r 3))]):=by
 unfold yL.f at H;refine aD Tryz.func205 J J (λW=>rc T 2 (nc T J (λb1=>ro T 4 (br J (JM T J J J J J J) (sg T 1 J (ro T 3 ?_))))))
 cases H;exact pb T J (.cQ (j:=1) [(ii 0),(ii 1),(ii 2),(ii 3)] J J J J J J J .nil) [0] () J J
def fv.l3:Nat->Int->Int->List Int->Int->Option (List Int)
 |0,_,_,_,_=>none
 |KH+1,tw,th,cy,dE=>if dE<th then(if(List.length cy+1<=1099511627776) then(fv.l3 KH tw th (cy++[(aa (0+(aa (dE*tw))))]) (aa (dE+1))) else none) else(some cy)
def fv.l2:Nat->Int->Int->List Int->Int->Option (List Int)
 |0,_,_,_,_=>none
 |lP+1,tw,th,aU,bc=>if bc<th then(if(List.length aU+1<=1099511627776) then(fv.l2 lP tw th (aU++[(aa ((aa (tw-1))+(aa (bc*tw))))]) (aa (bc+1))) else none) else(some aU)
def fv.l1:Nat->Int->List Int->Int->Option (List Int)
 |0,_,_,_=>none
 |xD+1,tw,x8,x9=>if x9<tw then(if(List.length x8+1<=1099511627776) then(fv.l1 xD tw (x8++[(aa (0+x9))]) (aa (x9+1))) else none) else(some x8)
def fv.l0:Nat->Int->Int->List Int->Int->Option (List Int)
 |0,_,_,_,_=>none
 |k5+1,tw,th,x3,x4=>if x4<tw then(if(List.length x3+1<=1099511627776) then(fv.l0 k5 tw th (x3++[(aa ((aa ((aa (th-1))*tw))+x4))]) (aa (x4+1))) else none) else(some x3)
def fv.f (tw:Int) (th:Int) (side:Int):Option (List Int):=if(side==2)=true then(fv.l0 fuel tw th [] 0) else(if(side==0)=true then(fv.l1 fuel tw [] 0) else(if(side==1)=true then(fv.l2 fuel tw th [] 0) else(if(side==3)=true then(fv.l3 fuel tw th [] 0) else(some []))))
def fv.R (r:(List Int)):bg:=λu G=> ∃a0 n0 H0,aj (Fl.int .i64) 3 r a0 n0 H0/\u=(ll a0 r n0)/\G=[H0]
theorem fv.c (H:fv.f tw th side=some r):
 QR 233 [(ii tw),(ii th),(ii side)] [] [] F (fv.R r):=by
 unfold fv.f at H;refine aD Tryz.func233 J J (λW=>rc T 38 (cb J H (λH=>?_) (λH=>?_)))
 ·refine rc T 22 (bq (lq [8,24] [0] (λ(⟨k5,x3,x4,a2,n2,H2⟩:Nat×List Int×Int×Option Addr×Nat×Hp)=>(fv.l0 k5 tw th x3 x4=some r/\aj (Fl.int .i64) 3 x3 a2 n2 H2,[(7,(ll a2 x3 n2)),(25,(ii x4))],[H2])) J J (fuel,[],0,none,0,[]) [0,0] ⟨H,aj.nil⟩ J J ?_));rintro k5 ⟨x3,x4,a2,n2,H2⟩ ⟨Z2,s2⟩;rw[fv.l0] at Z2;refine rc T 6 (cd J Z2 (λZ2=>?_) (λZ2=>?_))
  ·refine rc T 15 (aX (cY (k:=(Fl.int .i64)) T [(aa ((aa ((aa (th-1))*tw))+x4))] J J J J J J J J J (λa3 H3 s3=>?_)));obtain⟨c4,Z2⟩:=az Z2;refine aX (dW (k:=(Fl.int .i64)) (xs:=x3) T (g:=1) J J J J J J J J J J s2 (oO s3 2) c4 J (λa4 n4 H4 s4=>ro T 9 (ar (_,_,_,_,_) [0,0] ⟨Z2,s4⟩ J J)))
  refine rc T 19 ?_
  cases Z2;exact p1 T J [1,0] ⟨a2,n2,H2,s2,J,J⟩ J
 refine rc T 9 (cb J H (λH=>?_) (λH=>?_))
 ·refine rc T 15 (bq (lq [8,24] [0] (λ(⟨xD,x8,x9,a6,n6,H6⟩:Nat×List Int×Int×Option Addr×Nat×Hp)=>(fv.l1 xD tw x8 x9=some r/\aj (Fl.int .i64) 3 x8 a6 n6 H6,[(7,(ll a6 x8 n6)),(25,(ii x9))],[H6])) J J (fuel,[],0,none,0,[]) [0,0] ⟨H,aj.nil⟩ J J ?_));rintro xD ⟨x8,x9,a6,n6,H6⟩ ⟨Z6,s6⟩;rw[fv.l1] at Z6;refine rc T 6 (cd J Z6 (λZ6=>?_) (λZ6=>?_))
  ·refine rc T 15 (aX (cY (k:=(Fl.int .i64)) T [(aa (0+x9))] J J J J J J J J J (λa7 H7 s7=>?_)));obtain⟨c8,Z6⟩:=az Z6;refine aX (dW (k:=(Fl.int .i64)) (xs:=x8) T (g:=1) J J J J J J J J J J s6 (oO s7 2) c8 J (λa8 n8 H8 s8=>ro T 9 (ar (_,_,_,_,_) [0,0] ⟨Z6,s8⟩ J J)))
  refine rc T 19 ?_
  cases Z6;exact p1 T J [1,0] ⟨a6,n6,H6,s6,J,J⟩ J
 refine rc T 9 (cb J H (λH=>?_) (λH=>?_))
 ·refine rc T 24 (bq (lq [0,8,37] [0] (λ(⟨lP,aU,bc,cB,n10,b_⟩:Nat×List Int×Int×Option Addr×Nat×Hp)=>(fv.l2 lP tw th aU bc=some r/\aj (Fl.int .i64) 3 aU cB n10 b_,[(7,(ll cB aU n10)),(38,(ii bc))],[b_])) J J (fuel,[],0,none,0,[]) [0,0] ⟨H,aj.nil⟩ J J ?_));rintro lP ⟨aU,bc,cB,n10,b_⟩ ⟨lZ,bP⟩;rw[fv.l2] at lZ;refine rc T 6 (cd J lZ (λlZ=>?_) (λlZ=>?_))
  ·refine rc T 17 (aX (cY (k:=(Fl.int .i64)) T [(aa ((aa (tw-1))+(aa (bc*tw))))] J J J J J J J J J (λdj cz c_=>?_)));obtain⟨ir,lZ⟩:=az lZ;refine aX (dW (k:=(Fl.int .i64)) (xs:=aU) T (g:=1) J J J J J J J J J J bP (oO c_ 2) ir J (λa12 n12 dq dz=>ro T 9 (ar (_,_,_,_,_) [0,0] ⟨lZ,dz⟩ J J)))
  refine rc T 15 ?_
  cases lZ;exact p1 T J [1,0] ⟨cB,n10,b_,bP,J,J⟩ J
 refine rc T 8 (cb J H (λH=>?_) (λH=>?_))
 ·refine rc T 18 (bq (lq [0,8,37] [0] (λ(⟨KH,cy,dE,je,n14,fX⟩:Nat×List Int×Int×Option Addr×Nat×Hp)=>(fv.l3 KH tw th cy dE=some r/\aj (Fl.int .i64) 3 cy je n14 fX,[(7,(ll je cy n14)),(38,(ii dE))],[fX])) J J (fuel,[],0,none,0,[]) [0,0] ⟨H,aj.nil⟩ J J ?_));rintro KH ⟨cy,dE,je,n14,fX⟩ ⟨cn,gF⟩;rw[fv.l3] at cn;refine rc T 6 (cd J cn (λcn=>?_) (λcn=>?_))
  ·refine rc T 17 (aX (cY (k:=(Fl.int .i64)) T [(aa (0+(aa (dE*tw))))] J J J J J J J J J (λjS dI dP=>?_)));obtain⟨pY,cn⟩:=az cn;refine aX (dW (k:=(Fl.int .i64)) (xs:=cy) T (g:=1) J J J J J J J J J J gF (oO dP 2) pY J (λjT n16 fY fU=>ro T 9 (ar (_,_,_,_,_) [0,0] ⟨cn,fU⟩ J J)))
  refine rc T 15 ?_
  cases cn;exact p1 T J [1,0] ⟨je,n14,fX,gF,J,J⟩ J
 refine rc T 20 ?_
 cases H;refine bq (p1 T J [1,0] ⟨none,0,[],aj.nil,J,J⟩ J)
def yK.f (w:Int) (h:Int) (cell:Int) (side:Int):Option Int:=(mj.f w h cell side).bind λv1=>(if v1<0 then(some true) else((gR.f w h v1).bind λv4=>(gR.f w h cell).bind λv5=>some (v4==v5))).bind λx2=>if x2=true then(some (-1)) else(some v1)
theorem yK.c (H:yK.f w h cell side=some r):
 QU 206 [(ii w),(ii h),(ii cell),(ii side)] [] F (ii r):=by
 unfold yK.f at H;refine aD Tryz.func206 J J (λW=>rc T 11 (k [] J AN H (mj.c ·) (λv1 H=>ro T 4 (mq H [9] [0] (λz3 (x2:Bool)=>(x2=z3,[(27,(bb x2))],[])) J J (λz3 Z2 _=>?_) ?_))))
 ·refine rc T 4 (ad 17 J Z2 (λZ2=>?_) (λZ2=>?_))
  ·refine ro T 12 (am _ [0] (oi Z2) J J)
  refine ro T 3 (k [] J rU Z2 (gR.c ·) (λv4 Z2=>ro T 3 (k [] J rU Z2 (gR.c ·) (λv5 Z2=>ro T 4 (am _ [0] (oi Z2) J J)))))
 rintro _ x2 rfl H;refine cb J H (λH=>?_) (λH=>?_)
 ·refine rc T 7 ?_
  cases H;exact p0 T J [0] J
 refine rc T 9 ?_
 cases H;exact p0 T J [0] J
def gM.l2:Nat->Int->Int->Int->List Bool->List Int->Int->Option (List Int)
 |0,_,_,_,_,_,_=>none
 |pz+1,w,h,bI,x5,cg,eA=>if eA<(List.length x5:Int) then(if(0<=eA/\eA<(List.length x5:Int)) then(if(rd x5 eA)=true then((um.f w h bI eA).bind λv25=>if(List.length cg+1<=1099511627776) then(gM.l2 pz w h bI x5 (cg++[v25]) (aa (eA+1))) else none) else(gM.l2 pz w h bI x5 cg (aa (eA+1)))) else none) else(some cg)
def gM.l1:Nat->(List Int)->List Bool->Int->Option (List Bool)
 |0,_,_,_=>none
 |zp+1,v10,cD,cy=>if cy<(List.length v10:Int) then(if(0<=cy/\cy<(List.length v10:Int)) then(if(0<=(rd v10 cy)/\(rd v10 cy)<(List.length cD:Int)) then(gM.l1 zp v10 (List.set cD (Int.toNat (rd v10 cy)) true) (aa (cy+1))) else none) else none) else(some cD)
def gM.l0:Nat->Int->Int->Int->(Int×Int)->(List Int)->List Bool->Int->Option (List Int)
 |0,_,_,_,_,_,_,_=>none
 |k7+1,w,h,bI,v1,v2,x5,x6=>if x6<4 then((if(0<=x6/\x6<(List.length [(rd v2 0),(rd v2 1),(rd v2 2),(rd v2 3)]:Int)) then((fv.f v1.1 v1.2 (rd [(rd v2 0),(rd v2 1),(rd v2 2),(rd v2 3)] x6)).bind λv10=>(if((List.length v10:Int)==0)=true then(some true) else(if(0<=(0:Int)/\(0:Int)<(List.length v10:Int)) then((um.f w h bI (rd v10 0)).bind λlG=>(yK.f w h lG (rd [(rd v2 0),(rd v2 1),(rd v2 2),(rd v2 3)] x6)).bind λek=>some (decide (ek<0))) else none)).bind λbj=>if bj=true then(some x5) else(gM.l1 fuel v10 x5 0)) else none).bind λx8=>gM.l0 k7 w h bI v1 v2 x8 (aa (x6+1))) else(gM.l2 fuel w h bI x5 [] 0)
def gM.f (w:Int) (h:Int) (bI:Int):Option (List Int):=(rA.f w h bI).bind λv1=>if(0<=(aa (v1.1*v1.2))/\(aa (v1.1*v1.2))<=1099511627776) then((yL.f).bind λv2=>gM.l0 fuel w h bI v1 v2 (List.replicate (Int.toNat (aa (v1.1*v1.2))) false) 0) else none
def gM.R (r:(List Int)):bg:=λu G=> ∃a0 n0 H0,aj (Fl.int .i64) 3 r a0 n0 H0/\u=(ll a0 r n0)/\G=[H0]
theorem gM.c (H:gM.f w h bI=some r):
 QR 203 [(ii w),(ii h),(ii bI)] [] [] F (gM.R r):=by
 unfold gM.f at H;refine aD Tryz.func203 J J (λW=>rc T 10 (k [] J Gv H (rA.c ·) (λv1 H=>ro T 12 ?_)));obtain⟨c2,H⟩:=az H;refine aX (yE (k:=Fl.bool) T false J J J J J J J J c2 J (λa1 n1 H1 s1=>ro T 6 (k [] J TC H (yL.c ·) (λv2 H=>ro T 4 (lq [0,1,2,7,8,29] [0] (λ(⟨k7,x5,x6,a3,n3,H3⟩:Nat×List Bool×Int×Option Addr×Nat×Hp)=>(gM.l0 k7 w h bI v1 v2 x5 x6=some r/\aj Fl.bool 4 x5 a3 n3 H3,[(9,(ll a3 x5 n3)),(30,(ii x6))],[H3])) J J (fuel,(List.replicate (Int.toNat (aa (v1.1*v1.2))) false),0,a1,n1,H1) [0,0] ⟨H,s1⟩ J J ?_)))));rintro k7 ⟨x5,x6,a3,n3,H3⟩ ⟨Z4,s3⟩;rw[gM.l0] at Z4;refine rc T 6 (cd J Z4 (λZ4=>?_) (λZ4=>?_))
 ·refine rc T 2 (mq Z4 [0,1,2,7,8,29,30] [0] (λz9 (⟨x8,a4,n4,H4⟩:List Bool×Option Addr×Nat×Hp)=>(x8=z9/\aj Fl.bool 4 x8 a4 n4 H4,[(9,(ll a4 x8 n4))],[H4])) J J (λz9 Z6 _=>?_) ?_)
  ·refine rc T 3 ?_;obtain⟨c7,Z6⟩:=az Z6;refine br J (Sr T (Fl.int .i64) [(rd v2 0),(rd v2 1),(rd v2 2),(rd v2 3)] J J J J J J J J J c7 J) (ro T 8 (kr fv.R [] [] J adM Z6 (fv.c ·) (λv10 Z6=>?_)));rintro _ _ ⟨a5,n5,H5,s5,rfl,rfl⟩;refine fz J (ro T 4 (mq Z6 [0,1,2,7,8,9,12,29,30] [0,0,0] (λz12 (bj:Bool)=>(bj=z12,[(53,(bb bj))],[])) J J (λz12 Z9 _=>?_) ?_))
   ·refine rc T 5 (ab 40 J Z9 (λZ9=>?_) (λZ9=>?_))
    ·refine ro T 15 (am _ [0,0,0] (oi Z9) J J)
    refine ro T 6 ?_;obtain⟨eJ,Z9⟩:=az Z9;obtain⟨q6,o6,e6⟩:=s5.r.addr eJ.1 eJ.2;refine ix T J e6 eJ (le T 0 (oO s5 2) e6 eJ J J (k [] J J3 Z9 (um.c ·) (λlG Z9=>ro T 1 (k [] J TD Z9 (yK.c ·) (λek Z9=>ro T 4 (am _ [0,0,0] (oi Z9) J J))))))
   rintro _ bj rfl Z6;refine cb J Z6 (λZ6=>?_) (λZ6=>?_)
   ·refine rc T 4 (am (_,_,_,_) [0,0] ⟨oi Z6,s3⟩ J J)
   refine rc T 10 (lq [0,1,2,7,8,29,30,54,55] [0,1] (λ(⟨zp,cD,cy,a8,n8,H8⟩:Nat×List Bool×Int×Option Addr×Nat×Hp)=>(gM.l1 zp v10 cD cy=some z9/\aj Fl.bool 4 cD a8 n8 H8,[(9,(ll a8 cD n8)),(56,(ii cy))],[H8])) J J (fuel,x5,0,a3,n3,H3) [0,1,0] ⟨Z6,s3⟩ J J ?_);rintro zp ⟨cD,cy,a8,n8,H8⟩ ⟨cA,s8⟩;rw[gM.l1] at cA;refine rc T 6 (cd J cA (λcA=>?_) (λcA=>?_))
   ·refine rc T 6 ?_;obtain⟨jI,cA⟩:=az cA;obtain⟨q9,o9,e9⟩:=s5.r.addr jI.1 jI.2;refine ix T J e9 jI (le T 0 (oO s5 1) e9 jI J J (ro T 6 ?_));obtain⟨lM,cA⟩:=az cA;obtain⟨Ld,K5,p8⟩:=s8.r.addr lM.1 lM.2;refine ix T J p8 lM (aX (kX (k:=Fl.bool) T 2 0 true J J J J J J s8 p8 lM J J J (λcz c_=>kf [0,1,2,7,8,29,30,54,55,56] [0,0,0] [(9,(ll a8 (List.set cD (Int.toNat (rd v10 cy)) true) n8))] J J ⟨dJ,trivial⟩ (ro T 8 (ar (_,_,_,_,_) [0,0,0] ⟨cA,c_⟩ J J)))))
   refine rc T 6 (am (_,_,_,_) [0,1] ⟨oi cA,s8⟩ J J)
  rintro _ ⟨x8,a4,n4,H4⟩ ⟨rfl,s4⟩ Z4;refine rc T 5 (ar (_,_,_,_,_) [0,0] ⟨Z4,s4⟩ J J)
 refine rc T 19 (bq (lq [0,1,2,65,66] [0,0] (λ(⟨pz,cg,eA,dK,n13,dV⟩:Nat×List Int×Int×Option Addr×Nat×Hp)=>(gM.l2 pz w h bI x5 cg eA=some r/\aj (Fl.int .i64) 3 cg dK n13 dV,[(15,(ll dK cg n13)),(67,(ii eA))],[dV])) J J (fuel,[],0,none,0,[]) [0,0,0] ⟨Z4,aj.nil⟩ J J ?_));rintro pz ⟨cg,eA,dK,n13,dV⟩ ⟨fg,dm⟩;rw[gM.l2] at fg;refine rc T 6 (cd J fg (λfg=>?_) (λfg=>?_))
 ·refine rc T 7 ?_;obtain⟨kB,fg⟩:=az fg;obtain⟨Wn,VR,xm⟩:=s3.r.addr kB.1 kB.2;refine ix T J xm kB (le T 0 (oO s3 1) xm kB J J (ro T 9 (cb J fg (λfg=>?_) (λfg=>?_))))
  ·refine rc T 6 (k [] J J3 fg (um.c ·) (λv25 fg=>aX (cY (k:=(Fl.int .i64)) T [v25] J J J J J J J J J (λjS dI dP=>?_))));obtain⟨Mz,fg⟩:=az fg;refine aX (dW (k:=(Fl.int .i64)) (xs:=cg) T (g:=2) J J J J J J J J J J dm (oO dP 3) Mz J (λjT n16 fY fU=>ro T 9 (ar (_,_,_,_,_) [0,0,0] ⟨fg,fU⟩ J J)))
  refine rc T 8 (ar (_,_,_,_,_) [0,0,0] ⟨fg,dm⟩ J J)
 refine rc T 12 ?_
 cases fg;exact p1 T J [2,0] ⟨dK,n13,dV,dm,J,J⟩ J
def uA.f (g:bC) (cell:Int):Option Bool:=(iU.f g cell).bind λv1=>some ((decide (v1>0))&&(decide (v1<255)))
theorem uA.c (H:uA.f g cell=some r) (fM:iP g fo gr):
 QU 204 [(pp fo),(ii cell)] [gr] F (bb r):=by
 unfold uA.f at H;refine aD Tryz.func204 J J (λW=>rc T 9 (k [0] J vO H (iU.c · fM) (λv1 H=>ro T 8 (ga T [3,4,5] 11 [] 14 J J J J J J J (ro T 4 ?_)))))
 cases H;exact p0 T J [0,0] J
def j6.l0:Nat->bC->(List Int)->List Int->Int->Option (List Int)
 |0,_,_,_,_=>none
 |k7+1,g,v2,x5,x6=>if x6<(List.length v2:Int) then(if(0<=x6/\x6<(List.length v2:Int)) then((uA.f g (rd v2 x6)).bind λv8=>if v8=true then(if(List.length x5+1<=1099511627776) then(j6.l0 k7 g v2 (x5++[(rd v2 x6)]) (aa (x6+1))) else none) else(j6.l0 k7 g v2 x5 (aa (x6+1)))) else none) else(some x5)
def j6.f (g:bC) (bI:Int):Option (List Int):=(iV.f g).bind λv1=>(gM.f v1.1 v1.2 bI).bind λv2=>j6.l0 fuel g v2 [] 0
def j6.R (r:(List Int)):bg:=λu G=> ∃a0 n0 H0,aj (Fl.int .i64) 3 r a0 n0 H0/\u=(ll a0 r n0)/\G=[H0]
theorem j6.c (H:j6.f g bI=some r) (fM:iP g fo gr):
 QR 175 [(pp fo),(ii bI)] [gr] [gr] F (j6.R r):=by
 unfold j6.f at H;refine aD Tryz.func175 J J (λW=>rc T 8 (k [0] J uK H (iV.c · fM) (λv1 H=>ro T 18 (kr gM.R [] [] J adu H (gM.c ·) (λv2 H=>?_)))));rintro _ _ ⟨a2,n2,H2,s2,rfl,rfl⟩;refine fz J (ro T 5 (bq (lq [0,18,19] [1,0,0] (λ(⟨k7,x5,x6,a4,n4,H4⟩:Nat×List Int×Int×Option Addr×Nat×Hp)=>(j6.l0 k7 g v2 x5 x6=some r/\aj (Fl.int .i64) 3 x5 a4 n4 H4,[(7,(ll a4 x5 n4)),(20,(ii x6))],[H4])) J J (fuel,[],0,none,0,[]) [1,0,0,0] ⟨H,aj.nil⟩ J J ?_)));rintro k7 ⟨x5,x6,a4,n4,H4⟩ ⟨Z3,s4⟩;rw[j6.l0] at Z3;refine rc T 6 (cd J Z3 (λZ3=>?_) (λZ3=>?_))
 ·refine rc T 6 ?_;obtain⟨c5,Z3⟩:=az Z3;obtain⟨q5,o5,e5⟩:=s2.r.addr c5.1 c5.2;refine ix T J e5 c5 (le T 0 (oO s2 2) e5 c5 J J (ro T 7 (k [1] J NI Z3 (uA.c · fM) (λv8 Z3=>ro T 2 (cb J Z3 (λZ3=>?_) (λZ3=>?_))))))
  ·refine rc T 3 (aX (cY (k:=(Fl.int .i64)) T [(rd v2 x6)] J J J J J J J J J (λa6 H6 s6=>?_)));obtain⟨c8,Z3⟩:=az Z3;refine aX (dW (k:=(Fl.int .i64)) (xs:=x5) T (g:=3) J J J J J J J J J J s4 (oO s6 4) c8 J (λa7 n7 H7 s7=>ro T 9 (ar (_,_,_,_,_) [0,0,0,0] ⟨Z3,s7⟩ J J)))
  refine rc T 8 (ar (_,_,_,_,_) [0,0,0,0] ⟨Z3,s4⟩ J J)
 refine rc T 12 ?_
 cases Z3;exact p1 T J [3,1,0] ⟨a4,n4,H4,s4,J,J⟩ J
def nt.l0:Nat->bC->Int->(Int×Int)->(List Int)->List eB->Int->Option (List eB)
 |0,_,_,_,_,_,_=>none
 |k8+1,g,cell,v1,v3,x6,x7=>if x7<4 then(if(0<=x7/\x7<(List.length [(rd v3 0),(rd v3 1),(rd v3 2),(rd v3 3)]:Int)) then((yK.f v1.1 v1.2 cell (rd [(rd v3 0),(rd v3 1),(rd v3 2),(rd v3 3)] x7)).bind λv9=>(if v9≥0 then((uA.f g v9).bind λv12=>some v12) else(some false)).bind λaN=>if aN=true then((iU.f g v9).bind λlG=>if(List.length x6+1<=1099511627776) then(nt.l0 k8 g cell v1 v3 (x6++[(eB.mk v9 lG)]) (aa (x7+1))) else none) else(nt.l0 k8 g cell v1 v3 x6 (aa (x7+1)))) else none) else(some x6)
def nt.f (g:bC) (cell:Int):Option (List eB):=(iV.f g).bind λv1=>(uA.f g cell).bind λv2=>if(!v2)=true then(some []) else((yL.f).bind λv3=>nt.l0 fuel g cell v1 v3 [] 0)
def nt.R (r:(List eB)):bg:=λu G=> ∃a0 n0 H0,aj pA 283 r a0 n0 H0/\u=(ll a0 r n0)/\G=[H0]
theorem nt.c (H:nt.f g cell=some r) (fM:iP g fo gr):
 QR 176 [(pp fo),(ii cell)] [gr] [gr] F (nt.R r):=by
 unfold nt.f at H;refine aD Tryz.func176 J J (λW=>rc T 8 (k [0] J uK H (iV.c · fM) (λv1 H=>ro T 12 (k [0] J NI H (uA.c · fM) (λv2 H=>ro T 3 (cb J H (λH=>?_) (λH=>?_)))))))
 ·refine rc T 7 ?_
  cases H;refine bq (p1 T J [2,0,0] ⟨none,0,[],aj.nil,J,J⟩ J)
 refine rc T 10 (k [] J TC H (yL.c ·) (λv3 H=>ro T 4 (bq (lq [0,1,5,6,20] [1,0] (λ(⟨k8,x6,x7,a4,n4,H4⟩:Nat×List eB×Int×Option Addr×Nat×Hp)=>(nt.l0 k8 g cell v1 v3 x6 x7=some r/\aj pA 283 x6 a4 n4 H4,[(7,(ll a4 x6 n4)),(21,(ii x7))],[H4])) J J (fuel,[],0,none,0,[]) [1,0,0] ⟨H,aj.nil⟩ J J ?_))));rintro k8 ⟨x6,x7,a4,n4,H4⟩ ⟨Z5,s4⟩;rw[nt.l0] at Z5;refine rc T 6 (cd J Z5 (λZ5=>?_) (λZ5=>?_))
 ·refine rc T 6 ?_;obtain⟨c7,Z5⟩:=az Z5;refine br J (Sr T (Fl.int .i64) [(rd v3 0),(rd v3 1),(rd v3 2),(rd v3 3)] J J J J J J J J J c7 J) (ro T 9 (k [] J TD Z5 (yK.c ·) (λv9 Z5=>ro T 3 (mq Z5 [0,1,5,6,7,10,20,21] [0,0,0] (λlV (aN:Bool)=>(aN=lV,[(35,(bb aN))],[])) J J (λlV Z9 _=>?_) ?_))))
  ·refine rc T 4 (ad 31 J Z9 (λZ9=>?_) (λZ9=>?_))
   ·refine ro T 2 (k [1] J NI Z9 (uA.c · fM) (λv12 Z9=>ro T 3 (am _ [0,0,0] (oi Z9) J J)))
   refine ro T 6 (am _ [0,0,0] (oi Z9) J J)
  rintro _ aN rfl Z5;refine cb J Z5 (λZ5=>?_) (λZ5=>?_)
  ·refine rc T 5 (k [1] J vO Z5 (iU.c · fM) (λlG Z5=>ro T 1 (aX (cY (k:=pA) T [(eB.mk v9 lG)] J J J J J J J J J (λa5 H5 s5=>?_)))));obtain⟨pj,Z5⟩:=az Z5;refine aX (dW (k:=pA) (xs:=x6) T (g:=2) J J J J J J J J J J s4 (oO s5 3) pj J (λa6 n6 H6 s6=>ro T 9 (ar (_,_,_,_,_) [0,0,0] ⟨Z5,s6⟩ J J)))
  refine rc T 8 (ar (_,_,_,_,_) [0,0,0] ⟨Z5,s4⟩ J J)
 refine rc T 12 ?_
 cases Z5;exact p1 T J [2,1,0] ⟨a4,n4,H4,s4,J,J⟩ J
end
end Go.Proofs.YthodkonhneebbaaGreatDoor
