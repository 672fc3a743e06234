/- What the functions of some packages compute, each as a function of plain Lean, with its contract. No condition. -/
import Derived.Test.YthodkonhneebbaaGreatDoorKDT
import Derived.Test.YthodkonhneebbaaGreatDoorKD6
import Derived.Test.YthodkonhneebbaaGreatDoorKD5
namespace Go.Proofs.YthodkonhneebbaaGreatDoor
open Go.Hx
set_option maxRecDepth 100000
set_option linter.unusedSimpArgs false
set_option linter.unusedVariables false
set_option maxHeartbeats 4000000
set_option autoImplicit true
set_option relaxedAutoImplicit true
noncomputable section
def Eh.f (dir:Int):Option Bool:=some ((decide (dir<0))||(decide (dir>5)))
theorem Eh.c (H:Eh.f dir=some r):
 QU 197 [(ii dir)] [] F (bb r):=by
 unfold Eh.f at H;refine aD Tryz.func197 J J (λW=>rc T 10 (go T [3,4,5] 5 [] 8 J J J J J J J (ro T 4 ?_)))
 cases H;exact p0 T J [0] J
def qU.l0:Nat->(List Int)->Int->Option Int
 |0,_,_=>none
 |k3+1,s,x2=>if x2<(List.length s:Int) then(if(0<=x2/\x2<(List.length s:Int)) then((Eh.f (rd s x2)).bind λv4=>if v4=true then(some x2) else(qU.l0 k3 s (aa (x2+1)))) else none) else(some (-1))
def qU.f (s:(List Int)):Option Int:=qU.l0 fuel s 0
theorem qU.c (H:qU.f s=some r) (jt:aT (Fl.int .i64) s iR F) (rp:List.length s<=iV):
 QU 232 [(ll iR s iV),(.func (.func 197) #[] #[])] [] F (ii r):=by
 unfold qU.f at H;refine aD Tryz.func232 J J (λW=>rc T 14 (lq [0,1,7] [0] (λ(⟨k3,x2⟩:Nat×Int)=>(qU.l0 k3 s x2=some r,[(8,(ii x2))],[])) J J (fuel,0) [0] H J J ?_));rintro k3 x2 Z1;replace Z1:qU.l0 (k3+1) s x2=some r:=Z1;rw[qU.l0] at Z1;refine rc T 6 (cd J Z1 (λZ1=>?_) (λZ1=>?_))
 ·refine rc T 15 ?_;obtain⟨c3,Z1⟩:=az Z1;obtain⟨q1,o1,e1⟩:=jt.addr c3.1 c3.2;refine ix T J e1 c3 (le T 0 (rO jt 0) e1 c3 J J (k [] J acV Z1 (Eh.c ·) (λv4 Z1=>ro T 2 (cb J Z1 (λZ1=>?_) (λZ1=>?_)))))
  ·refine rc T 12 ?_
   cases Z1;exact p0 T J [0] J
  refine rc T 8 (ar _ [0] Z1 J J)
 refine rc T 11 ?_
 cases Z1;exact p0 T J [0] J
def C_.f (s:(List Int)):Option Bool:=(qU.f s).bind λv1=>some (decide (v1≥0))
theorem C_.c (H:C_.f s=some r) (jt:aT (Fl.int .i64) s iR F) (rp:List.length s<=iV):
 QU 198 [(ll iR s iV),(.func (.func 197) #[] #[])] [] F (bb r):=by
 unfold C_.f at H;refine aD Tryz.func198 J J (λW=>rc T 9 (k [] J adg H (qU.c · (rO jt 0) rp) (λv1 H=>ro T 5 ?_)))
 cases H;exact p0 T J [0] J
def vJ.f (ag:mu) (u:aF) (dir:Int):Option (Bool×mu×aF):=if(dir==0)=true then((mf.f ag.w ag.h u.Cell dir).bind λv1=>(if v1<0 then(some true) else(some (aP ag.jQ v1))).bind λx2=>if x2=true then(some (true,ag,u)) else(if(List.length ag.ku+1<=1099511627776) then(if(v1==u.Goal)=true then(if(List.length ag.gone+1<=1099511627776) then(some (false,(mu.mk ag.w ag.h (dT ag.jQ u.Cell) (ag.ku++[(fg.mk u.Id v1)]) (ag.gone++[u.Id])),(aF.mk u.Id v1 u.Goal))) else none) else(some (true,(mu.mk ag.w ag.h (cC (dT ag.jQ u.Cell) v1 true) (ag.ku++[(fg.mk u.Id v1)]) ag.gone),(aF.mk u.Id v1 u.Goal)))) else none)) else(if(dir==1)=true then((mf.f ag.w ag.h u.Cell dir).bind λv4=>(if v4<0 then(some true) else(some (aP ag.jQ v4))).bind λx5=>if x5=true then(some (true,ag,u)) else(if(List.length ag.ku+1<=1099511627776) then(if(v4==u.Goal)=true then(if(List.length ag.gone+1<=1099511627776) then(some (false,(mu.mk ag.w ag.h (dT ag.jQ u.Cell) (ag.ku++[(fg.mk u.Id v4)]) (ag.gone++[u.Id])),(aF.mk u.Id v4 u.Goal))) else none) else(some (true,(mu.mk ag.w ag.h (cC (dT ag.jQ u.Cell) v4 true) (ag.ku++[(fg.mk u.Id v4)]) ag.gone),(aF.mk u.Id v4 u.Goal)))) else none)) else(if(dir==2)=true then((mf.f ag.w ag.h u.Cell dir).bind λv7=>(if v7<0 then(some true) else(some (aP ag.jQ v7))).bind λx8=>if x8=true then(some (true,ag,u)) else(if(List.length ag.ku+1<=1099511627776) then(if(v7==u.Goal)=true then(if(List.length ag.gone+1<=1099511627776) then(some (false,(mu.mk ag.w ag.h (dT ag.jQ u.Cell) (ag.ku++[(fg.mk u.Id v7)]) (ag.gone++[u.Id])),(aF.mk u.Id v7 u.Goal))) else none) else(some (true,(mu.mk ag.w ag.h (cC (dT ag.jQ u.Cell) v7 true) (ag.ku++[(fg.mk u.Id v7)]) ag.gone),(aF.mk u.Id v7 u.Goal)))) else none)) else(if(dir==3)=true then((mf.f ag.w ag.h u.Cell dir).bind λv10=>(if v10<0 then(some true) else(some (aP ag.jQ v10))).bind λbf=>if bf=true then(some (true,ag,u)) else(if(List.length ag.ku+1<=1099511627776) then(if(v10==u.Goal)=true then(if(List.length ag.gone+1<=1099511627776) then(some (false,(mu.mk ag.w ag.h (dT ag.jQ u.Cell) (ag.ku++[(fg.mk u.Id v10)]) (ag.gone++[u.Id])),(aF.mk u.Id v10 u.Goal))) else none) else(some (true,(mu.mk ag.w ag.h (cC (dT ag.jQ u.Cell) v10 true) (ag.ku++[(fg.mk u.Id v10)]) ag.gone),(aF.mk u.Id v10 u.Goal)))) else none)) else(some (true,ag,u)))))
def vJ.R (aY:Nat) (eJ:Nat) (r:(Bool×mu×aF)) (u:Value) (G:List Hp):Prop:= ∃(a0:Nat) (H0:Hp) (a1:Option Addr) (n1:Nat) (H1:Hp) (a2:Option Addr) (n2:Nat) (H2:Hp),cM (Ky.int .i64 u3) (λx:Bool=>Value.bool x) r.2.1.jQ a0 H0/\aj jv 94 r.2.1.ku a1 n1 H1/\aj (Fl.int .i64) 3 r.2.1.gone a2 n2 H2/\u=(bb r.1)/\G=[(cl aY 309 [(ii r.2.1.w),(ii r.2.1.h),(.map (some a0)),(ll a1 r.2.1.ku n1),(ll a2 r.2.1.gone n2)]),H0,H1,H2,(cl eJ 67 [(ii r.2.2.Id),(ii r.2.2.Cell),(ii r.2.2.Goal)])]
theorem vJ.c (H:vJ.f ag u dir=some r) (tj:cM (Ky.int .i64 u3) (λx:Bool=>Value.bool x) ag.jQ rn Ds) (zy:aj jv 94 ag.ku Dy El Dr) (tg:aj (Fl.int .i64) 3 ag.gone wQ xy wK):
 QR 199 [(pp aY),(pp eJ),(ii dir)] [(cl aY 309 [(ii ag.w),(ii ag.h),(.map (some rn)),(ll Dy ag.ku El),(ll wQ ag.gone xy)]),Ds,Dr,wK,(cl eJ 67 [(ii u.Id),(ii u.Cell),(ii u.Goal)])] [] F (vJ.R aY eJ r):=by
 unfold vJ.f at H;refine aD Tryz.func199 J J (λW=>rc T 25 (cb J H (λH=>?_) (λH=>?_)))
 ·refine rc T 10 (du mix ay (au T J (au T J (au T J (aO J J J (aw T J J J J (aH (j:=0) J J)) (au T J (au T J (au T J (aO J J J (aw T J J J J (aH (j:=0) J J)) (au T J (au T J (au T J (aO J J J (aw T J J J J (aH (j:=4) J J)) (au T J ?_))))))))))))));obtain⟨v1,V2,H⟩:=f_ H;refine tQ J J J J J J Ao J (mf.c V2) (au T J (cZ (rx T 2 (mq H [0,1,7] [5,0,0,0,0,0] (λz3 (x2:Bool)=>(x2=z3,[(40,(bb x2))],[])) J J (λz3 Z3 _=>?_) ?_))))
  ·refine rc T 4 (ad 33 J Z3 (λZ3=>?_) (λZ3=>?_))
   ·refine ro T 9 (am _ [5,0,0,0,0,0] (oi Z3) J J)
   refine ro T 3 (lf T 0 J (ro T 1 (br J (pV (k:=v1) T (Ky.int .i64 u3) (λx:Bool=>Value.bool x) J J J J J (oB tj (j:=1) J)) (ro T 3 (am _ [5,0,0,0,0,0] (oi Z3) J J)))))
  rintro _ x2 rfl H;refine cb J H (λH=>?_) (λH=>?_)
  ·refine rc T 10 ?_
   cases H;exact p1 T J [1,1,1,1,1,0] ⟨rn,Ds,Dy,El,Dr,wQ,xy,wK,tj,zy,tg,J,J⟩ J
  refine rc T 3 (fz J (rz [8] mix (bP bO) (λhg pf=>ha T 6 [0,1,2] sz hg pf J (av 3 sz hg pf J (aw T J J J J (aH (j:=1) J J)) (ha T 2 [4,5,6] sz hg pf J (av 7 sz hg pf J (aw T J J J J (aH (j:=5) J J)) (ao 8 (DB (g:=2) (m:=ag.jQ) (k:=u.Cell) T (Ky.int .i64 u3) (λx:Bool=>Value.bool x) J J J J J J J J tj (λH6 s6=>an sl (ae (rx T 7 (sg T 5 J (ro T 3 (ks [0,1,7] J (fz J (rg [12,15] [0,0,0,0,0,0] mix (bP bO) (λhg pf=>ha T 12 [0,1,2,3] sz hg pf J (av 4 sz hg pf J (aw T J J J J (aH (j:=1) J J)) (ha T 8 [5,6,7] sz hg pf J (av 8 sz hg pf J (aw T J J J J (aH (j:=5) J J)) (ha T 5 [9,10] sz hg pf J (ao 11 (cU (k:=jv) T [(fg.mk u.Id v1)] J J J J J J J J J (λa7 H7 s7=>an (so [0,0,0,0,0,0]) (ao 12 ?_)))))))))))))))))))))))));obtain⟨c6,H⟩:=az H;refine d_ (k:=jv) (xs:=ag.ku) T (g:=3) J J J J J J J J J J zy (oO s7 6) c6 J (λa8 n8 H8 s8=>an sl (hb T 13 sl hg pf J (hb T 14 sl hg pf J (ao 15 (sf T 1 J (an sl (ae (rx T 1 (rc T 7 (lf T 5 J (ro T 3 (cb J H (λH=>?_) (λH=>?_)))))))))))))
  ·refine rc T 1 (ke [0,1] [0,0,0,0,0,0] J J (fz J (rg [10,13] [0,0,0,0,0,0] mix (bP bO) (λhg pf=>ha T 10 [0,1,2,3] sz hg pf J (av 4 sz hg pf J (aw T J J J J (aH (j:=1) J J)) (ha T 6 [5,6,7] sz hg pf J (av 8 sz hg pf J (aw T J J J J (aH (j:=5) J J)) (ao 9 (cU (k:=(Fl.int .i64)) T [u.Id] J J J J J J J J J (λa9 H9 s9=>an (so [0,0,0,0,0,0]) (ao 10 ?_)))))))))));obtain⟨c8,H⟩:=az H;refine d_ (k:=(Fl.int .i64)) (xs:=ag.gone) T (g:=4) J J J J J J J J J J tg (oO s9 6) c8 J (λcw n10 bX bT=>an sl (hb T 11 sl hg pf J (hb T 12 sl hg pf J (ao 13 (sf T 1 J (an sl (ae (rx T 1 (rc T 10 ?_)))))))))
   cases H;exact p1 T J [1,1,1,1,1,0] ⟨rn,H6,a8,n8,H8,cw,n10,bX,s6,s8,bT,J,J⟩ J
  refine rc T 6 (lf T 1 J (ro T 1 (aX (pP (g:=2) (m:=(dT ag.jQ u.Cell)) (k:=v1) (v:=true) T (Ky.int .i64 u3) (λx:Bool=>Value.bool x) J J J J J J J s6 (λcA dh=>ro T 11 ?_)))))
  cases H;exact p1 T J [1,1,1,1,1,0] ⟨rn,cA,a8,n8,H8,wQ,xy,wK,dh,s8,tg,J,J⟩ J
 refine rc T 9 (cb J H (λH=>?_) (λH=>?_))
 ·refine rc T 10 (du mix ay (au T J (au T J (au T J (aO J J J (aw T J J J J (aH (j:=0) J J)) (au T J (au T J (au T J (aO J J J (aw T J J J J (aH (j:=0) J J)) (au T J (au T J (au T J (aO J J J (aw T J J J J (aH (j:=4) J J)) (au T J ?_))))))))))))));obtain⟨v4,Yf,H⟩:=f_ H;refine tQ J J J J J J Ao J (mf.c Yf) (au T J (cZ (rx T 2 (mq H [0,1,7] [5,0,0,0,0,0] (λz6 (x5:Bool)=>(x5=z6,[(40,(bb x5))],[])) J J (λz6 bc _=>?_) ?_))))
  ·refine rc T 4 (ad 33 J bc (λbc=>?_) (λbc=>?_))
   ·refine ro T 9 (am _ [5,0,0,0,0,0] (oi bc) J J)
   refine ro T 3 (lf T 0 J (ro T 1 (br J (pV (k:=v4) T (Ky.int .i64 u3) (λx:Bool=>Value.bool x) J J J J J (oB tj (j:=1) J)) (ro T 3 (am _ [5,0,0,0,0,0] (oi bc) J J)))))
  rintro _ x5 rfl H;refine cb J H (λH=>?_) (λH=>?_)
  ·refine rc T 10 ?_
   cases H;exact p1 T J [1,1,1,1,1,0] ⟨rn,Ds,Dy,El,Dr,wQ,xy,wK,tj,zy,tg,J,J⟩ J
  refine rc T 3 (fz J (rz [8] mix (bP bO) (λhg pf=>ha T 6 [0,1,2] sz hg pf J (av 3 sz hg pf J (aw T J J J J (aH (j:=1) J J)) (ha T 2 [4,5,6] sz hg pf J (av 7 sz hg pf J (aw T J J J J (aH (j:=5) J J)) (ao 8 (DB (g:=2) (m:=ag.jQ) (k:=u.Cell) T (Ky.int .i64 u3) (λx:Bool=>Value.bool x) J J J J J J J J tj (λdz dJ=>an sl (ae (rx T 7 (sg T 5 J (ro T 3 (ks [0,1,7] J (fz J (rg [12,15] [0,0,0,0,0,0] mix (bP bO) (λhg pf=>ha T 12 [0,1,2,3] sz hg pf J (av 4 sz hg pf J (aw T J J J J (aH (j:=1) J J)) (ha T 8 [5,6,7] sz hg pf J (av 8 sz hg pf J (aw T J J J J (aH (j:=5) J J)) (ha T 5 [9,10] sz hg pf J (ao 11 (cU (k:=jv) T [(fg.mk u.Id v4)] J J J J J J J J J (λdF eI dn=>an (so [0,0,0,0,0,0]) (ao 12 ?_)))))))))))))))))))))))));obtain⟨pa,H⟩:=az H;refine d_ (k:=jv) (xs:=ag.ku) T (g:=3) J J J J J J J J J J zy (oO dn 6) pa J (λiE n14 fI gh=>an sl (hb T 13 sl hg pf J (hb T 14 sl hg pf J (ao 15 (sf T 1 J (an sl (ae (rx T 1 (rc T 7 (lf T 5 J (ro T 3 (cb J H (λH=>?_) (λH=>?_)))))))))))))
  ·refine rc T 1 (ke [0,1] [0,0,0,0,0,0] J J (fz J (rg [10,13] [0,0,0,0,0,0] mix (bP bO) (λhg pf=>ha T 10 [0,1,2,3] sz hg pf J (av 4 sz hg pf J (aw T J J J J (aH (j:=1) J J)) (ha T 6 [5,6,7] sz hg pf J (av 8 sz hg pf J (aw T J J J J (aH (j:=5) J J)) (ao 9 (cU (k:=(Fl.int .i64)) T [u.Id] J J J J J J J J J (λjE dE dN=>an (so [0,0,0,0,0,0]) (ao 10 ?_)))))))))));obtain⟨pQ,H⟩:=az H;refine d_ (k:=(Fl.int .i64)) (xs:=ag.gone) T (g:=4) J J J J J J J J J J tg (oO dN 6) pQ J (λjV n16 fN fj=>an sl (hb T 11 sl hg pf J (hb T 12 sl hg pf J (ao 13 (sf T 1 J (an sl (ae (rx T 1 (rc T 10 ?_)))))))))
   cases H;exact p1 T J [1,1,1,1,1,0] ⟨rn,dz,iE,n14,fI,jV,n16,fN,dJ,gh,fj,J,J⟩ J
  refine rc T 6 (lf T 1 J (ro T 1 (aX (pP (g:=2) (m:=(dT ag.jQ u.Cell)) (k:=v4) (v:=true) T (Ky.int .i64 u3) (λx:Bool=>Value.bool x) J J J J J J J dJ (λez fw=>ro T 11 ?_)))))
  cases H;exact p1 T J [1,1,1,1,1,0] ⟨rn,ez,iE,n14,fI,wQ,xy,wK,fw,gh,tg,J,J⟩ J
 refine rc T 9 (cb J H (λH=>?_) (λH=>?_))
 ·refine rc T 10 (du mix ay (au T J (au T J (au T J (aO J J J (aw T J J J J (aH (j:=0) J J)) (au T J (au T J (au T J (aO J J J (aw T J J J J (aH (j:=0) J J)) (au T J (au T J (au T J (aO J J J (aw T J J J J (aH (j:=4) J J)) (au T J ?_))))))))))))));obtain⟨v7,Qa,H⟩:=f_ H;refine tQ J J J J J J Ao J (mf.c Qa) (au T J (cZ (rx T 2 (mq H [0,1,7] [5,0,0,0,0,0] (λz9 (x8:Bool)=>(x8=z9,[(40,(bb x8))],[])) J J (λz9 cY _=>?_) ?_))))
  ·refine rc T 4 (ad 33 J cY (λcY=>?_) (λcY=>?_))
   ·refine ro T 9 (am _ [5,0,0,0,0,0] (oi cY) J J)
   refine ro T 3 (lf T 0 J (ro T 1 (br J (pV (k:=v7) T (Ky.int .i64 u3) (λx:Bool=>Value.bool x) J J J J J (oB tj (j:=1) J)) (ro T 3 (am _ [5,0,0,0,0,0] (oi cY) J J)))))
  rintro _ x8 rfl H;refine cb J H (λH=>?_) (λH=>?_)
  ·refine rc T 10 ?_
   cases H;exact p1 T J [1,1,1,1,1,0] ⟨rn,Ds,Dy,El,Dr,wQ,xy,wK,tj,zy,tg,J,J⟩ J
  refine rc T 3 (fz J (rz [8] mix (bP bO) (λhg pf=>ha T 6 [0,1,2] sz hg pf J (av 3 sz hg pf J (aw T J J J J (aH (j:=1) J J)) (ha T 2 [4,5,6] sz hg pf J (av 7 sz hg pf J (aw T J J J J (aH (j:=5) J J)) (ao 8 (DB (g:=2) (m:=ag.jQ) (k:=u.Cell) T (Ky.int .i64 u3) (λx:Bool=>Value.bool x) J J J J J J J J tj (λe_ fk=>an sl (ae (rx T 7 (sg T 5 J (ro T 3 (ks [0,1,7] J (fz J (rg [12,15] [0,0,0,0,0,0] mix (bP bO) (λhg pf=>ha T 12 [0,1,2,3] sz hg pf J (av 4 sz hg pf J (aw T J J J J (aH (j:=1) J J)) (ha T 8 [5,6,7] sz hg pf J (av 8 sz hg pf J (aw T J J J J (aH (j:=5) J J)) (ha T 5 [9,10] sz hg pf J (ao 11 (cU (k:=jv) T [(fg.mk u.Id v7)] J J J J J J J J J (λmj kJ gR=>an (so [0,0,0,0,0,0]) (ao 12 ?_)))))))))))))))))))))))));obtain⟨Ad,H⟩:=az H;refine d_ (k:=jv) (xs:=ag.ku) T (g:=3) J J J J J J J J J J zy (oO gR 6) Ad J (λa20 n20 oa l9=>an sl (hb T 13 sl hg pf J (hb T 14 sl hg pf J (ao 15 (sf T 1 J (an sl (ae (rx T 1 (rc T 7 (lf T 5 J (ro T 3 (cb J H (λH=>?_) (λH=>?_)))))))))))))
  ·refine rc T 1 (ke [0,1] [0,0,0,0,0,0] J J (fz J (rg [10,13] [0,0,0,0,0,0] mix (bP bO) (λhg pf=>ha T 10 [0,1,2,3] sz hg pf J (av 4 sz hg pf J (aw T J J J J (aH (j:=1) J J)) (ha T 6 [5,6,7] sz hg pf J (av 8 sz hg pf J (aw T J J J J (aH (j:=5) J J)) (ao 9 (cU (k:=(Fl.int .i64)) T [u.Id] J J J J J J J J J (λa21 lr jO=>an (so [0,0,0,0,0,0]) (ao 10 ?_)))))))))));obtain⟨Mc,H⟩:=az H;refine d_ (k:=(Fl.int .i64)) (xs:=ag.gone) T (g:=4) J J J J J J J J J J tg (oO jO 6) Mc J (λa22 n22 mC iM=>an sl (hb T 11 sl hg pf J (hb T 12 sl hg pf J (ao 13 (sf T 1 J (an sl (ae (rx T 1 (rc T 10 ?_)))))))))
   cases H;exact p1 T J [1,1,1,1,1,0] ⟨rn,e_,a20,n20,oa,a22,n22,mC,fk,l9,iM,J,J⟩ J
  refine rc T 6 (lf T 1 J (ro T 1 (aX (pP (g:=2) (m:=(dT ag.jQ u.Cell)) (k:=v7) (v:=true) T (Ky.int .i64 u3) (λx:Bool=>Value.bool x) J J J J J J J fk (λjD gS=>ro T 11 ?_)))))
  cases H;exact p1 T J [1,1,1,1,1,0] ⟨rn,jD,a20,n20,oa,wQ,xy,wK,gS,l9,tg,J,J⟩ J
 refine rc T 8 (cb J H (λH=>?_) (λH=>?_))
 ·refine rc T 9 (du mix ay (au T J (au T J (au T J (aO J J J (aw T J J J J (aH (j:=0) J J)) (au T J (au T J (au T J (aO J J J (aw T J J J J (aH (j:=0) J J)) (au T J (au T J (au T J (aO J J J (aw T J J J J (aH (j:=4) J J)) (au T J ?_))))))))))))));obtain⟨v10,Yh,H⟩:=f_ H;refine tQ J J J J J J Ao J (mf.c Yh) (au T J (cZ (rx T 2 (mq H [0,1,7] [5,0,0,0,0,0] (λz12 (bf:Bool)=>(bf=z12,[(40,(bb bf))],[])) J J (λz12 E9 _=>?_) ?_))))
  ·refine rc T 4 (ad 33 J E9 (λE9=>?_) (λE9=>?_))
   ·refine ro T 9 (am _ [5,0,0,0,0,0] (oi E9) J J)
   refine ro T 3 (lf T 0 J (ro T 1 (br J (pV (k:=v10) T (Ky.int .i64 u3) (λx:Bool=>Value.bool x) J J J J J (oB tj (j:=1) J)) (ro T 3 (am _ [5,0,0,0,0,0] (oi E9) J J)))))
  rintro _ bf rfl H;refine cb J H (λH=>?_) (λH=>?_)
  ·refine rc T 10 ?_
   cases H;exact p1 T J [1,1,1,1,1,0] ⟨rn,Ds,Dy,El,Dr,wQ,xy,wK,tj,zy,tg,J,J⟩ J
  refine rc T 3 (fz J (rz [8] mix (bP bO) (λhg pf=>ha T 6 [0,1,2] sz hg pf J (av 3 sz hg pf J (aw T J J J J (aH (j:=1) J J)) (ha T 2 [4,5,6] sz hg pf J (av 7 sz hg pf J (aw T J J J J (aH (j:=5) J J)) (ao 8 (DB (g:=2) (m:=ag.jQ) (k:=u.Cell) T (Ky.int .i64 u3) (λx:Bool=>Value.bool x) J J J J J J J J tj (λoc lj=>an sl (ae (rx T 7 (sg T 5 J (ro T 3 (ks [0,1,7] J (fz J (rg [12,15] [0,0,0,0,0,0] mix (bP bO) (λhg pf=>ha T 12 [0,1,2,3] sz hg pf J (av 4 sz hg pf J (aw T J J J J (aH (j:=1) J J)) (ha T 8 [5,6,7] sz hg pf J (av 8 sz hg pf J (aw T J J J J (aH (j:=5) J J)) (ha T 5 [9,10] sz hg pf J (ao 11 (cU (k:=jv) T [(fg.mk u.Id v10)] J J J J J J J J J (λa25 gL iW=>an (so [0,0,0,0,0,0]) (ao 12 ?_)))))))))))))))))))))))));obtain⟨c30,H⟩:=az H;refine d_ (k:=jv) (xs:=ag.ku) T (g:=3) J J J J J J J J J J zy (oO iW 6) c30 J (λa26 n26 mg lK=>an sl (hb T 13 sl hg pf J (hb T 14 sl hg pf J (ao 15 (sf T 1 J (an sl (ae (rx T 1 (rc T 7 (lf T 5 J (ro T 3 (cb J H (λH=>?_) (λH=>?_)))))))))))))
  ·refine rc T 1 (ke [0,1] [0,0,0,0,0,0] J J (fz J (rg [10,13] [0,0,0,0,0,0] mix (bP bO) (λhg pf=>ha T 10 [0,1,2,3] sz hg pf J (av 4 sz hg pf J (aw T J J J J (aH (j:=1) J J)) (ha T 6 [5,6,7] sz hg pf J (av 8 sz hg pf J (aw T J J J J (aH (j:=5) J J)) (ao 9 (cU (k:=(Fl.int .i64)) T [u.Id] J J J J J J J J J (λIG EW wb=>an (so [0,0,0,0,0,0]) (ao 10 ?_)))))))))));obtain⟨Md,H⟩:=az H;refine d_ (k:=(Fl.int .i64)) (xs:=ag.gone) T (g:=4) J J J J J J J J J J tg (oO wb 6) Md J (λa28 n28 uM j7=>an sl (hb T 11 sl hg pf J (hb T 12 sl hg pf J (ao 13 (sf T 1 J (an sl (ae (rx T 1 (rc T 10 ?_)))))))))
   cases H;exact p1 T J [1,1,1,1,1,0] ⟨rn,oc,a26,n26,mg,a28,n28,uM,lj,lK,j7,J,J⟩ J
  refine rc T 6 (lf T 1 J (ro T 1 (aX (pP (g:=2) (m:=(dT ag.jQ u.Cell)) (k:=v10) (v:=true) T (Ky.int .i64 u3) (λx:Bool=>Value.bool x) J J J J J J J lj (λrh qO=>ro T 11 ?_)))))
  cases H;exact p1 T J [1,1,1,1,1,0] ⟨rn,rh,a26,n26,mg,wQ,xy,wK,qO,lK,tg,J,J⟩ J
 refine rc T 16 ?_
 cases H;exact p1 T J [0,0,0,0,0,0] ⟨rn,Ds,Dy,El,Dr,wQ,xy,wK,tj,zy,tg,J,J⟩ J
def jw.l1:Nat->Int->Int->(List aF)->(List Int)->List aF->Int->Int->(List (Int×Bool))->List fg->List Int->Int->Option ((List aF)×(List fg)×(List Int)×Int)
 |0,_,_,_,_,_,_,_,_,_,_,_=>none
 |pq+1,w,h,l,aM,cX,dV,dx,hJ,di,bW,dy=>if dy<(List.length l:Int) then(if(0<=dy/\dy<(List.length l:Int)) then(if(0<=dy/\dy<(List.length aM:Int)) then((vJ.f (mu.mk dV dx hJ di bW) (rd l dy) (rd aM dy)).bind λv25=>if v25.1=true then(if(List.length cX+1<=1099511627776) then(jw.l1 pq w h l aM (cX++[v25.2.2]) v25.2.1.w v25.2.1.h v25.2.1.jQ v25.2.1.ku v25.2.1.gone (aa (dy+1))) else none) else(jw.l1 pq w h l aM cX v25.2.1.w v25.2.1.h v25.2.1.jQ v25.2.1.ku v25.2.1.gone (aa (dy+1)))) else none) else none) else(some (cX,di,bW,0))
def jw.l0:Nat->Int->Int->(List aF)->(List Int)->(List (Int×Bool))->Int->Option ((List aF)×(List fg)×(List Int)×Int)
 |0,_,_,_,_,_,_=>none
 |k9+1,w,h,l,aM,x7,x8=>if x8<(List.length l:Int) then(if(0<=x8/\x8<(List.length l:Int)) then(jw.l0 k9 w h l aM (cC x7 ((rd l x8).Cell) true) (aa (x8+1))) else none) else(jw.l1 fuel w h l aM [] w h x7 [] [] 0)
def jw.f (w:Int) (h:Int) (l:(List aF)) (aM:(List Int)):Option ((List aF)×(List fg)×(List Int)×Int):=((pB.f w h l).bind λv3=>if((!v3)||((List.length aM:Int)!=(List.length l:Int)))=true then(some true) else((C_.f aM).bind λv4=>some v4)).bind λx1=>if x1=true then(some ([],[],[],1)) else(jw.l0 fuel w h l aM ([]:(List (Int×Bool))) 0)
def jw.R (r:((List aF)×(List fg)×(List Int)×Int)) (u:Value) (G:List Hp):Prop:= ∃(a0:Option Addr) (n0:Nat) (H0:Hp) (a1:Option Addr) (n1:Nat) (H1:Hp) (a2:Option Addr) (n2:Nat) (H2:Hp),aj lI 67 r.1 a0 n0 H0/\aj jv 94 r.2.1 a1 n1 H1/\aj (Fl.int .i64) 3 r.2.2.1 a2 n2 H2/\u=(.tuple #[(ll a0 r.1 n0),(ll a1 r.2.1 n1),(ll a2 r.2.2.1 n2),(ii r.2.2.2)])/\G=[H0,H1,H2]
theorem jw.c (H:jw.f w h l aM=some r) (df:aT lI l ik F) (gu:List.length l<=gZ) (FZ:aT (Fl.int .i64) aM LH F) (Mh:List.length aM<=Oz):
 QR 166 [(ii w),(ii h),(ll ik l gZ),(ll LH aM Oz)] [] [] F (jw.R r):=by
 unfold jw.f at H;refine aD Tryz.func166 J J (λW=>rc T 14 (mq H [0,1,2,3,8] [0] (λz2 (x1:Bool)=>(x1=z2,[(34,(bb x1))],[])) J J (λz2 Z1 _=>?_) ?_))
 ·refine rc T 4 (k [] J TE Z1 (pB.c · (rO df 0) gu) (λv3 Z1=>ro T 2 (go T [6,7,8,9,10,11] 23 [0,1,2,3,8,12] 29 J J J J J J J (ro T 1 (ab 30 J Z1 (λZ1=>?_) (λZ1=>?_))))))
  ·refine ro T 6 (am _ [0] (oi Z1) J J)
  refine ro T 2 (k [] J acW Z1 (C_.c · (rO FZ 0) Mh) (λv4 Z1=>ro T 3 (am _ [0] (oi Z1) J J)))
 rintro _ x1 rfl H;refine cb J H (λH=>?_) (λH=>?_)
 ·refine rc T 10 ?_
  cases H;refine bw (bw (bw (p1 T J [1,1,1,0] ⟨none,0,[],none,0,[],none,0,[],aj.nil,aj.nil,aj.nil,J,J⟩ J)))
 refine rc T 8 (aX (u7 T (Ky.int .i64 u3) (λx:Bool=>Value.bool x) J J J ⟨_,_,J⟩ (λa4 H4 s4=>ro T 1 (nc T J (λb5=>ro T 12 (lq [2,3,8,13,42,43] [0] (λ(⟨k9,x7,x8,a7,H7⟩:Nat×(List (Int×Bool))×Int×Nat×Hp)=>(jw.l0 k9 w h l aM x7 x8=some r/\cM (Ky.int .i64 u3) (λx:Bool=>Value.bool x) x7 a7 H7,[(44,(ii x8))],[(cl b5 309 [(ii w),(ii h),(.map (some a7)),nl,nl]),H7])) J J (fuel,([]:(List (Int×Bool))),0,a4,H4) [0,1,0] ⟨H,s4⟩ J J ?_))))));rintro k9 ⟨x7,x8,a7,H7⟩ ⟨Z6,s7⟩;rw[jw.l0] at Z6;refine rc T 6 (cd J Z6 (λZ6=>?_) (λZ6=>?_))
 ·refine rc T 6 ?_;obtain⟨c8,Z6⟩:=az Z6;obtain⟨q8,o8,e8⟩:=df.addr c8.1 c8.2;refine ix T J e8 c8 (br J (fQ T (cs:=[(ii (rd l x8).Id),(ii (rd l x8).Cell),(ii (rd l x8).Goal)]) J J J J J J (gX (k:=lI) (rO df 0) e8 c8 J)) (nc T J (λb9=>sg T 3 J (ro T 2 (ks [2,3,8,13,15,42,43,44] J (fz J (rz [6] mix (bP bO) (λhg pf=>ha T 4 [0,1,2] sz hg pf J (av 3 sz hg pf J (aw T J J J J (aH (j:=1) J J)) (ha T 2 [4] sz hg pf J (av 5 sz hg pf J (aw T J J J J (aH (j:=3) J J)) (ao 6 (pP (g:=2) (m:=x7) (k:=(rd l x8).Cell) (v:=true) T (Ky.int .i64 u3) (λx:Bool=>Value.bool x) J J J J J J J s7 (λbX bT=>an sl (ae (rx T 7 (ar (_,_,_,_) [0,0,0] ⟨Z6,bT⟩ J J)))))))))))))))))
 refine rc T 14 (bw (bw (bw (lq [3,13,55,56] [0] (λ(⟨pq,cX,dV,dx,hJ,di,bW,dy,jE,n15,dE,jV,fN,a17,n17,ez,iQ,n18,e_⟩:Nat×List aF×Int×Int×(List (Int×Bool))×List fg×List Int×Int×Option Addr×Nat×Hp×Nat×Hp×Option Addr×Nat×Hp×Option Addr×Nat×Hp)=>(jw.l1 pq w h l aM cX dV dx hJ di bW dy=some r/\aj lI 67 cX jE n15 dE/\cM (Ky.int .i64 u3) (λx:Bool=>Value.bool x) hJ jV fN/\aj jv 94 di a17 n17 ez/\aj (Fl.int .i64) 3 bW iQ n18 e_,[(8,(ll jE cX n15)),(57,(ii dy))],[dE,(cl b5 309 [(ii dV),(ii dx),(.map (some jV)),(ll a17 di n17),(ll iQ bW n18)]),fN,ez,e_])) J J (fuel,[],w,h,x7,[],[],0,none,0,[],a7,H7,none,0,[],none,0,[]) [0,2,0,0,0,0] ⟨Z6,aj.nil,s7,aj.nil,aj.nil⟩ J J ?_))));rintro pq ⟨cX,dV,dx,hJ,di,bW,dy,jE,n15,dE,jV,fN,a17,n17,ez,iQ,n18,e_⟩ ⟨Z9,dN,fj,fw,fk⟩;rw[jw.l1] at Z9;refine rc T 6 (cd J Z9 (λZ9=>?_) (λZ9=>?_))
 ·refine rc T 7 ?_;obtain⟨dG,Z9⟩:=az Z9;obtain⟨q19,o19,FJ⟩:=df.addr dG.1 dG.2;refine ix T J FJ dG (br J (fQ T (cs:=[(ii (rd l dy).Id),(ii (rd l dy).Cell),(ii (rd l dy).Goal)]) J J J J J J (gX (k:=lI) (rO df 0) FJ dG J)) (nc T J (λI1=>ro T 1 (sg T 6 J (ro T 7 ?_)))));obtain⟨gU,Z9⟩:=az Z9;obtain⟨CT,Vw,w8⟩:=FZ.addr gU.1 gU.2;refine ix T J w8 gU (le T 0 (rO FZ 0) w8 gU J J (kr (vJ.R b5 I1) [] [2,2,2,2,2] J acX Z9 (vJ.c (ag:=(mu.mk dV dx hJ di bW)) · fj fw fk) (λv25 Z9=>?_)));rintro _ _ ⟨a22,mC,a23,n23,jD,a24,n24,oc,iM,gS,lj,rfl,rfl⟩;refine fz J (ro T 2 (cb J Z9 (λZ9=>?_) (λZ9=>?_)))
  ·refine rc T 2 (lm T 6 J (aX (cU (k:=lI) T [v25.2.2] J J J J J J J J J (λa25 gL iW=>?_))));obtain⟨yH,Z9⟩:=az Z9;refine aX (d_ (k:=lI) (xs:=cX) T (g:=1) J J J J J J J J J J dN (oO iW 7) yH J (λa26 n26 mg lK=>ro T 2 (ke [3,8,13,55,56,57] [0,0,0,0,0,0] J J (rx T 7 (ar (_,_,_,_,_,_,_,_,_,_,_,_,_,_,_,_,_,_) [0,0,0,0,0,0] ⟨Z9,lK,iM,gS,lj⟩ J J)))))
  refine rc T 8 (ar (_,_,_,_,_,_,_,_,_,_,_,_,_,_,_,_,_,_) [0,0,0,0,0,0] ⟨Z9,dN,iM,gS,lj⟩ J J)
 refine rc T 6 (du mix ay ?_)
 iterate 4 refine au T J ?_
 refine aO J J J (aw T J J J J (aH (j:=2) J J)) (au T J (au T J (au T J (aO J J J (aw T J J J J (aH (j:=2) J J)) ?_))))
 iterate 4 refine au T J ?_
 refine cZ (rx T 2 ?_)
 cases Z9;exact p1 T J [1,3,3,0] ⟨jE,n15,dE,a17,n17,ez,iQ,n18,e_,dN,fw,fk,J,J⟩ J
end
noncomputable section
def lN.l0:Nat->eY->List Int->Int->Option (List Int)
 |0,_,_,_=>none
 |k5+1,u,x3,x4=>if x4<(List.length u.order:Int) then(if(0<=x4/\x4<(List.length u.order:Int)) then(if(bN u.live (rd u.order x4))=true then(if(List.length x3+1<=1099511627776) then(lN.l0 k5 u (x3++[(rd u.order x4)]) (aa (x4+1))) else none) else(lN.l0 k5 u x3 (aa (x4+1)))) else none) else(some x3)
def lN.f (u:eY):Option (List Int):=lN.l0 fuel u [] 0
def lN.R (r:(List Int)) (u:Value) (G:List Hp):Prop:= ∃(a0:Option Addr) (n0:Nat) (H0:Hp),aj (Fl.int .i64) 3 r a0 n0 H0/\u=(ll a0 r n0)/\G=[H0]
theorem lN.c (H:lN.f u=some r) (jz:cM (Ky.int .i64 u3) (λx:aF=>Value.agg #[.int .i64 x.Id,.int .i64 x.Cell,.int .i64 x.Goal]) u.live iS ka) (j8:aj (Fl.int .i64) 3 u.order jn jy jm):
 QR 109 [(pp eJ)] [(cl eJ 178 [(ii u.most),(ii u.next),(.map (some iS)),(ll jn u.order jy)]),ka,jm] [(cl eJ 178 [(ii u.most),(ii u.next),(.map (some iS)),(ll jn u.order jy)]),ka,jm] F (lN.R r):=by
 unfold lN.f at H;refine aD Tryz.func109 J J (λW=>rc T 16 (lf T 0 J (ro T 5 (bw (lq [0,11,12] [3,0,0,0] (λ(⟨k5,x3,x4,a5,n5,H5⟩:Nat×List Int×Int×Option Addr×Nat×Hp)=>(lN.l0 k5 u x3 x4=some r/\aj (Fl.int .i64) 3 x3 a5 n5 H5,[(3,(ll a5 x3 n5)),(13,(ii x4))],[H5])) J J (fuel,[],0,none,0,[]) [3,0,0,0,0] ⟨H,aj.nil⟩ J J ?_)))));rintro k5 ⟨x3,x4,a5,n5,H5⟩ ⟨Z1,s5⟩;rw[lN.l0] at Z1;refine rc T 6 (cd J Z1 (λZ1=>?_) (λZ1=>?_))
 ·refine rc T 6 ?_;obtain⟨c3,Z1⟩:=az Z1;obtain⟨q6,o6,e6⟩:=j8.r.addr c3.1 c3.2;refine ix T J e6 c3 (le T 0 (oO j8 3) e6 c3 J J (ro T 8 (lf T 1 J (ro T 1 (br J (pV (k:=(rd u.order x4)) T (Ky.int .i64 u3) (λx:aF=>Value.agg #[.int .i64 x.Id,.int .i64 x.Cell,.int .i64 x.Goal]) J J J J J (oB jz (j:=2) J)) (ro T 3 (nc T J (λb7=>sg T 5 J (ro T 8 (cb J Z1 (λZ1=>?_) (λZ1=>?_)))))))))))
  ·refine rc T 3 (aX (cU (k:=(Fl.int .i64)) T [(rd u.order x4)] J J J J J J J J J (λa8 H8 s8=>?_)));obtain⟨c5,Z1⟩:=az Z1;refine aX (d_ (k:=(Fl.int .i64)) (xs:=x3) T (g:=4) J J J J J J J J J J s5 (oO s8 6) c5 J (λa9 n9 H9 s9=>ro T 9 (ar (_,_,_,_,_) [0,0,0,0,0] ⟨Z1,s9⟩ J J)))
  refine rc T 8 (ar (_,_,_,_,_) [0,0,0,0,0] ⟨Z1,s5⟩ J J)
 refine rc T 12 ?_
 cases Z1;exact p1 T J [4,1,1,1,0] ⟨a5,n5,H5,s5,J,J⟩ J
def oI.l0:Nat->eY->(List Int)->List aF->Int->Option (List aF)
 |0,_,_,_,_=>none
 |k6+1,u,v1,x4,x5=>if x5<(List.length v1:Int) then(if(0<=x5/\x5<(List.length v1:Int)) then(if(List.length x4+1<=1099511627776) then(oI.l0 k6 u v1 (x4++[(aF.mk ((aP u.live (rd v1 x5)).Id) ((aP u.live (rd v1 x5)).Cell) ((aP u.live (rd v1 x5)).Goal))]) (aa (x5+1))) else none) else none) else(some x4)
def oI.f (u:eY):Option (List aF):=(lN.f u).bind λv1=>oI.l0 fuel u v1 [] 0
def oI.R (r:(List aF)) (u:Value) (G:List Hp):Prop:= ∃(a0:Option Addr) (n0:Nat) (H0:Hp),aj lI 67 r a0 n0 H0/\u=(ll a0 r n0)/\G=[H0]
theorem oI.c (H:oI.f u=some r) (jz:cM (Ky.int .i64 u3) (λx:aF=>Value.agg #[.int .i64 x.Id,.int .i64 x.Cell,.int .i64 x.Goal]) u.live iS ka) (j8:aj (Fl.int .i64) 3 u.order jn jy jm):
 QR 81 [(pp eJ)] [(cl eJ 178 [(ii u.most),(ii u.next),(.map (some iS)),(ll jn u.order jy)]),ka,jm] [(cl eJ 178 [(ii u.most),(ii u.next),(.map (some iS)),(ll jn u.order jy)]),ka,jm] F (oI.R r):=by
 unfold oI.f at H;refine aD Tryz.func81 J J (λW=>rc T 12 (eN J (rc T 11 (kr lN.R [0,0,0] [0,0,0] J SS H (lN.c · jz j8) (λv1 H=>?_)))));rintro _ _ ⟨a4,n4,H4,s4,rfl,rfl⟩;refine fz J (ro T 5 (bw (lq [0,9,10] [0,1,1,1,0] (λ(⟨k6,x4,x5,a6,n6,H6⟩:Nat×List aF×Int×Option Addr×Nat×Hp)=>(oI.l0 k6 u v1 x4 x5=some r/\aj lI 67 x4 a6 n6 H6,[(3,(ll a6 x4 n6)),(11,(ii x5))],[H6])) J J (fuel,[],0,none,0,[]) [0,1,1,1,0,0] ⟨H,aj.nil⟩ J J ?_)));rintro k6 ⟨x4,x5,a6,n6,H6⟩ ⟨Z2,s6⟩;rw[oI.l0] at Z2;refine rc T 6 (cd J Z2 (λZ2=>?_) (λZ2=>?_))
 ·refine rc T 6 ?_;obtain⟨c4,Z2⟩:=az Z2;obtain⟨q7,o7,e7⟩:=s4.r.addr c4.1 c4.2;refine ix T J e7 c4 (le T 0 (oO s4 4) e7 c4 J J (ro T 8 (lf T 1 J (ro T 1 (br J (pV (k:=(rd v1 x5)) T (Ky.int .i64 u3) (λx:aF=>Value.agg #[.int .i64 x.Id,.int .i64 x.Cell,.int .i64 x.Goal]) J J J J J (oB jz (j:=2) J)) (aX (cU (k:=lI) T [(aF.mk ((aP u.live (rd v1 x5)).Id) ((aP u.live (rd v1 x5)).Cell) ((aP u.live (rd v1 x5)).Goal))] J J J J J J J J J (λa8 H8 s8=>?_))))))));obtain⟨c5,Z2⟩:=az Z2;refine aX (d_ (k:=lI) (xs:=x4) T (g:=5) J J J J J J J J J J s6 (oO s8 6) c5 J (λa9 n9 H9 s9=>ro T 9 (ar (_,_,_,_,_) [0,0,0,0,0,0] ⟨Z2,s9⟩ J J)))
 refine rc T 12 ?_
 cases Z2;exact p1 T J [5,1,1,1,0] ⟨a6,n6,H6,s6,J,J⟩ J
def ya.f (most:Int):Option (Option eY):=if((decide (most<1))||(decide (most>65536)))=true then(some none) else(some (some (eY.mk most 0 ([]:(List (Int×aF))) [])))
def ya.R (r:(Option eY)) (u:Value) (G:List Hp):Prop:= ∃(u0:Value) (G0:List Hp),X_ r u0 G0/\u=u0/\G=G0
theorem ya.c (H:ya.f most=some r):
 QR 152 [(ii most)] [] [] F (ya.R r):=by
 unfold ya.f at H;refine aD Tryz.func152 J J (λW=>rc T 11 (go T [3,4,5] 5 [0] 8 J J J J J J J (ro T 2 (cb J H (λH=>?_) (λH=>?_)))))
 ·refine rc T 7 ?_
  cases H;exact p1 T J [0] ⟨_,_,⟨J,J⟩,J,J⟩ J
 refine rc T 5 (aX (u7 T (Ky.int .i64 u3) (λx:aF=>Value.agg #[.int .i64 x.Id,.int .i64 x.Cell,.int .i64 x.Goal]) J J J trivial (λa1 H1 s1=>ro T 1 (nc T J (λb2=>ro T 4 ?_)))))
 cases H;refine bw (p1 T J [2,1,1,0] ⟨_,_,⟨b2,a1,H1,none,0,[],s1,aj.nil,J,J⟩,J,J⟩ J)
def wz.f (u:eY):Option Int:=some (List.length u.live:Int)
theorem wz.c (H:wz.f u=some r) (jz:cM (Ky.int .i64 u3) (λx:aF=>Value.agg #[.int .i64 x.Id,.int .i64 x.Cell,.int .i64 x.Goal]) u.live iS ka) (j8:aj (Fl.int .i64) 3 u.order jn jy jm):
 QU 158 [(pp eJ)] [(cl eJ 178 [(ii u.most),(ii u.next),(.map (some iS)),(ll jn u.order jy)]),ka,jm] F (ii r):=by
 unfold wz.f at H;refine aD Tryz.func158 J J (λW=>rc T 12 (eN J (rc T 7 (lf T 0 J (br J (MM T (Ky.int .i64 u3) (λx:aF=>Value.agg #[.int .i64 x.Id,.int .i64 x.Cell,.int .i64 x.Goal]) J J J (oB jz (j:=1) J)) (ro T 4 ?_))))))
 cases H;exact p0 T J [0,0,0,0] J
def wy.f (u:eY) (cell:Int) (goal:Int):Option (Int×Bool×eY):=if(List.length u.live:Int)≥u.most then(some (0,false,u)) else(if(List.length u.order+1<=1099511627776) then(some (u.next,true,(eY.mk u.most (aa (u.next+1)) (cC u.live u.next (aF.mk u.next cell goal)) (u.order++[u.next])))) else none)
def wy.R (eJ:Nat) (r:(Int×Bool×eY)) (u:Value) (G:List Hp):Prop:= ∃(a0:Nat) (H0:Hp) (a1:Option Addr) (n1:Nat) (H1:Hp),cM (Ky.int .i64 u3) (λx:aF=>Value.agg #[.int .i64 x.Id,.int .i64 x.Cell,.int .i64 x.Goal]) r.2.2.live a0 H0/\aj (Fl.int .i64) 3 r.2.2.order a1 n1 H1/\u=(.tuple #[(ii r.1),(bb r.2.1)])/\G=[(cl eJ 178 [(ii r.2.2.most),(ii r.2.2.next),(.map (some a0)),(ll a1 r.2.2.order n1)]),H0,H1]
theorem wy.c (H:wy.f u cell goal=some r) (jz:cM (Ky.int .i64 u3) (λx:aF=>Value.agg #[.int .i64 x.Id,.int .i64 x.Cell,.int .i64 x.Goal]) u.live iS ka) (j8:aj (Fl.int .i64) 3 u.order jn jy jm):
 QR 156 [(pp eJ),(ii cell),(ii goal)] [(cl eJ 178 [(ii u.most),(ii u.next),(.map (some iS)),(ll jn u.order jy)]),ka,jm] [] F (wy.R eJ r):=by
 unfold wy.f at H;refine aD Tryz.func156 J J (λW=>rc T 8 (du mix ay ?_))
 iterate 6 refine au T J ?_
 refine aO J J J (aw T J J J J (aH (j:=0) J J)) (aO J J J (MM T (Ky.int .i64 u3) (λx:aF=>Value.agg #[.int .i64 x.Id,.int .i64 x.Cell,.int .i64 x.Goal]) J J J (oB jz (j:=1) J)) (au T J (au T J (au T J (aO J J J (aw T J J J J (aH (j:=0) J J)) (au T J (au T J (cZ (rx T 1 (cd J H (λH=>?_) (λH=>?_)))))))))))
 ·refine rc T 8 ?_
  cases H;exact p1 T J [0,0,0,0] ⟨iS,ka,jn,jy,jm,jz,j8,J,J⟩ J
 refine rc T 7 (lf T 0 J (ro T 8 (lf T 0 J (ro T 3 (sg T 0 J (ro T 7 (lf T 0 J (ro T 5 (aX (pP (g:=1) (m:=u.live) (k:=u.next) (v:=(aF.mk u.next cell goal)) T (Ky.int .i64 u3) (λx:aF=>Value.agg #[.int .i64 x.Id,.int .i64 x.Cell,.int .i64 x.Goal]) J J J J J J J jz (λH4 s4=>ro T 8 (lf T 0 J (ro T 1 (aX (cU (k:=(Fl.int .i64)) T [u.next] J J J J J J J J J (λa5 H5 s5=>?_))))))))))))))))
 obtain⟨c2,H⟩:=az H;refine aX (d_ (k:=(Fl.int .i64)) (xs:=u.order) T (g:=2) J J J J J J J J J J j8 (oO s5 4) c2 J (λa6 n6 H6 s6=>ro T 2 (sg T 0 J (ro T 1 (ke [8] [0,0,0,0] J J (rx T 9 ?_))))))
 cases H;exact p1 T J [0,0,0,0] ⟨iS,H4,a6,n6,H6,s4,s6,J,J⟩ J
def oJ.f (u:eY) (ai:Int):Option (aF×Bool):=some ((aF.mk ((aP u.live ai).Id) ((aP u.live ai).Cell) ((aP u.live ai).Goal)),(bN u.live ai))
theorem oJ.c (H:oJ.f u ai=some r) (jz:cM (Ky.int .i64 u3) (λx:aF=>Value.agg #[.int .i64 x.Id,.int .i64 x.Cell,.int .i64 x.Goal]) u.live iS ka) (j8:aj (Fl.int .i64) 3 u.order jn jy jm):
 QU 122 [(pp eJ),(ii ai)] [(cl eJ 178 [(ii u.most),(ii u.next),(.map (some iS)),(ll jn u.order jy)]),ka,jm] F (.tuple #[(.agg #[(ii r.1.Id),(ii r.1.Cell),(ii r.1.Goal)]),(bb r.2)]):=by
 unfold oJ.f at H;refine aD Tryz.func122 J J (λW=>rc T 2 (nc T J (λb4=>ro T 10 (eN J (rc T 7 (lf T 0 J (ro T 1 (br J (pV (k:=ai) T (Ky.int .i64 u3) (λx:aF=>Value.agg #[.int .i64 x.Id,.int .i64 x.Cell,.int .i64 x.Goal]) J J J J J (oB jz (j:=1) J)) (ro T 3 (nc T J (λb5=>sg T 5 J (ro T 5 (lm T 5 J (ro T 1 (sg T 4 J (ro T 2 (ke [4,5] [0,0,0,0,0] J J (rx T 1 (rc T 1 ?_)))))))))))))))))))
 cases H;exact pb T J (.cK (j:=4) [(ii (aP u.live ai).Id),(ii (aP u.live ai).Cell),(ii (aP u.live ai).Goal)] J J J J J J J (.tmp J .nil)) [0,0,0,0] () J J
def yc.f (u:eY) (ai:Int):Option (Bool×eY):=(oJ.f u ai).bind λv1=>if(!v1.2)=true then(some (false,u)) else(if(List.length u.order:Int)>(aa (2*(List.length (dT u.live ai):Int))) then((lN.f (eY.mk u.most u.next (dT u.live ai) u.order)).bind λv2=>some (true,(eY.mk u.most u.next (dT u.live ai) v2))) else(some (true,(eY.mk u.most u.next (dT u.live ai) u.order))))
def yc.R (eJ:Nat) (r:(Bool×eY)) (u:Value) (G:List Hp):Prop:= ∃(a0:Nat) (H0:Hp) (a1:Option Addr) (n1:Nat) (H1:Hp),cM (Ky.int .i64 u3) (λx:aF=>Value.agg #[.int .i64 x.Id,.int .i64 x.Cell,.int .i64 x.Goal]) r.2.live a0 H0/\aj (Fl.int .i64) 3 r.2.order a1 n1 H1/\u=(bb r.1)/\G=[(cl eJ 178 [(ii r.2.most),(ii r.2.next),(.map (some a0)),(ll a1 r.2.order n1)]),H0,H1]
theorem yc.c (H:yc.f u ai=some r) (jz:cM (Ky.int .i64 u3) (λx:aF=>Value.agg #[.int .i64 x.Id,.int .i64 x.Cell,.int .i64 x.Goal]) u.live iS ka) (j8:aj (Fl.int .i64) 3 u.order jn jy jm):
 QR 159 [(pp eJ),(ii ai)] [(cl eJ 178 [(ii u.most),(ii u.next),(.map (some iS)),(ll jn u.order jy)]),ka,jm] [] F (yc.R eJ r):=by
 unfold yc.f at H;refine aD Tryz.func159 J J (λW=>rc T 9 (k [0,0,0] J B5 H (oJ.c · jz j8) (λv1 H=>ro T 3 (nc T J (λb4=>sg T 4 J (ro T 10 (cb J H (λH=>?_) (λH=>?_))))))))
 ·refine rc T 7 ?_
  cases H;exact p1 T J [0,0,0,0] ⟨iS,ka,jn,jy,jm,jz,j8,J,J⟩ J
 refine rc T 7 (lf T 0 J (ro T 1 (aX (DB (g:=1) (m:=u.live) (k:=ai) T (Ky.int .i64 u3) (λx:aF=>Value.agg #[.int .i64 x.Id,.int .i64 x.Cell,.int .i64 x.Goal]) J J J J J J J J jz (λH5 s5=>ro T 4 (du mix ay (au T J (au T J (au T J (aO J J J (aw T J J J J (aH (j:=0) J J)) ?_))))))))))
 iterate 4 refine au T J ?_
 refine aO J J J (aw T J J J J (aH (j:=0) J J)) (aO J J J (MM T (Ky.int .i64 u3) (λx:aF=>Value.agg #[.int .i64 x.Id,.int .i64 x.Cell,.int .i64 x.Goal]) J J J (oB s5 (j:=1) J)) (au T J (au T J (cZ (rx T 1 (cd J H (λH=>?_) (λH=>?_)))))))
 ·refine rc T 3 (kr lN.R [0,0,0] [0,0,0] J SS H (lN.c (u:=(eY.mk u.most u.next (dT u.live ai) u.order)) · s5 j8) (λv2 H=>?_))
  rintro _ _ ⟨a6,n6,H6,s6,rfl,rfl⟩;refine fz J (ro T 2 (sg T 3 J (ro T 1 (ke [] [0,1,1,1] J J (rx T 7 ?_)))))
  cases H;exact p1 T J [2,2,1,0] ⟨iS,H5,a6,n6,H6,s5,s6,J,J⟩ J
 refine rc T 8 ?_
 cases H;exact p1 T J [0,0,0,0] ⟨iS,H5,jn,jy,jm,s5,j8,J,J⟩ J
def Bn.f (x:aF) (ai:Int):Option aF:=some (aF.mk x.Id x.Cell ai)
def Bn.R (yD:Nat) (r:aF) (u:Value) (G:List Hp):Prop:=u=(.tuple #[])/\G=[(cl yD 67 [(ii r.Id),(ii r.Cell),(ii r.Goal)])]
theorem Bn.c (H:Bn.f x ai=some r):
 QR 162 [(pp yD),(pp tR)] [(cl yD 67 [(ii x.Id),(ii x.Cell),(ii x.Goal)]),(cl tR 3 [(ii ai)])] [(cl tR 3 [(ii ai)])] F (Bn.R yD r):=by
 unfold Bn.f at H;refine aD Tryz.func162 J J (λW=>rc T 2 (lf T 1 J (ro T 2 (sg T 0 J (ro T 1 (iZ ?_))))))
 cases H;exact p1 T J [0,0,0] ⟨J,J⟩ J
def ye.f (u:eY) (ai:Int) (zn:Int):Option (Bool×eY):=(oJ.f u ai).bind λv1=>if v1.2=true then((Bn.f v1.1 zn).bind λv2=>some (v1.2,(eY.mk u.most u.next (cC u.live ai v2) u.order))) else(some (v1.2,u))
def ye.R (eJ:Nat) (r:(Bool×eY)) (u:Value) (G:List Hp):Prop:= ∃(a0:Nat) (H0:Hp) (a1:Option Addr) (n1:Nat) (H1:Hp),cM (Ky.int .i64 u3) (λx:aF=>Value.agg #[.int .i64 x.Id,.int .i64 x.Cell,.int .i64 x.Goal]) r.2.live a0 H0/\aj (Fl.int .i64) 3 r.2.order a1 n1 H1/\u=(bb r.1)/\G=[(cl eJ 178 [(ii r.2.most),(ii r.2.next),(.map (some a0)),(ll a1 r.2.order n1)]),H0,H1]
theorem ye.c (H:ye.f u ai zn=some r) (jz:cM (Ky.int .i64 u3) (λx:aF=>Value.agg #[.int .i64 x.Id,.int .i64 x.Cell,.int .i64 x.Goal]) u.live iS ka) (j8:aj (Fl.int .i64) 3 u.order jn jy jm):
 QR 161 [(pp eJ),(ii ai),(.func (.func 162) #[] #[(pp Fz)])] [(cl eJ 178 [(ii u.most),(ii u.next),(.map (some iS)),(ll jn u.order jy)]),ka,jm,(cl Fz 3 [(ii zn)])] [(cl Fz 3 [(ii zn)])] F (ye.R eJ r):=by
 unfold ye.f at H;refine aD Tryz.func161 J J (λW=>rc T 9 (k [0,0,0] J B5 H (oJ.c · jz j8) (λv1 H=>ro T 3 (nc T J (λb5=>sg T 5 J (ro T 9 (cb J H (λH=>?_) (λH=>?_))))))))
 ·refine rc T 3 (kr (Bn.R b5) [3] [5,3] J acC H (Bn.c ·) (λv2 H=>?_));rintro _ _ ⟨rfl,rfl⟩;refine fz J (ro T 2 (ks [0,1,7,8] J (fz J (rz [6] mix (bP bO) (λhg pf=>ha T 4 [0,1,2] sz hg pf J (av 3 sz hg pf J (aw T J J J J (aH (j:=0) J J)) (ha T 2 [4] sz hg pf J (av 5 sz hg pf J (gA T 4 J J J J J J J) (ao 6 (pP (g:=1) (m:=u.live) (k:=ai) (v:=v2) T (Ky.int .i64 u3) (λx:aF=>Value.agg #[.int .i64 x.Id,.int .i64 x.Cell,.int .i64 x.Goal]) J J J J J J J jz (λH6 s6=>an sl (ae (rx T 8 ?_)))))))))))))
  cases H;exact p1 T J [0,0,0,2,0] ⟨iS,H6,jn,jy,jm,s6,j8,J,J⟩ J
 refine rc T 9 ?_
 cases H;exact p1 T J [0,0,0,0,0] ⟨iS,ka,jn,jy,jm,jz,j8,J,J⟩ J
def yb.f (u:eY) (ai:Int) (goal:Int):Option (Bool×eY):=(ye.f u ai goal).bind λv1=>some (v1.1,v1.2)
def yb.R (eJ:Nat) (r:(Bool×eY)) (u:Value) (G:List Hp):Prop:= ∃(a0:Nat) (H0:Hp) (a1:Option Addr) (n1:Nat) (H1:Hp),cM (Ky.int .i64 u3) (λx:aF=>Value.agg #[.int .i64 x.Id,.int .i64 x.Cell,.int .i64 x.Goal]) r.2.live a0 H0/\aj (Fl.int .i64) 3 r.2.order a1 n1 H1/\u=(bb r.1)/\G=[(cl eJ 178 [(ii r.2.most),(ii r.2.next),(.map (some a0)),(ll a1 r.2.order n1)]),H0,H1]
theorem yb.c (H:yb.f u ai goal=some r) (jz:cM (Ky.int .i64 u3) (λx:aF=>Value.agg #[.int .i64 x.Id,.int .i64 x.Cell,.int .i64 x.Goal]) u.live iS ka) (j8:aj (Fl.int .i64) 3 u.order jn jy jm):
 QR 126 [(pp eJ),(ii ai),(ii goal)] [(cl eJ 178 [(ii u.most),(ii u.next),(.map (some iS)),(ll jn u.order jy)]),ka,jm] [] F (yb.R eJ r):=by
 unfold yb.f at H;refine aD Tryz.func126 J J (λW=>rc T 2 (nc T J (λb4=>ro T 8 (kr (ye.R eJ) [4] [0,0,0,1] J S9 H (ye.c · jz j8) (λv1 H=>?_)))));rintro _ _ ⟨a5,H5,a6,n6,H6,s5,s6,rfl,rfl⟩;refine fz J (ro T 4 ?_)
 cases H;exact p1 T J [1,1,1,0] ⟨a5,H5,a6,n6,H6,s5,s6,J,J⟩ J
def Bo.f (x:aF) (ai:Int):Option aF:=some (aF.mk x.Id ai x.Goal)
def Bo.R (yD:Nat) (r:aF) (u:Value) (G:List Hp):Prop:=u=(.tuple #[])/\G=[(cl yD 67 [(ii r.Id),(ii r.Cell),(ii r.Goal)])]
theorem Bo.c (H:Bo.f x ai=some r):
 QR 200 [(pp yD),(pp tR)] [(cl yD 67 [(ii x.Id),(ii x.Cell),(ii x.Goal)]),(cl tR 3 [(ii ai)])] [(cl tR 3 [(ii ai)])] F (Bo.R yD r):=by
 unfold Bo.f at H;refine aD Tryz.func200 J J (λW=>rc T 2 (lf T 1 J (ro T 2 (sg T 0 J (ro T 1 (iZ ?_))))))
 cases H;exact p1 T J [0,0,0] ⟨J,J⟩ J
def yf.f (u:eY) (ai:Int) (zn:Int):Option (Bool×eY):=(oJ.f u ai).bind λv1=>if v1.2=true then((Bo.f v1.1 zn).bind λv2=>some (v1.2,(eY.mk u.most u.next (cC u.live ai v2) u.order))) else(some (v1.2,u))
def yf.R (eJ:Nat) (r:(Bool×eY)) (u:Value) (G:List Hp):Prop:= ∃(a0:Nat) (H0:Hp) (a1:Option Addr) (n1:Nat) (H1:Hp),cM (Ky.int .i64 u3) (λx:aF=>Value.agg #[.int .i64 x.Id,.int .i64 x.Cell,.int .i64 x.Goal]) r.2.live a0 H0/\aj (Fl.int .i64) 3 r.2.order a1 n1 H1/\u=(bb r.1)/\G=[(cl eJ 178 [(ii r.2.most),(ii r.2.next),(.map (some a0)),(ll a1 r.2.order n1)]),H0,H1]
theorem yf.c (H:yf.f u ai zn=some r) (jz:cM (Ky.int .i64 u3) (λx:aF=>Value.agg #[.int .i64 x.Id,.int .i64 x.Cell,.int .i64 x.Goal]) u.live iS ka) (j8:aj (Fl.int .i64) 3 u.order jn jy jm):
 QR 161 [(pp eJ),(ii ai),(.func (.func 200) #[] #[(pp Fz)])] [(cl eJ 178 [(ii u.most),(ii u.next),(.map (some iS)),(ll jn u.order jy)]),ka,jm,(cl Fz 3 [(ii zn)])] [(cl Fz 3 [(ii zn)])] F (yf.R eJ r):=by
 unfold yf.f at H;refine aD Tryz.func161 J J (λW=>rc T 9 (k [0,0,0] J B5 H (oJ.c · jz j8) (λv1 H=>ro T 3 (nc T J (λb5=>sg T 5 J (ro T 9 (cb J H (λH=>?_) (λH=>?_))))))))
 ·refine rc T 3 (kr (Bo.R b5) [3] [5,3] J acZ H (Bo.c ·) (λv2 H=>?_));rintro _ _ ⟨rfl,rfl⟩;refine fz J (ro T 2 (ks [0,1,7,8] J (fz J (rz [6] mix (bP bO) (λhg pf=>ha T 4 [0,1,2] sz hg pf J (av 3 sz hg pf J (aw T J J J J (aH (j:=0) J J)) (ha T 2 [4] sz hg pf J (av 5 sz hg pf J (gA T 4 J J J J J J J) (ao 6 (pP (g:=1) (m:=u.live) (k:=ai) (v:=v2) T (Ky.int .i64 u3) (λx:aF=>Value.agg #[.int .i64 x.Id,.int .i64 x.Cell,.int .i64 x.Goal]) J J J J J J J jz (λH6 s6=>an sl (ae (rx T 8 ?_)))))))))))))
  cases H;exact p1 T J [0,0,0,2,0] ⟨iS,H6,jn,jy,jm,s6,j8,J,J⟩ J
 refine rc T 9 ?_
 cases H;exact p1 T J [0,0,0,0,0] ⟨iS,ka,jn,jy,jm,jz,j8,J,J⟩ J
def yd.f (u:eY) (ai:Int) (cell:Int):Option (Bool×eY):=(yf.f u ai cell).bind λv1=>some (v1.1,v1.2)
def yd.R (eJ:Nat) (r:(Bool×eY)) (u:Value) (G:List Hp):Prop:= ∃(a0:Nat) (H0:Hp) (a1:Option Addr) (n1:Nat) (H1:Hp),cM (Ky.int .i64 u3) (λx:aF=>Value.agg #[.int .i64 x.Id,.int .i64 x.Cell,.int .i64 x.Goal]) r.2.live a0 H0/\aj (Fl.int .i64) 3 r.2.order a1 n1 H1/\u=(bb r.1)/\G=[(cl eJ 178 [(ii r.2.most),(ii r.2.next),(.map (some a0)),(ll a1 r.2.order n1)]),H0,H1]
theorem yd.c (H:yd.f u ai cell=some r) (jz:cM (Ky.int .i64 u3) (λx:aF=>Value.agg #[.int .i64 x.Id,.int .i64 x.Cell,.int .i64 x.Goal]) u.live iS ka) (j8:aj (Fl.int .i64) 3 u.order jn jy jm):
 QR 168 [(pp eJ),(ii ai),(ii cell)] [(cl eJ 178 [(ii u.most),(ii u.next),(.map (some iS)),(ll jn u.order jy)]),ka,jm] [] F (yd.R eJ r):=by
 unfold yd.f at H;refine aD Tryz.func168 J J (λW=>rc T 2 (nc T J (λb4=>ro T 8 (kr (yf.R eJ) [4] [0,0,0,1] J S9 H (yf.c · jz j8) (λv1 H=>?_)))));rintro _ _ ⟨a5,H5,a6,n6,H6,s5,s6,rfl,rfl⟩;refine fz J (ro T 4 ?_)
 cases H;exact p1 T J [1,1,1,0] ⟨a5,H5,a6,n6,H6,s5,s6,J,J⟩ J
end
noncomputable section
def ry.f:Option (List aF):=some []
def ry.R (r:(List aF)) (u:Value) (G:List Hp):Prop:= ∃(a0:Option Addr) (n0:Nat) (H0:Hp),aj lI 67 r a0 n0 H0/\u=(ll a0 r n0)/\G=[H0]
theorem ry.c (H:ry.f=some r):
 QR 54 [(.pointer none)] [] [] F (ry.R r):=by
 unfold ry.f at H;refine aD Tryz.func54 J J (λW=>rc T 12 (nh J (rc T 7 ?_)))
 cases H;refine bw (p1 T J [1,0] ⟨none,0,[],aj.nil,J,J⟩ J)
def vd.f (ag:eo):Option (List aF):=(oI.f ag.cR).bind λv1=>some v1
def vd.R (r:(List aF)) (u:Value) (G:List Hp):Prop:= ∃(a0:Option Addr) (n0:Nat) (H0:Hp),aj lI 67 r a0 n0 H0/\u=(ll a0 r n0)/\G=[H0]
theorem vd.c (H:vd.f ag=some r) (cJ:lQ ag aY de):
 QR 54 [(pp aY)] [de] [de] F (vd.R r):=by
 unfold vd.f at H;refine aD Tryz.func54 J J (λW=>rc T 12 (eN J (rc T 3 ?_)));obtain⟨b3,a4,H4,a5,n5,H5,b6,a7,n7,H7,s4,s5,s7,cm⟩:=(λx=>x) cJ;refine bQ 0 (congrArg some cm) (fz J (rc T 4 (lf T 1 J (kr oI.R [2,2,2] [2,2,2] J ad9 H (oI.c · s4 s5) (λv1 H=>?_)))));rintro _ _ ⟨a8,n8,H8,s8,rfl,rfl⟩;refine fz J (ro T 4 ?_)
 cases H;refine dp [1,4,4,4,1,1] J cm (p1 T J [1,1,0] ⟨a8,n8,H8,s8,J,J⟩ J)
def vg.f (w:Int) (h:Int) (most:Int):Option (Option eo):=(nV.f w h).bind λv1=>if(((!v1)||(decide (most<1)))||(decide (most>65536)))=true then(some none) else((ya.f most).bind λv2=>dm v2 ((sG.f (aa (w*h))).bind λv3=>dm v3 (none) (λtG=>none)) (λrZ=>(sG.f (aa (w*h))).bind λv4=>dm v4 (none) (λwF=>some (some (eo.mk w h most rZ wF)))))
def vg.R (r:(Option eo)) (u:Value) (G:List Hp):Prop:= ∃(u0:Value) (G0:List Hp),XW r u0 G0/\u=u0/\G=G0
theorem vg.c (H:vg.f w h most=some r):
 QR 116 [(ii w),(ii h),(ii most)] [] [] F (vg.R r):=by
 unfold vg.f at H;refine aD Tryz.func116 J J (λW=>rc T 10 (k [] J B8 H (nV.c ·) (λv1 H=>ro T 2 (go T [5,6,7] 11 [0,1,2] 14 J J J J J J J (ro T 1 (go T [9,10,11] 15 [0,1,2] 18 J J J J J J J (ro T 2 (cb J H (λH=>?_) (λH=>?_)))))))))
 ·refine rc T 7 ?_
  cases H;exact p1 T J [0] ⟨_,_,⟨J,J⟩,J,J⟩ J
 refine rc T 8 (kr ya.R [] [] J acy H (ya.c ·) (λv2 H=>?_));rintro _ _ ⟨_,_,O4,rfl,rfl⟩;rcases v2 with _ |rZ
 ·replace H:=eV J H;obtain⟨rfl,rfl⟩:=O4;refine ro T 3 (kr sG.R [] [] J S6 H (sG.c ·) (λv3 H=>?_));rintro _ _ ⟨_,_,O6,rfl,rfl⟩;rcases v3 with _ |tG
  ·replace H:=eV J H;obtain⟨rfl,rfl⟩:=O6;refine ro T 1 (nc T J (λb6=>ro T 4 ?_))
   cases H
  replace H:=eW J H;obtain⟨b4,a5,n5,H5,s5,rfl,rfl⟩:=O6;refine ro T 1 (nc T J (λb7=>ro T 4 ?_))
  cases H
 replace H:=eW J H;obtain⟨b1,a2,H2,a3,n3,H3,s2,s3,rfl,rfl⟩:=O4;refine ro T 3 (kr sG.R [] [] J S6 H (sG.c ·) (λv4 H=>?_));rintro _ _ ⟨_,_,O8,rfl,rfl⟩;rcases v4 with _ |wF
 ·replace H:=eV J H;obtain⟨rfl,rfl⟩:=O8;refine ro T 1 (nc T J (λfJ=>ro T 4 ?_))
  cases H
 replace H:=eW J H;obtain⟨b8,a9,n9,H9,s9,rfl,rfl⟩:=O8;refine ro T 1 (nc T J (λjF=>ro T 4 ?_))
 cases H;refine gn [6,1,1,1,1,1] J (p1 T J [1,0] ⟨_,_,⟨jF,(List.flatten [(cl jF 146 [(ii w),(ii h),(ii most),(pp b1),(pp b8)]),(cl b1 178 [(ii rZ.most),(ii rZ.next),(.map (some a2)),(ll a3 rZ.order n3)]),H2,H3,(cl b8 221 [(ll a9 wF.words n9),(ii wF.count)]),H9]),(show lQ (eo.mk w h most rZ wF) jF (List.flatten [(cl jF 146 [(ii w),(ii h),(ii most),(pp b1),(pp b8)]),(cl b1 178 [(ii rZ.most),(ii rZ.next),(.map (some a2)),(ll a3 rZ.order n3)]),H2,H3,(cl b8 221 [(ll a9 wF.words n9),(ii wF.count)]),H9]) from⟨b1,a2,H2,a3,n3,H3,b8,a9,n9,H9,s2,s3,s9,J⟩),J,J⟩,J,J⟩ J)
def Ai.f (ag:eo) (cell:Int):Option Int:=(qz.f ag.floor cell).bind λv1=>some v1
theorem Ai.c (H:Ai.f ag cell=some r) (cJ:lQ ag aY de):
 QU 119 [(pp aY),(ii cell)] [de] F (ii r):=by
 unfold Ai.f at H;refine aD Tryz.func119 J J (λW=>rc T 12 (eN J (rc T 3 ?_)));obtain⟨b3,a4,H4,a5,n5,H5,b6,a7,n7,H7,s4,s5,s7,cm⟩:=(λx=>x) cJ;refine bQ 0 (congrArg some cm) (fz J (rc T 4 (lf T 1 J (ro T 1 (k [5,5] J F1 H (qz.c · s7) (λv1 H=>ro T 4 ?_))))))
 cases H;refine dp [1,1,1,1,1,1] J cm (p0 T J [1,0] J)
def ve.f (ag:eo) (cell:Int):Option Bool:=(gi.f ag.w ag.h cell).bind λv1=>some (decide (v1≥0))
theorem ve.c (H:ve.f ag cell=some r) (cJ:lQ ag aY de):
 QU 123 [(pp aY),(ii cell)] [de] F (bb r):=by
 unfold ve.f at H;refine aD Tryz.func123 J J (λW=>rc T 6 ?_);obtain⟨b3,a4,H4,a5,n5,H5,b6,a7,n7,H7,s4,s5,s7,cm⟩:=(λx=>x) cJ;refine bQ 0 (congrArg some cm) (fz J (du mix ay (au T J (au T J (au T J (aO J J J (aw T J J J J (aH (j:=1) J J)) (au T J (au T J (au T J (aO J J J (aw T J J J J (aH (j:=1) J J)) (au T J ?_)))))))))));obtain⟨v1,V1,H⟩:=f_ H;refine tQ J J J J J J qA J (gi.c V1) (au T J (au T J (cZ (rx T 2 ?_))))
 cases H;refine dp [1,1,1,1,1,1] J cm (p0 T J [1,0] J)
def vf.f (ag:eo) (ai:Int) (cell:Int) (goal:Int):Option Int:=if(ai==0)=true then(((ve.f ag cell).bind λv3=>if(!v3)=true then(some true) else((ve.f ag goal).bind λv4=>some (!v4))).bind λx1=>if x1=true then(some 7) else((qz.f ag.floor cell).bind λv5=>if(v5 !=(-1))=true then(some 10) else((wz.f ag.cR).bind λv6=>if v6≥ag.most then(some 11) else(if(cell==goal)=true then(some 13) else(some 0))))) else(if(ai==1)=true then((qz.f ag.floor cell).bind λv7=>if(v7 !=(-1))=true then(some 10) else((wz.f ag.cR).bind λv8=>if v8≥ag.most then(some 11) else(if(cell==goal)=true then(some 13) else(some 0)))) else(if(ai==2)=true then((wz.f ag.cR).bind λv9=>if v9≥ag.most then(some 11) else(if(cell==goal)=true then(some 13) else(some 0))) else(if(ai==3)=true then(if(cell==goal)=true then(some 13) else(some 0)) else(some 0))))
theorem vf.c (H:vf.f ag ai cell goal=some r) (cJ:lQ ag aY de):
 QU 124 [(pp aY),(ii ai),(ii cell),(ii goal)] [de] F (ii r):=by
 unfold vf.f at H;refine aD Tryz.func124 J J (λW=>rc T 28 (cb J H (λH=>?_) (λH=>?_)))
 ·refine rc T 5 (mq H [0,2,3] [1,0] (λz2 (x1:Bool)=>(x1=z2,[(27,(bb x1))],[])) J J (λz2 Z2 _=>?_) ?_)
  ·refine rc T 3 (k [0] J Nb Z2 (ve.c · cJ) (λv3 Z2=>ro T 2 (ab 22 J Z2 (λZ2=>?_) (λZ2=>?_))))
   ·refine ro T 7 (am _ [1,0] (oi Z2) J J)
   refine ro T 2 (k [0] J Nb Z2 (ve.c · cJ) (λv4 Z2=>ro T 4 (am _ [1,0] (oi Z2) J J)))
  rintro _ x1 rfl H;refine cb J H (λH=>?_) (λH=>?_)
  ·refine rc T 14 ?_
   cases H;exact p0 T J [1,0] J
  refine rc T 4 ?_;obtain⟨b3,a4,H4,a5,n5,H5,b6,a7,n7,H7,s4,s5,s7,cm⟩:=(λx=>x) cJ;refine bQ 1 (congrArg some cm) (fz J (rc T 4 (lf T 1 J (ro T 1 (k [5,5] J F1 H (qz.c · s7) (λv5 H=>ro T 3 (cb J H (λH=>?_) (λH=>?_))))))))
  ·refine rc T 12 ?_
   cases H;refine dp [1,1,1,1,1,1] J cm (p0 T J [1,0] J)
  refine rc T 4 (du mix ay (au T J (au T J (au T J (aO J J J (aw T J J J J (aH (j:=1) J J)) ?_)))));obtain⟨v6,V9,H⟩:=f_ H;refine wS [2,2,2] J J J J J J Nd J (wz.c V9 s4 s5) (au T J (au T J (au T J (aO J J J (aw T J J J J (aH (j:=1) J J)) (au T J (cZ (rx T 1 (cd J H (λH=>?_) (λH=>?_)))))))))
  ·refine rc T 10 ?_
   cases H;refine dp [1,1,1,1,1,1] J cm (p0 T J [1,0] J)
  refine rc T 11 (cb J H (λH=>?_) (λH=>?_))
  ·refine rc T 9 ?_
   cases H;refine dp [1,1,1,1,1,1] J cm (p0 T J [1,0] J)
  refine rc T 11 ?_
  cases H;refine dp [1,1,1,1,1,1] J cm (p0 T J [1,0] J)
 refine rc T 9 (cb J H (λH=>?_) (λH=>?_))
 ·refine rc T 8 ?_;obtain⟨b9,cw,bX,dt,n11,cA,kN,dF,n13,eI,bT,dh,dn,FW⟩:=(λx=>x) cJ;refine bQ 0 (congrArg some FW) (fz J (rc T 4 (lf T 1 J (ro T 1 (k [5,5] J F1 H (qz.c · dn) (λv7 H=>ro T 3 (cb J H (λH=>?_) (λH=>?_))))))))
  ·refine rc T 12 ?_
   cases H;refine dp [1,1,1,1,1,1] J FW (p0 T J [1,0] J)
  refine rc T 4 (du mix ay (au T J (au T J (au T J (aO J J J (aw T J J J J (aH (j:=1) J J)) ?_)))));obtain⟨v8,P_,H⟩:=f_ H;refine wS [2,2,2] J J J J J J Nd J (wz.c P_ bT dh) (au T J (au T J (au T J (aO J J J (aw T J J J J (aH (j:=1) J J)) (au T J (cZ (rx T 1 (cd J H (λH=>?_) (λH=>?_)))))))))
  ·refine rc T 10 ?_
   cases H;refine dp [1,1,1,1,1,1] J FW (p0 T J [1,0] J)
  refine rc T 11 (cb J H (λH=>?_) (λH=>?_))
  ·refine rc T 9 ?_
   cases H;refine dp [1,1,1,1,1,1] J FW (p0 T J [1,0] J)
  refine rc T 11 ?_
  cases H;refine dp [1,1,1,1,1,1] J FW (p0 T J [1,0] J)
 refine rc T 9 (cb J H (λH=>?_) (λH=>?_))
 ·refine rc T 10 ?_;obtain⟨oh,jV,fN,a17,n17,ez,qv,mj,n19,kJ,fj,fw,gR,DQ⟩:=(λx=>x) cJ;refine bQ 0 (congrArg some DQ) (fz J (du mix ay (au T J (au T J (au T J (aO J J J (aw T J J J J (aH (j:=1) J J)) ?_))))));obtain⟨v9,IE,H⟩:=f_ H;refine wS [2,2,2] J J J J J J Nd J (wz.c IE fj fw) (au T J (au T J (au T J (aO J J J (aw T J J J J (aH (j:=1) J J)) (au T J (cZ (rx T 1 (cd J H (λH=>?_) (λH=>?_)))))))))
  ·refine rc T 10 ?_
   cases H;refine dp [1,1,1,1,1,1] J DQ (p0 T J [1,0] J)
  refine rc T 11 (cb J H (λH=>?_) (λH=>?_))
  ·refine rc T 9 ?_
   cases H;refine dp [1,1,1,1,1,1] J DQ (p0 T J [1,0] J)
  refine rc T 11 ?_
  cases H;refine dp [1,1,1,1,1,1] J DQ (p0 T J [1,0] J)
 refine rc T 8 (cb J H (λH=>?_) (λH=>?_))
 ·refine rc T 18 (cb J H (λH=>?_) (λH=>?_))
  ·refine rc T 9 ?_
   cases H;exact p0 T J [0,0] J
  refine rc T 11 ?_
  cases H;exact p0 T J [0,0] J
 refine rc T 19 ?_
 cases H;exact p0 T J [0,0] J
def wZ.f (ag:eo) (cell:Int) (goal:Int):Option (Int×Int×eo):=(vf.f ag 0 cell goal).bind λv1=>if(v1 !=0)=true then(some ((-1),v1,ag)) else((wy.f ag.cR cell goal).bind λv2=>(sE.f ag.floor cell v2.1).bind λv3=>some (v2.1,0,(eo.mk ag.w ag.h ag.most v2.2.2 v3.2)))
def wZ.R (nk:Nat) (r:(Int×Int×eo)) (u:Value) (G:List Hp):Prop:= ∃(H0:Hp),lQ r.2.2 nk H0/\u=(.tuple #[(ii r.1),(ii r.2.1)])/\G=[H0]
theorem wZ.c (H:wZ.f ag cell goal=some r) (cJ:lQ ag aY de):
 QR 121 [(pp aY),(ii cell),(ii goal)] [de] [] F (wZ.R aY r):=by
 unfold wZ.f at H;refine aD Tryz.func121 J J (λW=>rc T 13 (eN J (rc T 8 (k [0] J SV H (vf.c · cJ) (λv1 H=>ro T 9 (cb J H (λH=>?_) (λH=>?_)))))))
 ·refine rc T 9 ?_
  cases H;exact p1 T J [0,0] ⟨de,cJ,J,J⟩ J
 refine rc T 3 ?_;obtain⟨b3,a4,H4,a5,n5,H5,b6,a7,n7,H7,s4,s5,s7,cm⟩:=(λx=>x) cJ;refine bQ 0 (congrArg some cm) (fz J (rc T 4 (lf T 1 J (ro T 2 (kr (wy.R b3) [] [2,2,2] J acA H (wy.c · s4 s5) (λv2 H=>?_))))));rintro _ _ ⟨a8,H8,a9,n9,H9,s8,s9,rfl,rfl⟩;refine fz J (ro T 11 (lf T 1 J (ro T 2 (kr (sE.R b6) [] [2,2] J S7 H (sE.c · s7) (λv3 H=>?_)))));rintro _ _ ⟨cw,n10,bX,bT,rfl,rfl⟩;refine fz J (ro T 10 ?_)
 cases H;refine gn [1,1,1,1,1,1] J (p1 T J [1,0] ⟨(List.flatten [(cl aY 146 [(ii ag.w),(ii ag.h),(ii ag.most),(pp b3),(pp b6)]),(cl b3 178 [(ii v2.2.2.most),(ii v2.2.2.next),(.map (some a8)),(ll a9 v2.2.2.order n9)]),H8,H9,(cl b6 221 [(ll cw v3.2.words n10),(ii v3.2.count)]),bX]),(show lQ (eo.mk ag.w ag.h ag.most v2.2.2 v3.2) aY (List.flatten [(cl aY 146 [(ii ag.w),(ii ag.h),(ii ag.most),(pp b3),(pp b6)]),(cl b3 178 [(ii v2.2.2.most),(ii v2.2.2.next),(.map (some a8)),(ll a9 v2.2.2.order n9)]),H8,H9,(cl b6 221 [(ll cw v3.2.words n10),(ii v3.2.count)]),bX]) from⟨b3,a8,H8,a9,n9,H9,b6,cw,n10,bX,s8,s9,bT,J⟩),J,J⟩ J)
def FH.f (ai:Int) (goal:Int):Option Int:=some 1
theorem FH.c (H:FH.f ai goal=some r):
 QU 89 [(.pointer none),(ii ai),(ii goal)] [] F (ii r):=by
 unfold FH.f at H;refine aD Tryz.func89 J J (λW=>rc T 12 (nh J (rc T 7 ?_)))
 cases H;exact p0 T J [0] J
def pR.f (ag:eo) (u:aF):Option eo:=(yc.f ag.cR u.Id).bind λv1=>(sF.f ag.floor u.Cell).bind λv2=>some (eo.mk ag.w ag.h ag.most v1.2 v2.2)
def pR.R (nk:Nat) (r:eo) (u:Value) (G:List Hp):Prop:= ∃(H0:Hp),lQ r nk H0/\u=(.tuple #[])/\G=[H0]
theorem pR.c (H:pR.f ag u=some r) (cJ:lQ ag aY de):
 QR 125 [(pp aY),(.agg #[(ii u.Id),(ii u.Cell),(ii u.Goal)])] [de] [] F (pR.R aY r):=by
 unfold pR.f at H;refine aD Tryz.func125 J J (λW=>rc T 2 (nc T J (λb2=>ro T 3 ?_)));obtain⟨b4,a5,H5,a6,n6,H6,b7,a8,n8,H8,s5,s6,s8,dq⟩:=(λx=>x) cJ;refine bQ 0 (congrArg some dq) (fz J (ks [0,3] J (fz J (rz [6] mix (bP bO) (λhg pf=>ha T 4 [0,1,2] sz hg pf J (av 3 sz hg pf J (aw T J J J J (aH (j:=2) J J)) (ha T 2 [4] sz hg pf J (av 5 sz hg pf J (aw T J J J J (aH (j:=1) J J)) (ao 6 (kR (yc.R b4) [] [3,3,3] J acB H (yc.c · s5 s6) (λv1 H=>?_)))))))))));rintro _ _ ⟨a9,H9,cw,n10,bX,s9,bT,rfl,rfl⟩;refine fz J (an sl (ae (rx T 1 (ks [0,3] J (fz J (rz [6] mix (bP bO) (λhg pf=>ha T 4 [0,1,2] sz hg pf J (av 3 sz hg pf J (aw T J J J J (aH (j:=2) J J)) (ha T 2 [4] sz hg pf J (av 5 sz hg pf J (aw T J J J J (aH (j:=1) J J)) (ao 6 (kR (sF.R b7) [] [3,3] J S8 H (sF.c · s8) (λv2 H=>?_)))))))))))));rintro _ _ ⟨dt,n11,cA,dh,rfl,rfl⟩;refine fz J (an sl (ae (iZ ?_)))
 cases H;refine gn [2,2,2,2,2,2] J (p1 T J [2,0] ⟨(List.flatten [(cl aY 146 [(ii ag.w),(ii ag.h),(ii ag.most),(pp b4),(pp b7)]),(cl b4 178 [(ii v1.2.most),(ii v1.2.next),(.map (some a9)),(ll cw v1.2.order n10)]),H9,bX,(cl b7 221 [(ll dt v2.2.words n11),(ii v2.2.count)]),cA]),(show lQ (eo.mk ag.w ag.h ag.most v1.2 v2.2) aY (List.flatten [(cl aY 146 [(ii ag.w),(ii ag.h),(ii ag.most),(pp b4),(pp b7)]),(cl b4 178 [(ii v1.2.most),(ii v1.2.next),(.map (some a9)),(ll cw v1.2.order n10)]),H9,bX,(cl b7 221 [(ll dt v2.2.words n11),(ii v2.2.count)]),cA]) from⟨b4,a9,H9,cw,n10,bX,b7,dt,n11,cA,s9,bT,dh,J⟩),J,J⟩ J)
def wY.f (ag:eo) (ai:Int) (goal:Int):Option (Int×eo):=(oJ.f ag.cR ai).bind λv1=>if(!v1.2)=true then(some (12,ag)) else((ve.f ag goal).bind λv2=>if(!v2)=true then(some (7,ag)) else((vf.f ag 3 v1.1.Cell goal).bind λv3=>if(v3 !=0)=true then((pR.f ag v1.1).bind λv4=>some (v3,v4)) else((yb.f ag.cR ai goal).bind λv5=>some (0,(eo.mk ag.w ag.h ag.most v5.2 ag.floor)))))
def wY.R (nk:Nat) (r:(Int×eo)) (u:Value) (G:List Hp):Prop:= ∃(H0:Hp),lQ r.2 nk H0/\u=(ii r.1)/\G=[H0]
theorem wY.c (H:wY.f ag ai goal=some r) (cJ:lQ ag aY de):
 QR 89 [(pp aY),(ii ai),(ii goal)] [de] [] F (wY.R aY r):=by
 unfold wY.f at H;refine aD Tryz.func89 J J (λW=>rc T 12 (eN J (rc T 3 ?_)));obtain⟨b3,a4,H4,a5,n5,H5,b6,a7,n7,H7,s4,s5,s7,cm⟩:=(λx=>x) cJ;refine bQ 0 (congrArg some cm) (fz J (rc T 4 (lf T 1 J (ro T 1 (k [2,2,2] J B5 H (oJ.c · s4 s5) (λv1 H=>ro T 3 (nc T J (λb8=>sg T 7 J (ro T 12 (cb J H (λH=>?_) (λH=>?_)))))))))))
 ·refine rc T 8 ?_
  cases H;refine dp [1,1,1,1,1,1] J cm (p1 T J [2,0] ⟨de,cJ,J,J⟩ J)
 refine rc T 4 ?_;obtain⟨v2,V3,H⟩:=f_ H;refine aX (IV (As:=[(cl aY 146 [(ii ag.w),(ii ag.h),(ii ag.most),(pp b3),(pp b6)]),(cl b3 178 [(ii ag.cR.most),(ii ag.cR.next),(.map (some a4)),(ll a5 ag.cR.order n5)]),H4,H5,(cl b6 221 [(ll a7 ag.floor.words n7),(ii ag.floor.count)]),H7]) [1,1,1,1,1,1] J J J J Nb J J (I' (A:=[de]) (by simp only[cm,List.flatten_cons,List.flatten_append,List.flatten_nil,List.append_nil,List.append_assoc]) (ve.c V3 cJ)) (ro T 4 (cb J H (λH=>?_) (λH=>?_))))
 ·refine rc T 8 ?_
  cases H;refine dp [1,1,1,1,1,1] J cm (p1 T J [2,0] ⟨de,cJ,J,J⟩ J)
 refine rc T 8 (lf T 7 J (ro T 1 ?_));obtain⟨v3,V5,H⟩:=f_ H;refine aX (IV (As:=[(cl aY 146 [(ii ag.w),(ii ag.h),(ii ag.most),(pp b3),(pp b6)]),(cl b3 178 [(ii ag.cR.most),(ii ag.cR.next),(.map (some a4)),(ll a5 ag.cR.order n5)]),H4,H5,(cl b6 221 [(ll a7 ag.floor.words n7),(ii ag.floor.count)]),H7]) [1,1,1,1,1,1] J J J J SV J J (I' (A:=[de]) (by simp only[cm,List.flatten_cons,List.flatten_append,List.flatten_nil,List.append_nil,List.append_assoc]) (vf.c V5 cJ)) (ro T 9 (cb J H (λH=>?_) (λH=>?_))))
 ·refine rc T 3 (lm T 7 J (dp [1,1,1,1,1,1] J cm (kr (pR.R aY) [] [2] J Nc H (pR.c · cJ) (λv4 H=>?_))));rintro _ _ ⟨H9,s9,rfl,rfl⟩;refine fz J (ro T 10 ?_)
  cases H;exact p1 T J [2,0] ⟨H9,s9,J,J⟩ J
 refine rc T 7 (lf T 1 J (ro T 2 (kr (yb.R b3) [] [2,2,2] J aco H (yb.c · s4 s5) (λv5 H=>?_))));rintro _ _ ⟨cw,bX,dt,n11,cA,bT,dh,rfl,rfl⟩;refine fz J (ro T 8 ?_)
 cases H;refine gn [1,4,4,4,1,1] J (p1 T J [2,0] ⟨(List.flatten [(cl aY 146 [(ii ag.w),(ii ag.h),(ii ag.most),(pp b3),(pp b6)]),(cl b3 178 [(ii v5.2.most),(ii v5.2.next),(.map (some cw)),(ll dt v5.2.order n11)]),bX,cA,(cl b6 221 [(ll a7 ag.floor.words n7),(ii ag.floor.count)]),H7]),(show lQ (eo.mk ag.w ag.h ag.most v5.2 ag.floor) aY (List.flatten [(cl aY 146 [(ii ag.w),(ii ag.h),(ii ag.most),(pp b3),(pp b6)]),(cl b3 178 [(ii v5.2.most),(ii v5.2.next),(.map (some cw)),(ll dt v5.2.order n11)]),bX,cA,(cl b6 221 [(ll a7 ag.floor.words n7),(ii ag.floor.count)]),H7]) from⟨b3,cw,bX,dt,n11,cA,b6,a7,n7,H7,bT,dh,s7,J⟩),J,J⟩ J)
def FG.f (ai:Int):Option Int:=some 1
theorem FG.c (H:FG.f ai=some r):
 QU 90 [(.pointer none),(ii ai)] [] F (ii r):=by
 unfold FG.f at H;refine aD Tryz.func90 J J (λW=>rc T 12 (nh J (rc T 7 ?_)))
 cases H;exact p0 T J [0] J
def wX.f (ag:eo) (ai:Int):Option (Int×eo):=(oJ.f ag.cR ai).bind λv1=>if(!v1.2)=true then(some (12,ag)) else((pR.f ag v1.1).bind λv2=>some (0,v2))
def wX.R (nk:Nat) (r:(Int×eo)) (u:Value) (G:List Hp):Prop:= ∃(H0:Hp),lQ r.2 nk H0/\u=(ii r.1)/\G=[H0]
theorem wX.c (H:wX.f ag ai=some r) (cJ:lQ ag aY de):
 QR 90 [(pp aY),(ii ai)] [de] [] F (wX.R aY r):=by
 unfold wX.f at H;refine aD Tryz.func90 J J (λW=>rc T 12 (eN J (rc T 3 ?_)));obtain⟨b3,a4,H4,a5,n5,H5,b6,a7,n7,H7,s4,s5,s7,cm⟩:=(λx=>x) cJ;refine bQ 0 (congrArg some cm) (fz J (rc T 4 (lf T 1 J (ro T 1 (k [2,2,2] J B5 H (oJ.c · s4 s5) (λv1 H=>ro T 3 (nc T J (λb8=>sg T 7 J (ro T 10 (cb J H (λH=>?_) (λH=>?_)))))))))))
 ·refine rc T 7 ?_
  cases H;refine dp [1,1,1,1,1,1] J cm (p1 T J [2,0] ⟨de,cJ,J,J⟩ J)
 refine rc T 5 (lm T 7 J (dp [1,1,1,1,1,1] J cm (kr (pR.R aY) [] [2] J Nc H (pR.c · cJ) (λv2 H=>?_))));rintro _ _ ⟨H9,s9,rfl,rfl⟩;refine fz J (ro T 8 ?_)
 cases H;exact p1 T J [2,0] ⟨H9,s9,J,J⟩ J
def np.l0:Nat->((List aF)×(List fg)×(List Int)×Int)->eo->Int->Option ((List fg)×(List Int)×Int×eo)
 |0,_,_,_=>none
 |k7+1,v2,x5,x6=>if x6<(List.length v2.2.1:Int) then(if(0<=x6/\x6<(List.length v2.2.1:Int)) then(((oJ.f x5.cR ((rd v2.2.1 x6).Id)).bind λv12=>some (v12.1.Id,v12.1.Cell,v12.1.Goal)).bind λ(x8,x9,aN)=>if((rd v2.2.1 x6).To==aN)=true then((pR.f x5 (aF.mk x8 x9 aN)).bind λcg=>np.l0 k7 v2 cg (aa (x6+1))) else((xa.f x5.floor x9 ((rd v2.2.1 x6).To)).bind λcS=>(yd.f x5.cR ((rd v2.2.1 x6).Id) ((rd v2.2.1 x6).To)).bind λbR=>np.l0 k7 v2 (eo.mk x5.w x5.h x5.most bR.2 cS.2) (aa (x6+1)))) else none) else(some (v2.2.1,v2.2.2.1,0,x5))
def np.f (ag:eo) (aM:(List Int)):Option ((List fg)×(List Int)×Int×eo):=(vd.f ag).bind λv1=>(jw.f ag.w ag.h v1 aM).bind λv2=>if(v2.2.2.2 !=0)=true then(some ([],[],v2.2.2.2,ag)) else(np.l0 fuel v2 ag 0)
def np.R (nk:Nat) (r:((List fg)×(List Int)×Int×eo)) (u:Value) (G:List Hp):Prop:= ∃(a0:Option Addr) (n0:Nat) (H0:Hp) (a1:Option Addr) (n1:Nat) (H1:Hp) (H2:Hp),aj jv 94 r.1 a0 n0 H0/\aj (Fl.int .i64) 3 r.2.1 a1 n1 H1/\lQ r.2.2.2 nk H2/\u=(.tuple #[(ll a0 r.1 n0),(ll a1 r.2.1 n1),(ii r.2.2.1)])/\G=[H0,H1,H2]
theorem np.c (H:np.f ag aM=some r) (cJ:lQ ag aY de) (FZ:aT (Fl.int .i64) aM LH F) (Mh:List.length aM<=Oz):
 QR 129 [(pp aY),(ll LH aM Oz)] [de] [] F (np.R aY r):=by
 unfold np.f at H;refine aD Tryz.func129 J J (λW=>rc T 14 (eN J (rc T 3 ?_)));obtain⟨b3,a4,H4,a5,n5,H5,b6,a7,n7,H7,s4,s5,s7,cm⟩:=(λx=>x) cJ;refine bQ 0 (congrArg some cm) (fz J (fz J (rg [] [0,0,0,0,0,0,0] mix (bP bO) (λhg pf=>ha T 17 [0,1,2] sz hg pf J (av 3 sz hg pf J (aw T J J J J (aH (j:=1) J J)) (ha T 13 [4,5,6] sz hg pf J (av 7 sz hg pf J (aw T J J J J (aH (j:=1) J J)) (ha T 10 [8,10] sz hg pf J (ao 9 ?_)))))))));obtain⟨v1,V1,H⟩:=f_ H;refine Fq (As:=[(cl aY 146 [(ii ag.w),(ii ag.h),(ii ag.most),(pp b3),(pp b6)]),(cl b3 178 [(ii ag.cR.most),(ii ag.cR.next),(.map (some a4)),(ll a5 ag.cR.order n5)]),H4,H5,(cl b6 221 [(ll a7 ag.floor.words n7),(ii ag.floor.count)]),H7]) (vd.R v1) [(cl aY 146 [(ii ag.w),(ii ag.h),(ii ag.most),(pp b3),(pp b6)]),(cl b3 178 [(ii ag.cR.most),(ii ag.cR.next),(.map (some a4)),(ll a5 ag.cR.order n5)]),H4,H5,(cl b6 221 [(ll a7 ag.floor.words n7),(ii ag.floor.count)]),H7] [1,1,1,1,1,1] J J J J JK J J (Ja (A:=[de]) (A2:=[de]) (by simp only[cm,List.flatten_cons,List.flatten_append,List.flatten_nil,List.append_nil,List.append_assoc]) (by simp only[cm,List.flatten_cons,List.flatten_append,List.flatten_nil,List.append_nil,List.append_assoc]) (vd.c V1 cJ)) ?_
 rintro _ _ ⟨a8,n8,H8,s8,rfl,rfl⟩;refine fz J (an (so [0,1,1,1,1,1,1]) (ao 11 (kR jw.R [] [] J acE H (jw.c · (oO s8 1) s8.bY (rO FZ 0) Mh) (λv2 H=>?_))));rintro _ _ ⟨a9,n9,H9,cw,n10,bX,dt,n11,cA,s9,bT,dh,rfl,rfl⟩;refine fz J (an (so [0,1,1,1,1,1,1]) (ha T 0 [12,13,14,15,16,17,18,19] (so [0,1,1,1,1,1,1]) hg pf J (ae (rx T 8 (cb J H (λH=>?_) (λH=>?_))))))
 ·refine rc T 10 ?_
  cases H;refine dp [2,2,2,2,2,2] J cm (bw (bw (p1 T J [6,6,5,0] ⟨none,0,[],none,0,[],de,aj.nil,aj.nil,cJ,J,J⟩ J)))
 refine rc T 11 (dp [2,2,2,2,2,2] J cm (lq [0,4,5,33,34] [0,2,2] (λ(⟨k7,x5,x6,dE⟩:Nat×eo×Int×Hp)=>(np.l0 k7 v2 x5 x6=some r/\lQ x5 aY dE,[(35,(ii x6))],[dE])) J J (fuel,ag,0,de) [0,2,2,2] ⟨H,cJ⟩ J J ?_));rintro k7 ⟨x5,x6,dE⟩ ⟨Z4,dN⟩;rw[np.l0] at Z4;refine rc T 6 (cd J Z4 (λZ4=>?_) (λZ4=>?_))
 ·refine rc T 6 ?_;obtain⟨c6,Z4⟩:=az Z4;obtain⟨q16,o16,FI⟩:=bT.r.addr c6.1 c6.2;refine ix T J FI c6 (br J (fQ T (cs:=[(ii (rd v2.2.1 x6).Id),(ii (rd v2.2.1 x6).To)]) J J J J J J (gX (k:=jv) (oO bT 1) FI c6 J)) (nc T J (λz7=>sg T 4 J (ro T 2 (mq Z4 [0,4,5,8,33,34,35] [0,2,0,0,0] (λlO (⟨x8,x9,aN,qv⟩:Int×Int×Int×Nat)=>((x8,x9,aN)=lO,[(9,(pp qv))],[(cl qv 67 [(ii x8),(ii x9),(ii aN)])])) J J (λlO Z7 _=>?_) ?_)))))
  ·obtain⟨I1,a21,lr,a22,n22,mC,ZS,a24,n24,oc,jO,iM,lj,FV⟩:=(λx=>x) dN;refine bQ 3 (congrArg some FV) (fz J (ks [0,4,5,8,33,34,35] J (fz J (rz [] mix (bP bO) (λhg pf=>ha T 10 [0,1,2] sz hg pf J (av 3 sz hg pf J (aw T J J J J (aH (j:=4) J J)) (ha T 8 [4] sz hg pf J (av 5 sz hg pf J (aw T J J J J (aH (j:=3) J J)) (gB 6 10 ?_ ?_)))))))))
   ·refine kh [5,5,5] J B5 Z7 (oJ.c · jO iM) (λv12 Z7=>an sz (ha T 3 [7,8,9] sz hg pf J (ao 10 (nw T J (λkP=>an (so [0,0,0,0,0,0,0,0,0,0]) (ao 11 (sf T 10 J (an (so [0,0,0,0,0,0,0,0,0,0]) (ha T 0 [12] (so [0,0,0,0,0,0,0,0,0,0]) hg pf J (ae (rx T 1 (dp [4,4,4,4,4,4] J FV (am (_,_,_,_) [0,4,0,0,0,0] (oi Z7) J J)))))))))))))
   refine nw T J (λkQ=>an (so [0,0,0,0,0,0,0,0,0,0]) (ao 6 (kh [5,5,5] J B5 Z7 (oJ.c · jO iM) (λlp Z7=>an (so [0,0,0,0,0,0,0,0,0,0]) (ha T 2 [7,8,9] (so [0,0,0,0,0,0,0,0,0,0]) hg pf J (ao 11 (sf T 10 J (an (so [0,0,0,0,0,0,0,0,0,0]) (ha T 0 [12] (so [0,0,0,0,0,0,0,0,0,0]) hg pf J (ae (rx T 1 (dp [4,4,4,4,4,4] J FV (am (_,_,_,_) [0,4,0,0,0,0] (oi Z7) J J)))))))))))))
  rintro _ ⟨x8,x9,aN,qv⟩ rfl Z4;refine rc T 4 (lf T 4 J (ro T 1 (lf T 5 J (ro T 3 (cb J Z4 (λZ4=>?_) (λZ4=>?_))))))
  ·refine rc T 3 (lm T 5 J (kr (pR.R aY) [] [1] J Nc Z4 (pR.c (u:=(aF.mk x8 x9 aN)) · dN) (λcg Z4=>?_)));rintro _ _ ⟨EW,wb,rfl,rfl⟩;refine fz J (ro T 11 (ar (_,_,_) [0,0,0,2] ⟨Z4,wb⟩ J J))
  refine rc T 3 ?_;obtain⟨z_,yz,pL,a31,n31,Bv,wT,a33,n33,Iu,nM,zu,wc,Jz⟩:=(λx=>x) dN;refine bQ 1 (congrArg some Jz) (fz J (fz J (rz [8] mix (bP bO) (λhg pf=>ha T 6 [0,1,2] sz hg pf J (av 3 sz hg pf J (aw T J J J J (aH (j:=5) J J)) (ha T 4 [4] sz hg pf J (av 5 sz hg pf J (aw T J J J J (aH (j:=4) J J)) (ha T 2 [6] sz hg pf J (av 7 sz hg pf J (aw T J J J J (aH (j:=3) J J)) (ao 8 (kR (xa.R wT) [] [9,9] J acF Z4 (xa.c · wc) (λcS Z4=>?_))))))))))));rintro _ _ ⟨E_,n34,tJ,uC,rfl,rfl⟩;refine fz J (an sl (ae (rx T 1 (ke [0,4,5,8,33,34,35] [0,0,0,0,1,1,1,1,1,1] J J (fz J (rz [8] mix (bP bO) (λhg pf=>ha T 6 [0,1,2] sz hg pf J (av 3 sz hg pf J (aw T J J J J (aH (j:=4) J J)) (ha T 4 [4] sz hg pf J (av 5 sz hg pf J (aw T J J J J (aH (j:=3) J J)) (ha T 2 [6] sz hg pf J (av 7 sz hg pf J (aw T J J J J (aH (j:=3) J J)) (ao 8 (kR (yd.R z_) [] [5,5,5] J acG Z4 (yd.c · nM zu) (λbR Z4=>?_)))))))))))))));rintro _ _ ⟨a35,zQ,zY,n36,zR,A6,C0,rfl,rfl⟩;refine fz J (an sl (ae (rx T 7 (gn [4,6,6,6,4,4] J (ar (_,_,_) [0,0,0,1] ⟨Z4,(show lQ (eo.mk x5.w x5.h x5.most bR.2 cS.2) aY (List.flatten [(cl aY 146 [(ii x5.w),(ii x5.h),(ii x5.most),(pp z_),(pp wT)]),(cl z_ 178 [(ii bR.2.most),(ii bR.2.next),(.map (some a35)),(ll zY bR.2.order n36)]),zQ,zR,(cl wT 221 [(ll E_ cS.2.words n34),(ii cS.2.count)]),tJ]) from⟨z_,a35,zQ,zY,n36,zR,wT,E_,n34,tJ,A6,C0,uC,J⟩)⟩ J J)))))
 refine rc T 15 ?_
 cases Z4;exact p1 T J [1,1,1,0] ⟨cw,n10,bX,dt,n11,cA,dE,bT,dh,dN,J,J⟩ J
end
noncomputable section
def jc.f (g:bA) (cell:Int):Option Int:=(if cell<0 then(some true) else(some (decide (cell≥(List.length g.m.C:Int))))).bind λx1=>if x1=true then(some 0) else(if(0<=cell/\cell<(List.length g.m.C:Int)) then(some (aa (rd g.m.C cell))) else none)
theorem jc.c (H:jc.f g cell=some r) (fC:iC g fa fY):
 QU 141 [(pp fa),(ii cell)] [fY] F (ii r):=by
 unfold jc.f at H;refine aD Tryz.func141 J J (λW=>rc T 6 (mq H [0,1] [1,0] (λz2 (x1:Bool)=>(x1=z2,[(20,(bb x1))],[])) J J (λz2 Z1 _=>?_) ?_))
 ·obtain⟨a3,n3,H3,a4,n4,H4,s3,s4,cm⟩:=(λx=>x) fC;refine bQ 0 (congrArg some cm) (fz J (rc T 8 (ad 11 J Z1 (λZ1=>?_) (λZ1=>?_))))
  ·refine ro T 11 (dp [1,1,1] J cm (am _ [0,0] (oi Z1) J J))
  refine ro T 5 (lf T 1 J (ro T 5 (dp [1,1,1] J cm (am _ [0,0] (oi Z1) J J))))
 rintro _ x1 rfl H;refine cb J H (λH=>?_) (λH=>?_)
 ·refine rc T 7 ?_
  cases H;exact p0 T J [1,0] J
 refine rc T 3 ?_;obtain⟨a6,n6,H6,a7,n7,H7,s6,s7,rD⟩:=(λx=>x) fC;refine bQ 1 (congrArg some rD) (fz J (rc T 5 (lf T 1 J (ro T 1 ?_))));obtain⟨c4,H⟩:=az H;obtain⟨q8,o8,e8⟩:=s6.r.addr c4.1 c4.2;refine ix T J e8 c4 (le T 0 (oO s6 2) e8 c4 J J (ro T 5 ?_))
 cases H;refine dp [1,1,1] J rD (p0 T J [1,0] J)
def FT.f:Option Int:=some 0
theorem FT.c (H:FT.f=some r):
 QU 136 [(.pointer none)] [] F (ii r):=by
 unfold FT.f at H;refine aD Tryz.func136 J J (λW=>rc T 12 (nh J (rc T 7 ?_)))
 cases H;exact p0 T J [0] J
def lX.l0:Nat->aL->Int->(List Int)->(Int×Int)->List Int->Int->Option (Option bA)
 |0,_,_,_,_,_,_=>none
 |k8+1,m,bL,v2,v3,x6,x7=>if x7<(List.length (List.replicate (Int.toNat (aa (v3.1*v3.2))) (0:Int)):Int) then(if(0<=x7/\x7<(List.length x6:Int)) then(lX.l0 k8 m bL v2 v3 (List.set x6 (Int.toNat x7) (aa (bL+1))) (aa (x7+1))) else none) else(some (some (bA.mk (aL.mk m.W m.H v2) (aa (bL+1)) x6)))
def lX.f (m:aL) (bL:Int):Option (Option bA):=(yB.f m).bind λv1=>if(((!v1)||(decide (bL<0)))||(decide (bL>4611686018427387904)))=true then(some none) else((nQ.f m.C).bind λv2=>(ql.f m.W m.H).bind λv3=>if(0<=(aa (v3.1*v3.2))/\(aa (v3.1*v3.2))<=1099511627776) then(lX.l0 fuel m bL v2 v3 (List.replicate (Int.toNat (aa (v3.1*v3.2))) (0:Int)) 0) else none)
def lX.R (r:(Option bA)) (u:Value) (G:List Hp):Prop:= ∃(u0:Value) (G0:List Hp),XY r u0 G0/\u=u0/\G=G0
theorem lX.c (H:lX.f m bL=some r) (sI:aT (Fl.int .u8) m.C oW F) (va:List.length m.C<=oC):
 QR 149 [(.agg #[(ii m.W),(ii m.H),(ll oW m.C oC)]),(ii bL)] [] [] F (lX.R r):=by
 unfold lX.f at H;refine aD Tryz.func149 J J (λW=>rc T 2 (nc T J (λb1=>ro T 6 (lm T 1 J (k [] J S0 H (yB.c · (rO sI 0) va) (λv1 H=>ro T 2 (go T [4,5,6] 12 [1,2] 15 J J J J J J J (ro T 1 (go T [8,9,10] 16 [1,2] 19 J J J J J J J (ro T 2 (cb J H (λH=>?_) (λH=>?_))))))))))))
 ·refine rc T 7 ?_
  cases H;exact p1 T J [0] ⟨_,_,⟨J,J⟩,J,J⟩ J
 refine rc T 5 (lf T 1 J (kr nQ.R [] [] J M8 H (nQ.c · (rO sI 0) va) (λv2 H=>?_)));rintro _ _ ⟨a2,n2,H2,s2,rfl,rfl⟩;refine fz J (ro T 1 (sg T 1 J (ro T 5 (lf T 1 J (ro T 1 (lf T 1 J (k [] J F7 H (ql.c ·) (λv3 H=>ro T 8 (ks [1,2,5,6] J (fz J (rg [] [0,0,0] mix (bP bO) (λhg pf=>av 0 sz hg pf J (gA T 1 J J J J J J J) (ha T 4 [1,2,3,4,5] sz hg pf J (ao 6 ?_))))))))))))));obtain⟨c5,H⟩:=az H;refine u6 (k:=(Fl.int .i64)) T (0:Int) J J J J J J J J c5 J (λa3 n3 H3 s3=>an (so [0,0,0]) (ha T 2 [7] (so [0,0,0]) hg pf J (ao 8 (nw T J (λb4=>an (so [0,0,0]) (ha T 0 [9] (so [0,0,0]) hg pf J (ae (rx T 7 (lf T 4 J (ro T 5 (lq [7,45] [0,1] (λ(⟨k8,x6,x7,a6,n6,H6⟩:Nat×List Int×Int×Option Addr×Nat×Hp)=>(lX.l0 k8 m bL v2 v3 x6 x7=some r/\aj (Fl.int .i64) 2 x6 a6 n6 H6,[(46,(ii x7))],[(cl b4 167 [(ii m.W),(ii m.H),(ll a2 v2 n2),(ii (aa (bL+1))),(ll a6 x6 n6)]),H6])) J J (fuel,(List.replicate (Int.toNat (aa (v3.1*v3.2))) (0:Int)),0,a3,n3,H3) [0,1,2,1] ⟨H,s3⟩ J J ?_)))))))))));rintro k8 ⟨x6,x7,a6,n6,H6⟩ ⟨Z6,s6⟩;rw[lX.l0] at Z6;refine rc T 6 (cd J Z6 (λZ6=>?_) (λZ6=>?_))
 ·refine rc T 10 (fz J (rz [10] mix (bP bO) (λhg pf=>ha T 8 [0,1,2] sz hg pf J (av 3 sz hg pf J (aw T J J J J (aH (j:=2) J J)) (ha T 3 [4,5,6,7] sz hg pf J (av 8 sz hg pf J (aw T J J J J (aH (j:=2) J J)) ?_))))));obtain⟨c8,Z6⟩:=az Z6;obtain⟨q7,o7,e7⟩:=s6.r.addr c8.1 c8.2;refine av 9 sz hg pf J (cO T J J J J J e7 c8.1 c8.2) (ao 10 (jX (k:=(Fl.int .i64)) T 3 0 (aa (bL+1)) J J J J J J s6 e7 c8 J J J (λH8 s8=>kg [7,8,45,46,49,50,51,53,54,55,56,57,58] [0,0,1] [0,0,1,0] [(52,(ll a6 (List.set x6 (Int.toNat x7) (aa (bL+1))) n6))] [(cl b4 167 [(ii m.W),(ii m.H),(ll a2 v2 n2),(ii (aa (bL+1))),(ll a6 (List.set x6 (Int.toNat x7) (aa (bL+1))) n6)])] J J ⟨(by first |rfl |(simp only[ll,List.length_set];rfl)),trivial⟩ (by first |rfl |(simp only[ll,List.length_set];rfl)) (an sl (ae (rx T 7 ?_))))))
  exact ar (_,_,_,_,_) [0,0,1,0] ⟨Z6,s8⟩ J J
 refine rc T 12 ?_
 cases Z6;refine gn [2,1,1] J (p1 T J [1,0] ⟨_,_,⟨b4,(List.flatten [(cl b4 167 [(ii m.W),(ii m.H),(ll a2 v2 n2),(ii (aa (bL+1))),(ll a6 x6 n6)]),H2,H6]),(show iC (bA.mk (aL.mk m.W m.H v2) (aa (bL+1)) x6) b4 (List.flatten [(cl b4 167 [(ii m.W),(ii m.H),(ll a2 v2 n2),(ii (aa (bL+1))),(ll a6 x6 n6)]),H2,H6]) from⟨a2,n2,H2,a6,n6,H6,s2,s6,J⟩),J,J⟩,J,J⟩ J)
def iH.f (g:bA):Option (Int×Int):=some (g.m.W,g.m.H)
theorem iH.c (H:iH.f g=some r) (fC:iC g fa fY):
 QU 171 [(pp fa)] [fY] F (.tuple #[(ii r.1),(ii r.2)]):=by
 unfold iH.f at H;refine aD Tryz.func171 J J (λW=>rc T 13 (eN J (rc T 3 ?_)));obtain⟨a3,n3,H3,a4,n4,H4,s3,s4,cm⟩:=(λx=>x) fC;refine bQ 0 (congrArg some cm) (fz J (du mix ay ?_))
 iterate 4 refine au T J ?_
 refine aO J J J (aw T J J J J (aH (j:=1) J J)) ?_
 iterate 4 refine au T J ?_
 refine aO J J J (aw T J J J J (aH (j:=1) J J)) (au T J (au T J (cZ (rx T 2 ?_))))
 cases H;refine dp [1,1,1] J cm (p0 T J [1,0] J)
def pg.f (g:bA):Option Int:=some g.bL
theorem pg.c (H:pg.f g=some r) (fC:iC g fa fY):
 QU 136 [(pp fa)] [fY] F (ii r):=by
 unfold pg.f at H;refine aD Tryz.func136 J J (λW=>rc T 12 (eN J (rc T 3 ?_)));obtain⟨a3,n3,H3,a4,n4,H4,s3,s4,cm⟩:=(λx=>x) fC;refine bQ 0 (congrArg some cm) (fz J (rc T 4 (lf T 1 J (ro T 4 ?_))))
 cases H;refine dp [1,1,1] J cm (p0 T J [1,0] J)
def xd.f (g:bA) (cell:Int) (cost:Int):Option (Int×bA):=(if cell<0 then(some true) else(some (decide (cell≥(List.length g.m.C:Int))))).bind λx1=>if x1=true then(some (7,g)) else(if((decide (cost<1))||(decide (cost>255)))=true then(some (8,g)) else(if(0<=cell/\cell<(List.length g.m.C:Int)) then((gi.f g.m.W g.m.H cell).bind λv3=>if(0<=v3/\v3<(List.length g.pK:Int)) then(some (0,(bA.mk (aL.mk g.m.W g.m.H (List.set g.m.C (Int.toNat cell) (bS cost))) (aa (g.bL+1)) (List.set g.pK (Int.toNat v3) (aa (g.bL+1)))))) else none) else none))
def xd.R (aax:Nat) (r:(Int×bA)) (u:Value) (G:List Hp):Prop:= ∃(H0:Hp),iC r.2 aax H0/\u=(ii r.1)/\G=[H0]
theorem xd.c (H:xd.f g cell cost=some r) (fC:iC g fa fY):
 QR 155 [(pp fa),(ii cell),(ii cost)] [fY] [] F (xd.R fa r):=by
 unfold xd.f at H;refine aD Tryz.func155 J J (λW=>rc T 14 (eN J (mq H [0,1,2] [1,0] (λz2 (x1:Bool)=>(x1=z2,[(10,(bb x1))],[])) J J (λz2 Z1 _=>?_) ?_)))
 ·obtain⟨a3,n3,H3,a4,n4,H4,s3,s4,cm⟩:=(λx=>x) fC;refine bQ 0 (congrArg some cm) (fz J (rc T 4 (ad 13 J Z1 (λZ1=>?_) (λZ1=>?_))))
  ·refine ro T 12 (dp [1,1,1] J cm (am _ [0,0] (oi Z1) J J))
  refine ro T 5 (lf T 1 J (ro T 6 (dp [1,1,1] J cm (am _ [0,0] (oi Z1) J J))))
 rintro _ x1 rfl H;refine cb J H (λH=>?_) (λH=>?_)
 ·refine rc T 8 ?_
  cases H;exact p1 T J [1,0] ⟨fY,fC,J,J⟩ J
 refine rc T 5 (go T [3,4,5] 26 [0,1,2] 29 J J J J J J J (ro T 3 (cb J H (λH=>?_) (λH=>?_))))
 ·refine rc T 8 ?_
  cases H;exact p1 T J [1,0] ⟨fY,fC,J,J⟩ J
 refine rc T 4 ?_;obtain⟨a6,n6,H6,a7,n7,H7,s6,s7,rD⟩:=(λx=>x) fC;refine bQ 1 (congrArg some rD) (fz J (rc T 5 (lf T 1 J (ro T 3 ?_))));obtain⟨c5,H⟩:=az H;obtain⟨q8,o8,e8⟩:=s6.r.addr c5.1 c5.2;refine ix T J e8 c5 (aX (jX (k:=(Fl.int .u8)) T 2 0 (bS cost) J J J J J J s6 e8 c5 J J J (λH9 s9=>kg [0,1] [0,1,1] [0,1,1,0] [] [(cl fa 167 [(ii g.m.W),(ii g.m.H),(ll a6 (List.set g.m.C (Int.toNat cell) (bS cost)) n6),(ii g.bL),(ll a7 g.pK n7)])] J J trivial (by first |rfl |(simp only[ll,List.length_set];rfl)) (ro T 7 (lf T 3 J (ro T 3 (sg T 3 J (ro T 3 (ks [0,1] J (fz J ?_))))))))))
 refine rz [21] mix (bP bO) (λhg pf=>ha T 19 [0,1,2] sz hg pf J (av 3 sz hg pf J (aw T J J J J (aH (j:=3) J J)) (ha T 14 [4,5,6,7] sz hg pf J (av 8 sz hg pf J (aw T J J J J (aH (j:=3) J J)) (ha T 9 [9,10,11,12] sz hg pf J (av 13 sz hg pf J (aw T J J J J (aH (j:=3) J J)) (ha T 4 [14,16,17,18] sz hg pf J (av 19 sz hg pf J (aw T J J J J (aH (j:=3) J J)) (ao 15 (kh [] J qA H (gi.c ·) (λv3 H=>an sz ?_)))))))))));obtain⟨c7,H⟩:=az H;obtain⟨KR,KH,pS⟩:=s7.r.addr c7.1 c7.2;refine av 20 sz hg pf J (cO T J J J J J pS c7.1 c7.2) (ao 21 (jX (k:=(Fl.int .i64)) T 2 0 (aa (g.bL+1)) J J J J J J s7 pS c7 J J J (λcA dh=>kg [0,1,46,47,48,50,51,52,53,54,55,56,57,58,59,60,61,62,63,64,65,66] [0,0,0] [0,0,0,0] [(49,(ll a7 (List.set g.pK (Int.toNat v3) (aa (g.bL+1))) n7))] [(cl fa 167 [(ii g.m.W),(ii g.m.H),(ll a6 (List.set g.m.C (Int.toNat cell) (bS cost)) n6),(ii (aa (g.bL+1))),(ll a7 (List.set g.pK (Int.toNat v3) (aa (g.bL+1))) n7)])] J J ⟨(by first |rfl |(simp only[ll,List.length_set];rfl)),trivial⟩ (by first |rfl |(simp only[ll,List.length_set];rfl)) (an sl (ae (rx T 7 ?_))))))
 cases H;refine gn [3,1,1] J (p1 T J [1,0] ⟨(List.flatten [(cl fa 167 [(ii g.m.W),(ii g.m.H),(ll a6 (List.set g.m.C (Int.toNat cell) (bS cost)) n6),(ii (aa (g.bL+1))),(ll a7 (List.set g.pK (Int.toNat v3) (aa (g.bL+1))) n7)]),H9,cA]),(show iC (bA.mk (aL.mk g.m.W g.m.H (List.set g.m.C (Int.toNat cell) (bS cost))) (aa (g.bL+1)) (List.set g.pK (Int.toNat v3) (aa (g.bL+1)))) fa (List.flatten [(cl fa 167 [(ii g.m.W),(ii g.m.H),(ll a6 (List.set g.m.C (Int.toNat cell) (bS cost)) n6),(ii (aa (g.bL+1))),(ll a7 (List.set g.pK (Int.toNat v3) (aa (g.bL+1))) n7)]),H9,cA]) from⟨a6,n6,H9,a7,n7,cA,s9,dh,J⟩),J,J⟩ J)
def lW.l0:Nat->bA->Int->(Int×Int)->(Int×Int)->List Int->Int->Option (aL×Bool)
 |0,_,_,_,_,_,_=>none
 |k7+1,g,bG,v1,v2,x5,x6=>if x6<v2.2 then((tF.f v1.1 v1.2 bG (aa (x6*v2.1))).bind λv8=>if(0<=v8/\v8<=(aa (v8+v2.1))/\(aa (v8+v2.1))<=(List.length g.m.C:Int)) then(if(List.length x5+List.length (aA g.m.C v8 (aa (v8+v2.1)))<=1099511627776) then(lW.l0 k7 g bG v1 v2 (x5++(aA g.m.C v8 (aa (v8+v2.1)))) (aa (x6+1))) else none) else none) else(some ((aL.mk v2.1 v2.2 x5),true))
def lW.f (g:bA) (bG:Int):Option (aL×Bool):=(iH.f g).bind λv1=>(qZ.f v1.1 v1.2 bG).bind λv2=>if(v2.1==0)=true then(some ((aL.mk 0 0 []),false)) else(lW.l0 fuel g bG v1 v2 [] 0)
def lW.R (r:(aL×Bool)) (u:Value) (G:List Hp):Prop:= ∃(a0:Option Addr) (n0:Nat) (H0:Hp),aj (Fl.int .u8) 5 r.1.C a0 n0 H0/\u=(.tuple #[(.agg #[(ii r.1.W),(ii r.1.H),(ll a0 r.1.C n0)]),(bb r.2)])/\G=[H0]
theorem lW.c (H:lW.f g bG=some r) (fC:iC g fa fY):
 QR 140 [(pp fa),(ii bG)] [fY] [fY] F (lW.R r):=by
 unfold lW.f at H;refine aD Tryz.func140 J J (λW=>rc T 2 (nc T J (λb2=>ro T 6 (k [0] J uc H (iH.c · fC) (λv1 H=>ro T 12 (k [] J F3 H (qZ.c ·) (λv2 H=>ro T 14 (cb J H (λH=>?_) (λH=>?_)))))))))
 ·refine rc T 3 (sg T 2 J (ro T 5 ?_))
  cases H;refine bw (pb T J (.cK (j:=2) [(ii 0),(ii 0),nl] J J J J J J J (.tmp J .nil)) [3,0,0] ⟨(_,_),none,0,[],aj.nil,J,J⟩ J J)
 refine rc T 7 (nc T J (λb4=>sg T 3 J (ro T 10 (bw (lq [0,1,4,6,7,8,10,31] [1,0,0] (λ(⟨k7,x5,x6,a6,n6,H6⟩:Nat×List Int×Int×Option Addr×Nat×Hp)=>(lW.l0 k7 g bG v1 v2 x5 x6=some r/\aj (Fl.int .u8) 5 x5 a6 n6 H6,[(32,(ii x6))],[(cl b4 139 [(ii v2.1),(ii v2.2),(ll a6 x5 n6)]),H6])) J J (fuel,[],0,none,0,[]) [1,0,0,0,0] ⟨H,aj.nil⟩ J J ?_)))));rintro k7 ⟨x5,x6,a6,n6,H6⟩ ⟨Z4,s6⟩;rw[lW.l0] at Z4;refine rc T 6 (cd J Z4 (λZ4=>?_) (λZ4=>?_))
 ·refine rc T 18 (k [] J JC Z4 (tF.c ·) (λv8 Z4=>ro T 3 ?_));obtain⟨a8,n8,H8,a9,n9,H9,s8,s9,rE⟩:=(λx=>x) fC;refine bQ 1 (congrArg some rE) (fz J (fz J (rz [12,14] mix (bP bO) (λhg pf=>ha T 14 [0] sz hg pf J (av 1 sz hg pf J (aw T J J J J (aH (j:=2) J J)) (ha T 9 [2,3,4,5] sz hg pf J (av 6 sz hg pf J (aw T J J J J (aH (j:=4) J J)) (ha T 4 [7,8,9,10] sz hg pf J ?_))))))));obtain⟨c7,Z4⟩:=az Z4;refine av 11 sz hg pf J (ko T J J J J J J c7 s8.bY) (ao 12 ?_);obtain⟨c8,Z4⟩:=az Z4;refine d_ (k:=(Fl.int .u8)) (xs:=x5) T (g:=3) J J J J J J J J J J s6 (mW (oO s8 5) c7 s8.bY) c8 J (λcw n10 bX bT=>an sl (hb T 13 sl hg pf J (ao 14 (sf T 2 J (an sl (ae (rx T 7 (dp [4,4,4] J rE (ar (_,_,_,_,_) [0,3,0,0,0] ⟨Z4,bT⟩ J J)))))))))
 refine rc T 7 (lm T 3 J (sg T 2 J (ro T 4 ?_)))
 cases Z4;exact pb T J (.cK (j:=2) [(ii v2.1),(ii v2.2),(ll a6 x5 n6)] J J J J J J J (.tmp J .nil)) [4,1,0] ⟨(_,_),a6,n6,H6,s6,J,J⟩ J J
def pW.f (g:bA) (bG:Int):Option Int:=(if bG<0 then(some true) else(some (decide (bG≥(List.length g.pK:Int))))).bind λx1=>if x1=true then(some 0) else(if(0<=bG/\bG<(List.length g.pK:Int)) then(some (rd g.pK bG)) else none)
theorem pW.c (H:pW.f g bG=some r) (fC:iC g fa fY):
 QU 137 [(pp fa),(ii bG)] [fY] F (ii r):=by
 unfold pW.f at H;refine aD Tryz.func137 J J (λW=>rc T 6 (mq H [0,1] [1,0] (λz2 (x1:Bool)=>(x1=z2,[(19,(bb x1))],[])) J J (λz2 Z1 _=>?_) ?_))
 ·obtain⟨a3,n3,H3,a4,n4,H4,s3,s4,cm⟩:=(λx=>x) fC;refine bQ 0 (congrArg some cm) (fz J (rc T 8 (ad 11 J Z1 (λZ1=>?_) (λZ1=>?_))))
  ·refine ro T 10 (dp [1,1,1] J cm (am _ [0,0] (oi Z1) J J))
  refine ro T 4 (lf T 1 J (ro T 5 (dp [1,1,1] J cm (am _ [0,0] (oi Z1) J J))))
 rintro _ x1 rfl H;refine cb J H (λH=>?_) (λH=>?_)
 ·refine rc T 7 ?_
  cases H;exact p0 T J [1,0] J
 refine rc T 3 ?_;obtain⟨a6,n6,H6,a7,n7,H7,s6,s7,rD⟩:=(λx=>x) fC;refine bQ 1 (congrArg some rD) (fz J (rc T 4 (lf T 1 J (ro T 1 ?_))));obtain⟨c4,H⟩:=az H;obtain⟨q8,o8,e8⟩:=s7.r.addr c4.1 c4.2;refine ix T J e8 c4 (le T 0 (oO s7 3) e8 c4 J J (ro T 4 ?_))
 cases H;refine dp [1,1,1] J rD (p0 T J [1,0] J)
def Al.f:Option aL:=some (aL.mk 0 0 [])
def Al.R (r:aL) (u:Value) (G:List Hp):Prop:= ∃(a0:Option Addr) (n0:Nat) (H0:Hp),aj (Fl.int .u8) 5 r.C a0 n0 H0/\u=(.agg #[(ii r.W),(ii r.H),(ll a0 r.C n0)])/\G=[H0]
theorem Al.c (H:Al.f=some r):
 QR 74 [(.pointer none)] [] [] F (Al.R r):=by
 unfold Al.f at H;refine aD Tryz.func74 J J (λW=>rc T 2 (nc T J (λb1=>ro T 9 (nh J (rc T 3 (sg T 1 J (ro T 4 ?_)))))))
 cases H;refine bw (pb T J (.cK (j:=1) [(ii 0),(ii 0),nl] J J J J J J J .nil) [2,0] ⟨(_,_),none,0,[],aj.nil,J,J⟩ J J)
def xe.f (g:bA):Option aL:=(nQ.f g.m.C).bind λv1=>some (aL.mk g.m.W g.m.H v1)
def xe.R (r:aL) (u:Value) (G:List Hp):Prop:= ∃(a0:Option Addr) (n0:Nat) (H0:Hp),aj (Fl.int .u8) 5 r.C a0 n0 H0/\u=(.agg #[(ii r.W),(ii r.H),(ll a0 r.C n0)])/\G=[H0]
theorem xe.c (H:xe.f g=some r) (fC:iC g fa fY):
 QR 74 [(pp fa)] [fY] [fY] F (xe.R r):=by
 unfold xe.f at H;refine aD Tryz.func74 J J (λW=>rc T 2 (nc T J (λb2=>ro T 9 (eN J (rc T 3 ?_)))));obtain⟨a4,n4,H4,a5,n5,H5,s4,s5,dq⟩:=(λx=>x) fC;refine bQ 0 (congrArg some dq) (fz J (ks [0,2] J (fz J (rg [17] [0,0,0,0,0] mix (bP bO) (λhg pf=>ha T 14 [0,1,2,3] sz hg pf J (av 4 sz hg pf J (aw T J J J J (aH (j:=2) J J)) (ha T 9 [5,6,7,8] sz hg pf J (av 9 sz hg pf J (aw T J J J J (aH (j:=2) J J)) (ha T 4 [10,11,12,13] sz hg pf J (av 14 sz hg pf J (aw T J J J J (aH (j:=2) J J)) (ao 15 (kR nQ.R [] [] J M8 H (nQ.c · (oO s4 3) s4.bY) (λv1 H=>?_)))))))))))));rintro _ _ ⟨a6,n6,H6,s6,rfl,rfl⟩;refine fz J (an (so [0,0,0,0,0]) (ha T 1 [16] (so [0,0,0,0,0]) hg pf J (ao 17 (sf T 1 J (an sl (ae (rx T 1 (rc T 1 ?_))))))))
 cases H;refine dp [2,2,2] J dq (pb T J (.cK (j:=1) [(ii g.m.W),(ii g.m.H),(ll a6 v1 n6)] J J J J J J J .nil) [2,2,0] ⟨(_,_),a6,n6,H6,s6,J,J⟩ J J)
end
noncomputable section
def yG.f:Option (List Int):=some [0,1,2,3]
theorem yG.c (H:yG.f=some r):
 QU 205 [] [] F (.agg #[(ii (rd r 0)),(ii (rd r 1)),(ii (rd r 2)),(ii (rd r 3))]):=by
 unfold yG.f at H;refine aD Tryz.func205 J J (λW=>rc T 2 (nc T J (λb1=>ro T 4 (br J (Jm T J J J J J J) (sg T 1 J (ro T 3 ?_))))))
 cases H;exact pb T J (.cK (j:=1) [(ii 0),(ii 1),(ii 2),(ii 3)] J J J J J J J .nil) [0] () J J
def fh.l3:Nat->Int->Int->List Int->Int->Option (List Int)
 |0,_,_,_,_=>none
 |Kf+1,tw,th,dV,dx=>if dx<th then(if(List.length dV+1<=1099511627776) then(fh.l3 Kf tw th (dV++[(aa (0+(aa (dx*tw))))]) (aa (dx+1))) else none) else(some dV)
def fh.l2:Nat->Int->Int->List Int->Int->Option (List Int)
 |0,_,_,_,_=>none
 |lH+1,tw,th,aU,bd=>if bd<th then(if(List.length aU+1<=1099511627776) then(fh.l2 lH tw th (aU++[(aa ((aa (tw-1))+(aa (bd*tw))))]) (aa (bd+1))) else none) else(some aU)
def fh.l1:Nat->Int->List Int->Int->Option (List Int)
 |0,_,_,_=>none
 |qH+1,tw,x8,x9=>if x9<tw then(if(List.length x8+1<=1099511627776) then(fh.l1 qH tw (x8++[(aa (0+x9))]) (aa (x9+1))) else none) else(some x8)
def fh.l0:Nat->Int->Int->List Int->Int->Option (List Int)
 |0,_,_,_,_=>none
 |k5+1,tw,th,x3,x4=>if x4<tw then(if(List.length x3+1<=1099511627776) then(fh.l0 k5 tw th (x3++[(aa ((aa ((aa (th-1))*tw))+x4))]) (aa (x4+1))) else none) else(some x3)
def fh.f (tw:Int) (th:Int) (side:Int):Option (List Int):=if(side==2)=true then(fh.l0 fuel tw th [] 0) else(if(side==0)=true then(fh.l1 fuel tw [] 0) else(if(side==1)=true then(fh.l2 fuel tw th [] 0) else(if(side==3)=true then(fh.l3 fuel tw th [] 0) else(some []))))
def fh.R (r:(List Int)) (u:Value) (G:List Hp):Prop:= ∃(a0:Option Addr) (n0:Nat) (H0:Hp),aj (Fl.int .i64) 3 r a0 n0 H0/\u=(ll a0 r n0)/\G=[H0]
theorem fh.c (H:fh.f tw th side=some r):
 QR 233 [(ii tw),(ii th),(ii side)] [] [] F (fh.R r):=by
 unfold fh.f at H;refine aD Tryz.func233 J J (λW=>rc T 38 (cb J H (λH=>?_) (λH=>?_)))
 ·refine rc T 22 (bw (lq [8,24] [0] (λ(⟨k5,x3,x4,a2,n2,H2⟩:Nat×List Int×Int×Option Addr×Nat×Hp)=>(fh.l0 k5 tw th x3 x4=some r/\aj (Fl.int .i64) 3 x3 a2 n2 H2,[(7,(ll a2 x3 n2)),(25,(ii x4))],[H2])) J J (fuel,[],0,none,0,[]) [0,0] ⟨H,aj.nil⟩ J J ?_));rintro k5 ⟨x3,x4,a2,n2,H2⟩ ⟨Z2,s2⟩;rw[fh.l0] at Z2;refine rc T 6 (cd J Z2 (λZ2=>?_) (λZ2=>?_))
  ·refine rc T 15 (aX (cU (k:=(Fl.int .i64)) T [(aa ((aa ((aa (th-1))*tw))+x4))] J J J J J J J J J (λa3 H3 s3=>?_)));obtain⟨c4,Z2⟩:=az Z2;refine aX (d_ (k:=(Fl.int .i64)) (xs:=x3) T (g:=1) J J J J J J J J J J s2 (oO s3 2) c4 J (λa4 n4 H4 s4=>ro T 9 (ar (_,_,_,_,_) [0,0] ⟨Z2,s4⟩ J J)))
  refine rc T 19 ?_
  cases Z2;exact p1 T J [1,0] ⟨a2,n2,H2,s2,J,J⟩ J
 refine rc T 9 (cb J H (λH=>?_) (λH=>?_))
 ·refine rc T 15 (bw (lq [8,24] [0] (λ(⟨qH,x8,x9,a6,n6,H6⟩:Nat×List Int×Int×Option Addr×Nat×Hp)=>(fh.l1 qH tw x8 x9=some r/\aj (Fl.int .i64) 3 x8 a6 n6 H6,[(7,(ll a6 x8 n6)),(25,(ii x9))],[H6])) J J (fuel,[],0,none,0,[]) [0,0] ⟨H,aj.nil⟩ J J ?_));rintro qH ⟨x8,x9,a6,n6,H6⟩ ⟨Z6,s6⟩;rw[fh.l1] at Z6;refine rc T 6 (cd J Z6 (λZ6=>?_) (λZ6=>?_))
  ·refine rc T 15 (aX (cU (k:=(Fl.int .i64)) T [(aa (0+x9))] J J J J J J J J J (λa7 H7 s7=>?_)));obtain⟨c8,Z6⟩:=az Z6;refine aX (d_ (k:=(Fl.int .i64)) (xs:=x8) T (g:=1) J J J J J J J J J J s6 (oO s7 2) c8 J (λa8 n8 H8 s8=>ro T 9 (ar (_,_,_,_,_) [0,0] ⟨Z6,s8⟩ J J)))
  refine rc T 19 ?_
  cases Z6;exact p1 T J [1,0] ⟨a6,n6,H6,s6,J,J⟩ J
 refine rc T 9 (cb J H (λH=>?_) (λH=>?_))
 ·refine rc T 24 (bw (lq [0,8,37] [0] (λ(⟨lH,aU,bd,cw,n10,bX⟩:Nat×List Int×Int×Option Addr×Nat×Hp)=>(fh.l2 lH tw th aU bd=some r/\aj (Fl.int .i64) 3 aU cw n10 bX,[(7,(ll cw aU n10)),(38,(ii bd))],[bX])) J J (fuel,[],0,none,0,[]) [0,0] ⟨H,aj.nil⟩ J J ?_));rintro lH ⟨aU,bd,cw,n10,bX⟩ ⟨lR,bT⟩;rw[fh.l2] at lR;refine rc T 6 (cd J lR (λlR=>?_) (λlR=>?_))
  ·refine rc T 17 (aX (cU (k:=(Fl.int .i64)) T [(aa ((aa (tw-1))+(aa (bd*tw))))] J J J J J J J J J (λdt cA dh=>?_)));obtain⟨gU,lR⟩:=az lR;refine aX (d_ (k:=(Fl.int .i64)) (xs:=aU) T (g:=1) J J J J J J J J J J bT (oO dh 2) gU J (λa12 n12 dz dJ=>ro T 9 (ar (_,_,_,_,_) [0,0] ⟨lR,dJ⟩ J J)))
  refine rc T 15 ?_
  cases lR;exact p1 T J [1,0] ⟨cw,n10,bX,bT,J,J⟩ J
 refine rc T 8 (cb J H (λH=>?_) (λH=>?_))
 ·refine rc T 18 (bw (lq [0,8,37] [0] (λ(⟨Kf,dV,dx,iE,n14,fI⟩:Nat×List Int×Int×Option Addr×Nat×Hp)=>(fh.l3 Kf tw th dV dx=some r/\aj (Fl.int .i64) 3 dV iE n14 fI,[(7,(ll iE dV n14)),(38,(ii dx))],[fI])) J J (fuel,[],0,none,0,[]) [0,0] ⟨H,aj.nil⟩ J J ?_));rintro Kf ⟨dV,dx,iE,n14,fI⟩ ⟨bD,gh⟩;rw[fh.l3] at bD;refine rc T 6 (cd J bD (λbD=>?_) (λbD=>?_))
  ·refine rc T 17 (aX (cU (k:=(Fl.int .i64)) T [(aa (0+(aa (dx*tw))))] J J J J J J J J J (λjE dE dN=>?_)));obtain⟨pQ,bD⟩:=az bD;refine aX (d_ (k:=(Fl.int .i64)) (xs:=dV) T (g:=1) J J J J J J J J J J gh (oO dN 2) pQ J (λjV n16 fN fj=>ro T 9 (ar (_,_,_,_,_) [0,0] ⟨bD,fj⟩ J J)))
  refine rc T 15 ?_
  cases bD;exact p1 T J [1,0] ⟨iE,n14,fI,gh,J,J⟩ J
 refine rc T 20 ?_
 cases H;refine bw (p1 T J [1,0] ⟨none,0,[],aj.nil,J,J⟩ J)
def yF.f (w:Int) (h:Int) (cell:Int) (side:Int):Option Int:=(mf.f w h cell side).bind λv1=>(if v1<0 then(some true) else((gi.f w h v1).bind λv4=>(gi.f w h cell).bind λv5=>some (v4==v5))).bind λx2=>if x2=true then(some (-1)) else(some v1)
theorem yF.c (H:yF.f w h cell side=some r):
 QU 206 [(ii w),(ii h),(ii cell),(ii side)] [] F (ii r):=by
 unfold yF.f at H;refine aD Tryz.func206 J J (λW=>rc T 11 (k [] J Ao H (mf.c ·) (λv1 H=>ro T 4 (mq H [9] [0] (λz3 (x2:Bool)=>(x2=z3,[(27,(bb x2))],[])) J J (λz3 Z2 _=>?_) ?_))))
 ·refine rc T 4 (ad 17 J Z2 (λZ2=>?_) (λZ2=>?_))
  ·refine ro T 12 (am _ [0] (oi Z2) J J)
  refine ro T 3 (k [] J qA Z2 (gi.c ·) (λv4 Z2=>ro T 3 (k [] J qA Z2 (gi.c ·) (λv5 Z2=>ro T 4 (am _ [0] (oi Z2) J J)))))
 rintro _ x2 rfl H;refine cb J H (λH=>?_) (λH=>?_)
 ·refine rc T 7 ?_
  cases H;exact p0 T J [0] J
 refine rc T 9 ?_
 cases H;exact p0 T J [0] J
def gD.l2:Nat->Int->Int->Int->List Bool->List Int->Int->Option (List Int)
 |0,_,_,_,_,_,_=>none
 |pq+1,w,h,bG,x5,bW,dy=>if dy<(List.length x5:Int) then(if(0<=dy/\dy<(List.length x5:Int)) then(if(rd x5 dy)=true then((tF.f w h bG dy).bind λv25=>if(List.length bW+1<=1099511627776) then(gD.l2 pq w h bG x5 (bW++[v25]) (aa (dy+1))) else none) else(gD.l2 pq w h bG x5 bW (aa (dy+1)))) else none) else(some bW)
def gD.l1:Nat->(List Int)->List Bool->Int->Option (List Bool)
 |0,_,_,_=>none
 |Ke+1,v10,cX,dV=>if dV<(List.length v10:Int) then(if(0<=dV/\dV<(List.length v10:Int)) then(if(0<=(rd v10 dV)/\(rd v10 dV)<(List.length cX:Int)) then(gD.l1 Ke v10 (List.set cX (Int.toNat (rd v10 dV)) true) (aa (dV+1))) else none) else none) else(some cX)
def gD.l0:Nat->Int->Int->Int->(Int×Int)->(List Int)->List Bool->Int->Option (List Int)
 |0,_,_,_,_,_,_,_=>none
 |k7+1,w,h,bG,v1,v2,x5,x6=>if x6<4 then((if(0<=x6/\x6<(List.length [(rd v2 0),(rd v2 1),(rd v2 2),(rd v2 3)]:Int)) then((fh.f v1.1 v1.2 (rd [(rd v2 0),(rd v2 1),(rd v2 2),(rd v2 3)] x6)).bind λv10=>(if((List.length v10:Int)==0)=true then(some true) else(if(0<=(0:Int)/\(0:Int)<(List.length v10:Int)) then((tF.f w h bG (rd v10 0)).bind λlp=>(yF.f w h lp (rd [(rd v2 0),(rd v2 1),(rd v2 2),(rd v2 3)] x6)).bind λcg=>some (decide (cg<0))) else none)).bind λbf=>if bf=true then(some x5) else(gD.l1 fuel v10 x5 0)) else none).bind λx8=>gD.l0 k7 w h bG v1 v2 x8 (aa (x6+1))) else(gD.l2 fuel w h bG x5 [] 0)
def gD.f (w:Int) (h:Int) (bG:Int):Option (List Int):=(qZ.f w h bG).bind λv1=>if(0<=(aa (v1.1*v1.2))/\(aa (v1.1*v1.2))<=1099511627776) then((yG.f).bind λv2=>gD.l0 fuel w h bG v1 v2 (List.replicate (Int.toNat (aa (v1.1*v1.2))) false) 0) else none
def gD.R (r:(List Int)) (u:Value) (G:List Hp):Prop:= ∃(a0:Option Addr) (n0:Nat) (H0:Hp),aj (Fl.int .i64) 3 r a0 n0 H0/\u=(ll a0 r n0)/\G=[H0]
theorem gD.c (H:gD.f w h bG=some r):
 QR 203 [(ii w),(ii h),(ii bG)] [] [] F (gD.R r):=by
 unfold gD.f at H;refine aD Tryz.func203 J J (λW=>rc T 10 (k [] J F3 H (qZ.c ·) (λv1 H=>ro T 12 ?_)));obtain⟨c2,H⟩:=az H;refine aX (u6 (k:=Fl.bool) T false J J J J J J J J c2 J (λa1 n1 H1 s1=>ro T 6 (k [] J Th H (yG.c ·) (λv2 H=>ro T 4 (lq [0,1,2,7,8,29] [0] (λ(⟨k7,x5,x6,a3,n3,H3⟩:Nat×List Bool×Int×Option Addr×Nat×Hp)=>(gD.l0 k7 w h bG v1 v2 x5 x6=some r/\aj Fl.bool 4 x5 a3 n3 H3,[(9,(ll a3 x5 n3)),(30,(ii x6))],[H3])) J J (fuel,(List.replicate (Int.toNat (aa (v1.1*v1.2))) false),0,a1,n1,H1) [0,0] ⟨H,s1⟩ J J ?_)))));rintro k7 ⟨x5,x6,a3,n3,H3⟩ ⟨Z4,s3⟩;rw[gD.l0] at Z4;refine rc T 6 (cd J Z4 (λZ4=>?_) (λZ4=>?_))
 ·refine rc T 2 (mq Z4 [0,1,2,7,8,29,30] [0] (λz9 (⟨x8,a4,n4,H4⟩:List Bool×Option Addr×Nat×Hp)=>(x8=z9/\aj Fl.bool 4 x8 a4 n4 H4,[(9,(ll a4 x8 n4))],[H4])) J J (λz9 Z6 _=>?_) ?_)
  ·refine rc T 3 ?_;obtain⟨c7,Z6⟩:=az Z6;refine br J (R_ T (Fl.int .i64) [(rd v2 0),(rd v2 1),(rd v2 2),(rd v2 3)] J J J J J J J J J c7 J) (ro T 8 (kr fh.R [] [] J adh Z6 (fh.c ·) (λv10 Z6=>?_)));rintro _ _ ⟨a5,n5,H5,s5,rfl,rfl⟩;refine fz J (ro T 4 (mq Z6 [0,1,2,7,8,9,12,29,30] [0,0,0] (λz12 (bf:Bool)=>(bf=z12,[(53,(bb bf))],[])) J J (λz12 Z9 _=>?_) ?_))
   ·refine rc T 5 (ab 40 J Z9 (λZ9=>?_) (λZ9=>?_))
    ·refine ro T 15 (am _ [0,0,0] (oi Z9) J J)
    refine ro T 6 ?_;obtain⟨dG,Z9⟩:=az Z9;obtain⟨q6,o6,e6⟩:=s5.r.addr dG.1 dG.2;refine ix T J e6 dG (le T 0 (oO s5 2) e6 dG J J (k [] J JC Z9 (tF.c ·) (λlp Z9=>ro T 1 (k [] J Ti Z9 (yF.c ·) (λcg Z9=>ro T 4 (am _ [0,0,0] (oi Z9) J J))))))
   rintro _ bf rfl Z6;refine cb J Z6 (λZ6=>?_) (λZ6=>?_)
   ·refine rc T 4 (am (_,_,_,_) [0,0] ⟨oi Z6,s3⟩ J J)
   refine rc T 10 (lq [0,1,2,7,8,29,30,54,55] [0,1] (λ(⟨Ke,cX,dV,a8,n8,H8⟩:Nat×List Bool×Int×Option Addr×Nat×Hp)=>(gD.l1 Ke v10 cX dV=some z9/\aj Fl.bool 4 cX a8 n8 H8,[(9,(ll a8 cX n8)),(56,(ii dV))],[H8])) J J (fuel,x5,0,a3,n3,H3) [0,1,0] ⟨Z6,s3⟩ J J ?_);rintro Ke ⟨cX,dV,a8,n8,H8⟩ ⟨dj,s8⟩;rw[gD.l1] at dj;refine rc T 6 (cd J dj (λdj=>?_) (λdj=>?_))
   ·refine rc T 6 ?_;obtain⟨jq,dj⟩:=az dj;obtain⟨q9,o9,e9⟩:=s5.r.addr jq.1 jq.2;refine ix T J e9 jq (le T 0 (oO s5 1) e9 jq J J (ro T 6 ?_));obtain⟨lD,dj⟩:=az dj;obtain⟨KR,KH,pS⟩:=s8.r.addr lD.1 lD.2;refine ix T J pS lD (aX (jX (k:=Fl.bool) T 2 0 true J J J J J J s8 pS lD J J J (λcA dh=>kf [0,1,2,7,8,29,30,54,55,56] [0,0,0] [(9,(ll a8 (List.set cX (Int.toNat (rd v10 dV)) true) n8))] J J ⟨(by first |rfl |(simp only[ll,List.length_set];rfl)),trivial⟩ (ro T 8 ?_))))
    exact ar (_,_,_,_,_) [0,0,0] ⟨dj,dh⟩ J J
   refine rc T 6 (am (_,_,_,_) [0,1] ⟨oi dj,s8⟩ J J)
  rintro _ ⟨x8,a4,n4,H4⟩ ⟨rfl,s4⟩ Z4;refine rc T 5 (ar (_,_,_,_,_) [0,0] ⟨Z4,s4⟩ J J)
 refine rc T 19 (bw (lq [0,1,2,65,66] [0,0] (λ(⟨pq,bW,dy,dF,n13,eI⟩:Nat×List Int×Int×Option Addr×Nat×Hp)=>(gD.l2 pq w h bG x5 bW dy=some r/\aj (Fl.int .i64) 3 bW dF n13 eI,[(15,(ll dF bW n13)),(67,(ii dy))],[eI])) J J (fuel,[],0,none,0,[]) [0,0,0] ⟨Z4,aj.nil⟩ J J ?_));rintro pq ⟨bW,dy,dF,n13,eI⟩ ⟨cY,dn⟩;rw[gD.l2] at cY;refine rc T 6 (cd J cY (λcY=>?_) (λcY=>?_))
 ·refine rc T 7 ?_;obtain⟨lE,cY⟩:=az cY;obtain⟨q14,o14,BW⟩:=s3.r.addr lE.1 lE.2;refine ix T J BW lE (le T 0 (oO s3 1) BW lE J J (ro T 9 (cb J cY (λcY=>?_) (λcY=>?_))))
  ·refine rc T 6 (k [] J JC cY (tF.c ·) (λv25 cY=>aX (cU (k:=(Fl.int .i64)) T [v25] J J J J J J J J J (λjE dE dN=>?_))));obtain⟨Mc,cY⟩:=az cY;refine aX (d_ (k:=(Fl.int .i64)) (xs:=bW) T (g:=2) J J J J J J J J J J dn (oO dN 3) Mc J (λjV n16 fN fj=>ro T 9 (ar (_,_,_,_,_) [0,0,0] ⟨cY,fj⟩ J J)))
  refine rc T 8 (ar (_,_,_,_,_) [0,0,0] ⟨cY,dn⟩ J J)
 refine rc T 12 ?_
 cases cY;exact p1 T J [2,0] ⟨dF,n13,eI,dn,J,J⟩ J
def tS.f (g:bA) (cell:Int):Option Bool:=(jc.f g cell).bind λv1=>some ((decide (v1>0))&&(decide (v1<255)))
theorem tS.c (H:tS.f g cell=some r) (fC:iC g fa fY):
 QU 204 [(pp fa),(ii cell)] [fY] F (bb r):=by
 unfold tS.f at H;refine aD Tryz.func204 J J (λW=>rc T 9 (k [0] J vt H (jc.c · fC) (λv1 H=>ro T 8 (ga T [3,4,5] 11 [] 14 J J J J J J J (ro T 4 ?_)))))
 cases H;exact p0 T J [0,0] J
def jY.l0:Nat->bA->(List Int)->List Int->Int->Option (List Int)
 |0,_,_,_,_=>none
 |k7+1,g,v2,x5,x6=>if x6<(List.length v2:Int) then(if(0<=x6/\x6<(List.length v2:Int)) then((tS.f g (rd v2 x6)).bind λv8=>if v8=true then(if(List.length x5+1<=1099511627776) then(jY.l0 k7 g v2 (x5++[(rd v2 x6)]) (aa (x6+1))) else none) else(jY.l0 k7 g v2 x5 (aa (x6+1)))) else none) else(some x5)
def jY.f (g:bA) (bG:Int):Option (List Int):=(iH.f g).bind λv1=>(gD.f v1.1 v1.2 bG).bind λv2=>jY.l0 fuel g v2 [] 0
def jY.R (r:(List Int)) (u:Value) (G:List Hp):Prop:= ∃(a0:Option Addr) (n0:Nat) (H0:Hp),aj (Fl.int .i64) 3 r a0 n0 H0/\u=(ll a0 r n0)/\G=[H0]
theorem jY.c (H:jY.f g bG=some r) (fC:iC g fa fY):
 QR 175 [(pp fa),(ii bG)] [fY] [fY] F (jY.R r):=by
 unfold jY.f at H;refine aD Tryz.func175 J J (λW=>rc T 8 (k [0] J uc H (iH.c · fC) (λv1 H=>ro T 18 (kr gD.R [] [] J ac0 H (gD.c ·) (λv2 H=>?_)))));rintro _ _ ⟨a2,n2,H2,s2,rfl,rfl⟩;refine fz J (ro T 5 (bw (lq [0,18,19] [1,0,0] (λ(⟨k7,x5,x6,a4,n4,H4⟩:Nat×List Int×Int×Option Addr×Nat×Hp)=>(jY.l0 k7 g v2 x5 x6=some r/\aj (Fl.int .i64) 3 x5 a4 n4 H4,[(7,(ll a4 x5 n4)),(20,(ii x6))],[H4])) J J (fuel,[],0,none,0,[]) [1,0,0,0] ⟨H,aj.nil⟩ J J ?_)));rintro k7 ⟨x5,x6,a4,n4,H4⟩ ⟨Z3,s4⟩;rw[jY.l0] at Z3;refine rc T 6 (cd J Z3 (λZ3=>?_) (λZ3=>?_))
 ·refine rc T 6 ?_;obtain⟨c5,Z3⟩:=az Z3;obtain⟨q5,o5,e5⟩:=s2.r.addr c5.1 c5.2;refine ix T J e5 c5 (le T 0 (oO s2 2) e5 c5 J J (ro T 7 (k [1] J Nh Z3 (tS.c · fC) (λv8 Z3=>ro T 2 (cb J Z3 (λZ3=>?_) (λZ3=>?_))))))
  ·refine rc T 3 (aX (cU (k:=(Fl.int .i64)) T [(rd v2 x6)] J J J J J J J J J (λa6 H6 s6=>?_)));obtain⟨c8,Z3⟩:=az Z3;refine aX (d_ (k:=(Fl.int .i64)) (xs:=x5) T (g:=3) J J J J J J J J J J s4 (oO s6 4) c8 J (λa7 n7 H7 s7=>ro T 9 (ar (_,_,_,_,_) [0,0,0,0] ⟨Z3,s7⟩ J J)))
  refine rc T 8 (ar (_,_,_,_,_) [0,0,0,0] ⟨Z3,s4⟩ J J)
 refine rc T 12 ?_
 cases Z3;exact p1 T J [3,1,0] ⟨a4,n4,H4,s4,J,J⟩ J
def ni.l0:Nat->bA->Int->(Int×Int)->(List Int)->List dZ->Int->Option (List dZ)
 |0,_,_,_,_,_,_=>none
 |k8+1,g,cell,v1,v3,x6,x7=>if x7<4 then(if(0<=x7/\x7<(List.length [(rd v3 0),(rd v3 1),(rd v3 2),(rd v3 3)]:Int)) then((yF.f v1.1 v1.2 cell (rd [(rd v3 0),(rd v3 1),(rd v3 2),(rd v3 3)] x7)).bind λv9=>(if v9≥0 then((tS.f g v9).bind λv12=>some v12) else(some false)).bind λaN=>if aN=true then((jc.f g v9).bind λlp=>if(List.length x6+1<=1099511627776) then(ni.l0 k8 g cell v1 v3 (x6++[(dZ.mk v9 lp)]) (aa (x7+1))) else none) else(ni.l0 k8 g cell v1 v3 x6 (aa (x7+1)))) else none) else(some x6)
def ni.f (g:bA) (cell:Int):Option (List dZ):=(iH.f g).bind λv1=>(tS.f g cell).bind λv2=>if(!v2)=true then(some []) else((yG.f).bind λv3=>ni.l0 fuel g cell v1 v3 [] 0)
def ni.R (r:(List dZ)) (u:Value) (G:List Hp):Prop:= ∃(a0:Option Addr) (n0:Nat) (H0:Hp),aj pr 283 r a0 n0 H0/\u=(ll a0 r n0)/\G=[H0]
theorem ni.c (H:ni.f g cell=some r) (fC:iC g fa fY):
 QR 176 [(pp fa),(ii cell)] [fY] [fY] F (ni.R r):=by
 unfold ni.f at H;refine aD Tryz.func176 J J (λW=>rc T 8 (k [0] J uc H (iH.c · fC) (λv1 H=>ro T 12 (k [0] J Nh H (tS.c · fC) (λv2 H=>ro T 3 (cb J H (λH=>?_) (λH=>?_)))))))
 ·refine rc T 7 ?_
  cases H;refine bw (p1 T J [2,0,0] ⟨none,0,[],aj.nil,J,J⟩ J)
 refine rc T 10 (k [] J Th H (yG.c ·) (λv3 H=>ro T 4 (bw (lq [0,1,5,6,20] [1,0] (λ(⟨k8,x6,x7,a4,n4,H4⟩:Nat×List dZ×Int×Option Addr×Nat×Hp)=>(ni.l0 k8 g cell v1 v3 x6 x7=some r/\aj pr 283 x6 a4 n4 H4,[(7,(ll a4 x6 n4)),(21,(ii x7))],[H4])) J J (fuel,[],0,none,0,[]) [1,0,0] ⟨H,aj.nil⟩ J J ?_))));rintro k8 ⟨x6,x7,a4,n4,H4⟩ ⟨Z5,s4⟩;rw[ni.l0] at Z5;refine rc T 6 (cd J Z5 (λZ5=>?_) (λZ5=>?_))
 ·refine rc T 6 ?_;obtain⟨c7,Z5⟩:=az Z5;refine br J (R_ T (Fl.int .i64) [(rd v3 0),(rd v3 1),(rd v3 2),(rd v3 3)] J J J J J J J J J c7 J) (ro T 9 (k [] J Ti Z5 (yF.c ·) (λv9 Z5=>ro T 3 (mq Z5 [0,1,5,6,7,10,20,21] [0,0,0] (λlO (aN:Bool)=>(aN=lO,[(35,(bb aN))],[])) J J (λlO Z9 _=>?_) ?_))))
  ·refine rc T 4 (ad 31 J Z9 (λZ9=>?_) (λZ9=>?_))
   ·refine ro T 2 (k [1] J Nh Z9 (tS.c · fC) (λv12 Z9=>ro T 3 (am _ [0,0,0] (oi Z9) J J)))
   refine ro T 6 (am _ [0,0,0] (oi Z9) J J)
  rintro _ aN rfl Z5;refine cb J Z5 (λZ5=>?_) (λZ5=>?_)
  ·refine rc T 5 (k [1] J vt Z5 (jc.c · fC) (λlp Z5=>ro T 1 (aX (cU (k:=pr) T [(dZ.mk v9 lp)] J J J J J J J J J (λa5 H5 s5=>?_)))));obtain⟨pa,Z5⟩:=az Z5;refine aX (d_ (k:=pr) (xs:=x6) T (g:=2) J J J J J J J J J J s4 (oO s5 3) pa J (λa6 n6 H6 s6=>ro T 9 (ar (_,_,_,_,_) [0,0,0] ⟨Z5,s6⟩ J J)))
  refine rc T 8 (ar (_,_,_,_,_) [0,0,0] ⟨Z5,s4⟩ J J)
 refine rc T 12 ?_
 cases Z5;exact p1 T J [2,1,0] ⟨a4,n4,H4,s4,J,J⟩ J
end
end Go.Proofs.YthodkonhneebbaaGreatDoor
