/- What the functions of some packages compute, each as a function of plain Lean, with its contract. No condition. -/
import Derived.Test.YthodkonhneebbaaGreatDoorKT
import Derived.Test.YthodkonhneebbaaGreatDoorK6
import Derived.Test.YthodkonhneebbaaGreatDoorK5
namespace Go.Proofs.YthodkonhneebbaaGreatDoor
open Go.Hx
set_option maxRecDepth 100000
set_option linter.unusedSimpArgs false
set_option linter.unusedVariables false
set_option maxHeartbeats 4000000
set_option autoImplicit true
set_option relaxedAutoImplicit true
noncomputable section
def D5.f (dir:Int):Option Bool:=some ((decide (dir<0))||(decide (dir>5)))
theorem D5.c (H:D5.f dir=some r):
 QU 197 [(ii dir)] [] F (bb r):=by
 unfold D5.f at H;refine aB Tryz.func197 J J (λW=>rc T 10 (go T [3,4,5] 5 [] 8 J J J J J J J (ro T 4 ?_)))
 cases H;exact p0 T J [0] J
def qN.l0:Nat->(List Int)->Int->Option Int
 |0,_,_=>none
 |k3+1,s,x2=>if x2<(List.length s:Int) then(if(0<=x2/\x2<(List.length s:Int)) then((D5.f (rd s x2)).bind λv4=>if v4=true then(some x2) else(qN.l0 k3 s (aa (x2+1)))) else none) else(some (-1))
def qN.f (s:(List Int)):Option Int:=qN.l0 fuel s 0
theorem qN.c (H:qN.f s=some r) (jv:aS (Fl.int .i64) s iN F) (rl:List.length s<=iR):
 QU 232 [(ll iN s iR),(.func (.func 197) #[] #[])] [] F (ii r):=by
 unfold qN.f at H;refine aB Tryz.func232 J J (λW=>rc T 14 (lq [0,1,7] [0] (λ(⟨k3,x2⟩:Nat×Int)=>(qN.l0 k3 s x2=some r,[(8,(ii x2))],[])) J J (fuel,0) [0] H J J ?_));rintro k3 x2 Z1;replace Z1:qN.l0 (k3+1) s x2=some r:=Z1;rw[qN.l0] at Z1;refine rc T 6 (cd J Z1 (λZ1=>?_) (λZ1=>?_))
 ·refine rc T 15 ?_;obtain⟨c3,Z1⟩:=az Z1;obtain⟨q1,o1,e1⟩:=jv.addr c3.1 c3.2;refine ix T J e1 c3 (le T 0 (rO jv 0) e1 c3 J J (k [] J acu Z1 (D5.c ·) (λv4 Z1=>ro T 2 (cb J Z1 (λZ1=>?_) (λZ1=>?_)))))
  ·refine rc T 12 ?_
   cases Z1;exact p0 T J [0] J
  refine rc T 8 (ar _ [0] Z1 J J)
 refine rc T 11 ?_
 cases Z1;exact p0 T J [0] J
def CV.f (s:(List Int)):Option Bool:=(qN.f s).bind λv1=>some (decide (v1≥0))
theorem CV.c (H:CV.f s=some r) (jv:aS (Fl.int .i64) s iN F) (rl:List.length s<=iR):
 QU 198 [(ll iN s iR),(.func (.func 197) #[] #[])] [] F (bb r):=by
 unfold CV.f at H;refine aB Tryz.func198 J J (λW=>rc T 9 (k [] J acQ H (qN.c · (rO jv 0) rl) (λv1 H=>ro T 5 ?_)))
 cases H;exact p0 T J [0] J
def vr.f (ag:me) (u:aF) (dir:Int):Option (Bool×me×aF):=if(dir==0)=true then((lZ.f ag.w ag.h u.Cell dir).bind λv1=>(if v1<0 then(some true) else(some (aO ag.jQ v1))).bind λx2=>if x2=true then(some (true,ag,u)) else(if(List.length ag.kq+1<=1099511627776) then(if(v1==u.Goal)=true then(if(List.length ag.gone+1<=1099511627776) then(some (false,(me.mk ag.w ag.h (dJ ag.jQ u.Cell) (ag.kq++[(fc.mk u.Id v1)]) (ag.gone++[u.Id])),(aF.mk u.Id v1 u.Goal))) else none) else(some (true,(me.mk ag.w ag.h (cC (dJ ag.jQ u.Cell) v1 true) (ag.kq++[(fc.mk u.Id v1)]) ag.gone),(aF.mk u.Id v1 u.Goal)))) else none)) else(if(dir==1)=true then((lZ.f ag.w ag.h u.Cell dir).bind λv4=>(if v4<0 then(some true) else(some (aO ag.jQ v4))).bind λx5=>if x5=true then(some (true,ag,u)) else(if(List.length ag.kq+1<=1099511627776) then(if(v4==u.Goal)=true then(if(List.length ag.gone+1<=1099511627776) then(some (false,(me.mk ag.w ag.h (dJ ag.jQ u.Cell) (ag.kq++[(fc.mk u.Id v4)]) (ag.gone++[u.Id])),(aF.mk u.Id v4 u.Goal))) else none) else(some (true,(me.mk ag.w ag.h (cC (dJ ag.jQ u.Cell) v4 true) (ag.kq++[(fc.mk u.Id v4)]) ag.gone),(aF.mk u.Id v4 u.Goal)))) else none)) else(if(dir==2)=true then((lZ.f ag.w ag.h u.Cell dir).bind λv7=>(if v7<0 then(some true) else(some (aO ag.jQ v7))).bind λx8=>if x8=true then(some (true,ag,u)) else(if(List.length ag.kq+1<=1099511627776) then(if(v7==u.Goal)=true then(if(List.length ag.gone+1<=1099511627776) then(some (false,(me.mk ag.w ag.h (dJ ag.jQ u.Cell) (ag.kq++[(fc.mk u.Id v7)]) (ag.gone++[u.Id])),(aF.mk u.Id v7 u.Goal))) else none) else(some (true,(me.mk ag.w ag.h (cC (dJ ag.jQ u.Cell) v7 true) (ag.kq++[(fc.mk u.Id v7)]) ag.gone),(aF.mk u.Id v7 u.Goal)))) else none)) else(if(dir==3)=true then((lZ.f ag.w ag.h u.Cell dir).bind λv10=>(if v10<0 then(some true) else(some (aO ag.jQ v10))).bind λbf=>if bf=true then(some (true,ag,u)) else(if(List.length ag.kq+1<=1099511627776) then(if(v10==u.Goal)=true then(if(List.length ag.gone+1<=1099511627776) then(some (false,(me.mk ag.w ag.h (dJ ag.jQ u.Cell) (ag.kq++[(fc.mk u.Id v10)]) (ag.gone++[u.Id])),(aF.mk u.Id v10 u.Goal))) else none) else(some (true,(me.mk ag.w ag.h (cC (dJ ag.jQ u.Cell) v10 true) (ag.kq++[(fc.mk u.Id v10)]) ag.gone),(aF.mk u.Id v10 u.Goal)))) else none)) else(some (true,ag,u)))))
def vr.R (aV:Nat) (eG:Nat) (r:(Bool×me×aF)) (u:Value) (G:List Hp):Prop:= ∃(a0:Nat) (H0:Hp) (a1:Option Addr) (n1:Nat) (H1:Hp) (a2:Option Addr) (n2:Nat) (H2:Hp),cP (Ky.int .i64 u3) (λx:Bool=>Value.bool x) r.2.1.jQ a0 H0/\aj jy 94 r.2.1.kq a1 n1 H1/\aj (Fl.int .i64) 3 r.2.1.gone a2 n2 H2/\u=(bb r.1)/\G=[(cl aV 309 [(ii r.2.1.w),(ii r.2.1.h),(.map (some a0)),(ll a1 r.2.1.kq n1),(ll a2 r.2.1.gone n2)]),H0,H1,H2,(cl eG 67 [(ii r.2.2.Id),(ii r.2.2.Cell),(ii r.2.2.Goal)])]
theorem vr.c (H:vr.f ag u dir=some r) (tc:cP (Ky.int .i64 u3) (λx:Bool=>Value.bool x) ag.jQ rk De) (zm:aj jy 94 ag.kq Dk D8 Dd) (s_:aj (Fl.int .i64) 3 ag.gone wA xj wq):
 QR 199 [(pp aV),(pp eG),(ii dir)] [(cl aV 309 [(ii ag.w),(ii ag.h),(.map (some rk)),(ll Dk ag.kq D8),(ll wA ag.gone xj)]),De,Dd,wq,(cl eG 67 [(ii u.Id),(ii u.Cell),(ii u.Goal)])] [] F (vr.R aV eG r):=by
 unfold vr.f at H;refine aB Tryz.func199 J J (λW=>rc T 25 (cb J H (λH=>?_) (λH=>?_)))
 ·refine rc T 10 (dj mix ay (au T J (au T J (au T J (aN J J J (aw T J J J J (aD (j:=0) J J)) (au T J (au T J (au T J (aN J J J (aw T J J J J (aD (j:=0) J J)) (au T J (au T J (au T J (aN J J J (aw T J J J J (aD (j:=4) J J)) (au T J ?_))))))))))))));obtain⟨v1,V2,H⟩:=fY H;refine tF J J J J J J Ae J (lZ.c V2) (au T J (cR (rx T 2 (mq H [0,1,7] [5,0,0,0,0,0] (λz3 (x2:Bool)=>(x2=z3,[(40,(bb x2))],[])) J J (λz3 Z3 _=>?_) ?_))))
  ·refine rc T 4 (ad 33 J Z3 (λZ3=>?_) (λZ3=>?_))
   ·refine ro T 9 (am _ [5,0,0,0,0,0] (oi Z3) J J)
   refine ro T 3 (lf T 0 J (ro T 1 (bp J (pO (k:=v1) T (Ky.int .i64 u3) (λx:Bool=>Value.bool x) J J J J J (oh tc (j:=1) J)) (ro T 3 (am _ [5,0,0,0,0,0] (oi Z3) J J)))))
  rintro _ x2 rfl H;refine cb J H (λH=>?_) (λH=>?_)
  ·refine rc T 10 ?_
   cases H;exact p1 T J [1,1,1,1,1,0] ⟨rk,De,Dk,D8,Dd,wA,xj,wq,tc,zm,s_,J,J⟩ J
  refine rc T 3 (fz J (rz [8] mix (bO bN) (λhg pf=>ha T 6 [0,1,2] sz hg pf J (av 3 sz hg pf J (aw T J J J J (aD (j:=1) J J)) (ha T 2 [4,5,6] sz hg pf J (av 7 sz hg pf J (aw T J J J J (aD (j:=5) J J)) (ao 8 (Dn (g:=2) (m:=ag.jQ) (k:=u.Cell) T (Ky.int .i64 u3) (λx:Bool=>Value.bool x) J J J J J J J J tc (λH6 s6=>an sl (ae (rx T 7 (sg T 5 J (ro T 3 (ks [0,1,7] J (fz J (rg [12,15] [0,0,0,0,0,0] mix (bO bN) (λhg pf=>ha T 12 [0,1,2,3] sz hg pf J (av 4 sz hg pf J (aw T J J J J (aD (j:=1) J J)) (ha T 8 [5,6,7] sz hg pf J (av 8 sz hg pf J (aw T J J J J (aD (j:=5) J J)) (ha T 5 [9,10] sz hg pf J (ao 11 (cU (k:=jy) T [(fc.mk u.Id v1)] J J J J J J J J J (λa7 H7 s7=>an (so [0,0,0,0,0,0]) (ao 12 ?_)))))))))))))))))))))))));obtain⟨c6,H⟩:=az H;refine dM (k:=jy) (xs:=ag.kq) T (g:=3) J J J J J J J J J J zm (oO s7 6) c6 J (λa8 n8 H8 s8=>an sl (hb T 13 sl hg pf J (hb T 14 sl hg pf J (ao 15 (sf T 1 J (an sl (ae (rx T 1 (rc T 7 (lf T 5 J (ro T 3 (cb J H (λH=>?_) (λH=>?_)))))))))))))
  ·refine rc T 1 (ke [0,1] [0,0,0,0,0,0] J J (fz J (rg [10,13] [0,0,0,0,0,0] mix (bO bN) (λhg pf=>ha T 10 [0,1,2,3] sz hg pf J (av 4 sz hg pf J (aw T J J J J (aD (j:=1) J J)) (ha T 6 [5,6,7] sz hg pf J (av 8 sz hg pf J (aw T J J J J (aD (j:=5) J J)) (ao 9 (cU (k:=(Fl.int .i64)) T [u.Id] J J J J J J J J J (λa9 H9 s9=>an (so [0,0,0,0,0,0]) (ao 10 ?_)))))))))));obtain⟨c8,H⟩:=az H;refine dM (k:=(Fl.int .i64)) (xs:=ag.gone) T (g:=4) J J J J J J J J J J s_ (oO s9 6) c8 J (λcw n10 bV bS=>an sl (hb T 11 sl hg pf J (hb T 12 sl hg pf J (ao 13 (sf T 1 J (an sl (ae (rx T 1 (rc T 10 ?_)))))))))
   cases H;exact p1 T J [1,1,1,1,1,0] ⟨rk,H6,a8,n8,H8,cw,n10,bV,s6,s8,bS,J,J⟩ J
  refine rc T 6 (lf T 1 J (ro T 1 (aW (pE (g:=2) (m:=(dJ ag.jQ u.Cell)) (k:=v1) (v:=true) T (Ky.int .i64 u3) (λx:Bool=>Value.bool x) J J J J J J J s6 (λcA cS=>ro T 11 ?_)))))
  cases H;exact p1 T J [1,1,1,1,1,0] ⟨rk,cA,a8,n8,H8,wA,xj,wq,cS,s8,s_,J,J⟩ J
 refine rc T 9 (cb J H (λH=>?_) (λH=>?_))
 ·refine rc T 10 (dj mix ay (au T J (au T J (au T J (aN J J J (aw T J J J J (aD (j:=0) J J)) (au T J (au T J (au T J (aN J J J (aw T J J J J (aD (j:=0) J J)) (au T J (au T J (au T J (aN J J J (aw T J J J J (aD (j:=4) J J)) (au T J ?_))))))))))))));obtain⟨v4,XH,H⟩:=fY H;refine tF J J J J J J Ae J (lZ.c XH) (au T J (cR (rx T 2 (mq H [0,1,7] [5,0,0,0,0,0] (λz6 (x5:Bool)=>(x5=z6,[(40,(bb x5))],[])) J J (λz6 ba _=>?_) ?_))))
  ·refine rc T 4 (ad 33 J ba (λba=>?_) (λba=>?_))
   ·refine ro T 9 (am _ [5,0,0,0,0,0] (oi ba) J J)
   refine ro T 3 (lf T 0 J (ro T 1 (bp J (pO (k:=v4) T (Ky.int .i64 u3) (λx:Bool=>Value.bool x) J J J J J (oh tc (j:=1) J)) (ro T 3 (am _ [5,0,0,0,0,0] (oi ba) J J)))))
  rintro _ x5 rfl H;refine cb J H (λH=>?_) (λH=>?_)
  ·refine rc T 10 ?_
   cases H;exact p1 T J [1,1,1,1,1,0] ⟨rk,De,Dk,D8,Dd,wA,xj,wq,tc,zm,s_,J,J⟩ J
  refine rc T 3 (fz J (rz [8] mix (bO bN) (λhg pf=>ha T 6 [0,1,2] sz hg pf J (av 3 sz hg pf J (aw T J J J J (aD (j:=1) J J)) (ha T 2 [4,5,6] sz hg pf J (av 7 sz hg pf J (aw T J J J J (aD (j:=5) J J)) (ao 8 (Dn (g:=2) (m:=ag.jQ) (k:=u.Cell) T (Ky.int .i64 u3) (λx:Bool=>Value.bool x) J J J J J J J J tc (λdw dD=>an sl (ae (rx T 7 (sg T 5 J (ro T 3 (ks [0,1,7] J (fz J (rg [12,15] [0,0,0,0,0,0] mix (bO bN) (λhg pf=>ha T 12 [0,1,2,3] sz hg pf J (av 4 sz hg pf J (aw T J J J J (aD (j:=1) J J)) (ha T 8 [5,6,7] sz hg pf J (av 8 sz hg pf J (aw T J J J J (aD (j:=5) J J)) (ha T 5 [9,10] sz hg pf J (ao 11 (cU (k:=jy) T [(fc.mk u.Id v4)] J J J J J J J J J (λdy eo dh=>an (so [0,0,0,0,0,0]) (ao 12 ?_)))))))))))))))))))))))));obtain⟨oJ,H⟩:=az H;refine dM (k:=jy) (xs:=ag.kq) T (g:=3) J J J J J J J J J J zm (oO dh 6) oJ J (λiC n14 fx dO=>an sl (hb T 13 sl hg pf J (hb T 14 sl hg pf J (ao 15 (sf T 1 J (an sl (ae (rx T 1 (rc T 7 (lf T 5 J (ro T 3 (cb J H (λH=>?_) (λH=>?_)))))))))))))
  ·refine rc T 1 (ke [0,1] [0,0,0,0,0,0] J J (fz J (rg [10,13] [0,0,0,0,0,0] mix (bO bN) (λhg pf=>ha T 10 [0,1,2,3] sz hg pf J (av 4 sz hg pf J (aw T J J J J (aD (j:=1) J J)) (ha T 6 [5,6,7] sz hg pf J (av 8 sz hg pf J (aw T J J J J (aD (j:=5) J J)) (ao 9 (cU (k:=(Fl.int .i64)) T [u.Id] J J J J J J J J J (λjT dF dK=>an (so [0,0,0,0,0,0]) (ao 10 ?_)))))))))));obtain⟨pG,H⟩:=az H;refine dM (k:=(Fl.int .i64)) (xs:=ag.gone) T (g:=4) J J J J J J J J J J s_ (oO dK 6) pG J (λjU n16 fV fP=>an sl (hb T 11 sl hg pf J (hb T 12 sl hg pf J (ao 13 (sf T 1 J (an sl (ae (rx T 1 (rc T 10 ?_)))))))))
   cases H;exact p1 T J [1,1,1,1,1,0] ⟨rk,dw,iC,n14,fx,jU,n16,fV,dD,dO,fP,J,J⟩ J
  refine rc T 6 (lf T 1 J (ro T 1 (aW (pE (g:=2) (m:=(dJ ag.jQ u.Cell)) (k:=v4) (v:=true) T (Ky.int .i64 u3) (λx:Bool=>Value.bool x) J J J J J J J dD (λdV fh=>ro T 11 ?_)))))
  cases H;exact p1 T J [1,1,1,1,1,0] ⟨rk,dV,iC,n14,fx,wA,xj,wq,fh,dO,s_,J,J⟩ J
 refine rc T 9 (cb J H (λH=>?_) (λH=>?_))
 ·refine rc T 10 (dj mix ay (au T J (au T J (au T J (aN J J J (aw T J J J J (aD (j:=0) J J)) (au T J (au T J (au T J (aN J J J (aw T J J J J (aD (j:=0) J J)) (au T J (au T J (au T J (aN J J J (aw T J J J J (aD (j:=4) J J)) (au T J ?_))))))))))))));obtain⟨v7,PJ,H⟩:=fY H;refine tF J J J J J J Ae J (lZ.c PJ) (au T J (cR (rx T 2 (mq H [0,1,7] [5,0,0,0,0,0] (λz9 (x8:Bool)=>(x8=z9,[(40,(bb x8))],[])) J J (λz9 eU _=>?_) ?_))))
  ·refine rc T 4 (ad 33 J eU (λeU=>?_) (λeU=>?_))
   ·refine ro T 9 (am _ [5,0,0,0,0,0] (oi eU) J J)
   refine ro T 3 (lf T 0 J (ro T 1 (bp J (pO (k:=v7) T (Ky.int .i64 u3) (λx:Bool=>Value.bool x) J J J J J (oh tc (j:=1) J)) (ro T 3 (am _ [5,0,0,0,0,0] (oi eU) J J)))))
  rintro _ x8 rfl H;refine cb J H (λH=>?_) (λH=>?_)
  ·refine rc T 10 ?_
   cases H;exact p1 T J [1,1,1,1,1,0] ⟨rk,De,Dk,D8,Dd,wA,xj,wq,tc,zm,s_,J,J⟩ J
  refine rc T 3 (fz J (rz [8] mix (bO bN) (λhg pf=>ha T 6 [0,1,2] sz hg pf J (av 3 sz hg pf J (aw T J J J J (aD (j:=1) J J)) (ha T 2 [4,5,6] sz hg pf J (av 7 sz hg pf J (aw T J J J J (aD (j:=5) J J)) (ao 8 (Dn (g:=2) (m:=ag.jQ) (k:=u.Cell) T (Ky.int .i64 u3) (λx:Bool=>Value.bool x) J J J J J J J J tc (λfb fq=>an sl (ae (rx T 7 (sg T 5 J (ro T 3 (ks [0,1,7] J (fz J (rg [12,15] [0,0,0,0,0,0] mix (bO bN) (λhg pf=>ha T 12 [0,1,2,3] sz hg pf J (av 4 sz hg pf J (aw T J J J J (aD (j:=1) J J)) (ha T 8 [5,6,7] sz hg pf J (av 8 sz hg pf J (aw T J J J J (aD (j:=5) J J)) (ha T 5 [9,10] sz hg pf J (ao 11 (cU (k:=jy) T [(fc.mk u.Id v7)] J J J J J J J J J (λl9 kF gQ=>an (so [0,0,0,0,0,0]) (ao 12 ?_)))))))))))))))))))))))));obtain⟨zU,H⟩:=az H;refine dM (k:=jy) (xs:=ag.kq) T (g:=3) J J J J J J J J J J zm (oO gQ 6) zU J (λa20 n20 nS lT=>an sl (hb T 13 sl hg pf J (hb T 14 sl hg pf J (ao 15 (sf T 1 J (an sl (ae (rx T 1 (rc T 7 (lf T 5 J (ro T 3 (cb J H (λH=>?_) (λH=>?_)))))))))))))
  ·refine rc T 1 (ke [0,1] [0,0,0,0,0,0] J J (fz J (rg [10,13] [0,0,0,0,0,0] mix (bO bN) (λhg pf=>ha T 10 [0,1,2,3] sz hg pf J (av 4 sz hg pf J (aw T J J J J (aD (j:=1) J J)) (ha T 6 [5,6,7] sz hg pf J (av 8 sz hg pf J (aw T J J J J (aD (j:=5) J J)) (ao 9 (cU (k:=(Fl.int .i64)) T [u.Id] J J J J J J J J J (λa21 lj jO=>an (so [0,0,0,0,0,0]) (ao 10 ?_)))))))))));obtain⟨LP,H⟩:=az H;refine dM (k:=(Fl.int .i64)) (xs:=ag.gone) T (g:=4) J J J J J J J J J J s_ (oO jO 6) LP J (λa22 n22 mj iI=>an sl (hb T 11 sl hg pf J (hb T 12 sl hg pf J (ao 13 (sf T 1 J (an sl (ae (rx T 1 (rc T 10 ?_)))))))))
   cases H;exact p1 T J [1,1,1,1,1,0] ⟨rk,fb,a20,n20,nS,a22,n22,mj,fq,lT,iI,J,J⟩ J
  refine rc T 6 (lf T 1 J (ro T 1 (aW (pE (g:=2) (m:=(dJ ag.jQ u.Cell)) (k:=v7) (v:=true) T (Ky.int .i64 u3) (λx:Bool=>Value.bool x) J J J J J J J fq (λjF gR=>ro T 11 ?_)))))
  cases H;exact p1 T J [1,1,1,1,1,0] ⟨rk,jF,a20,n20,nS,wA,xj,wq,gR,lT,s_,J,J⟩ J
 refine rc T 8 (cb J H (λH=>?_) (λH=>?_))
 ·refine rc T 9 (dj mix ay (au T J (au T J (au T J (aN J J J (aw T J J J J (aD (j:=0) J J)) (au T J (au T J (au T J (aN J J J (aw T J J J J (aD (j:=0) J J)) (au T J (au T J (au T J (aN J J J (aw T J J J J (aD (j:=4) J J)) (au T J ?_))))))))))))));obtain⟨v10,XJ,H⟩:=fY H;refine tF J J J J J J Ae J (lZ.c XJ) (au T J (cR (rx T 2 (mq H [0,1,7] [5,0,0,0,0,0] (λz12 (bf:Bool)=>(bf=z12,[(40,(bb bf))],[])) J J (λz12 EX _=>?_) ?_))))
  ·refine rc T 4 (ad 33 J EX (λEX=>?_) (λEX=>?_))
   ·refine ro T 9 (am _ [5,0,0,0,0,0] (oi EX) J J)
   refine ro T 3 (lf T 0 J (ro T 1 (bp J (pO (k:=v10) T (Ky.int .i64 u3) (λx:Bool=>Value.bool x) J J J J J (oh tc (j:=1) J)) (ro T 3 (am _ [5,0,0,0,0,0] (oi EX) J J)))))
  rintro _ bf rfl H;refine cb J H (λH=>?_) (λH=>?_)
  ·refine rc T 10 ?_
   cases H;exact p1 T J [1,1,1,1,1,0] ⟨rk,De,Dk,D8,Dd,wA,xj,wq,tc,zm,s_,J,J⟩ J
  refine rc T 3 (fz J (rz [8] mix (bO bN) (λhg pf=>ha T 6 [0,1,2] sz hg pf J (av 3 sz hg pf J (aw T J J J J (aD (j:=1) J J)) (ha T 2 [4,5,6] sz hg pf J (av 7 sz hg pf J (aw T J J J J (aD (j:=5) J J)) (ao 8 (Dn (g:=2) (m:=ag.jQ) (k:=u.Cell) T (Ky.int .i64 u3) (λx:Bool=>Value.bool x) J J J J J J J J tc (λqX lU=>an sl (ae (rx T 7 (sg T 5 J (ro T 3 (ks [0,1,7] J (fz J (rg [12,15] [0,0,0,0,0,0] mix (bO bN) (λhg pf=>ha T 12 [0,1,2,3] sz hg pf J (av 4 sz hg pf J (aw T J J J J (aD (j:=1) J J)) (ha T 8 [5,6,7] sz hg pf J (av 8 sz hg pf J (aw T J J J J (aD (j:=5) J J)) (ha T 5 [9,10] sz hg pf J (ao 11 (cU (k:=jy) T [(fc.mk u.Id v10)] J J J J J J J J J (λa25 gV jB=>an (so [0,0,0,0,0,0]) (ao 12 ?_)))))))))))))))))))))))));obtain⟨ZI,H⟩:=az H;refine dM (k:=jy) (xs:=ag.kq) T (g:=3) J J J J J J J J J J zm (oO jB 6) ZI J (λa26 n26 oB nF=>an sl (hb T 13 sl hg pf J (hb T 14 sl hg pf J (ao 15 (sf T 1 J (an sl (ae (rx T 1 (rc T 7 (lf T 5 J (ro T 3 (cb J H (λH=>?_) (λH=>?_)))))))))))))
  ·refine rc T 1 (ke [0,1] [0,0,0,0,0,0] J J (fz J (rg [10,13] [0,0,0,0,0,0] mix (bO bN) (λhg pf=>ha T 10 [0,1,2,3] sz hg pf J (av 4 sz hg pf J (aw T J J J J (aD (j:=1) J J)) (ha T 6 [5,6,7] sz hg pf J (av 8 sz hg pf J (aw T J J J J (aD (j:=5) J J)) (ao 9 (cU (k:=(Fl.int .i64)) T [u.Id] J J J J J J J J J (λIv EM vK=>an (so [0,0,0,0,0,0]) (ao 10 ?_)))))))))));obtain⟨ZJ,H⟩:=az H;refine dM (k:=(Fl.int .i64)) (xs:=ag.gone) T (g:=4) J J J J J J J J J J s_ (oO vK 6) ZJ J (λa28 n28 ux j4=>an sl (hb T 11 sl hg pf J (hb T 12 sl hg pf J (ao 13 (sf T 1 J (an sl (ae (rx T 1 (rc T 10 ?_)))))))))
   cases H;exact p1 T J [1,1,1,1,1,0] ⟨rk,qX,a26,n26,oB,a28,n28,ux,lU,nF,j4,J,J⟩ J
  refine rc T 6 (lf T 1 J (ro T 1 (aW (pE (g:=2) (m:=(dJ ag.jQ u.Cell)) (k:=v10) (v:=true) T (Ky.int .i64 u3) (λx:Bool=>Value.bool x) J J J J J J J lU (λqY qI=>ro T 11 ?_)))))
  cases H;exact p1 T J [1,1,1,1,1,0] ⟨rk,qY,a26,n26,oB,wA,xj,wq,qI,nF,s_,J,J⟩ J
 refine rc T 16 ?_
 cases H;exact p1 T J [0,0,0,0,0,0] ⟨rk,De,Dk,D8,Dd,wA,xj,wq,tc,zm,s_,J,J⟩ J
def jz.l1:Nat->Int->Int->(List aF)->(List Int)->List aF->Int->Int->(List (Int×Bool))->List fc->List Int->Int->Option ((List aF)×(List fc)×(List Int)×Int)
 |0,_,_,_,_,_,_,_,_,_,_,_=>none
 |o_+1,w,h,l,aL,db,dL,b_,lh,ei,bR,dQ=>if dQ<(List.length l:Int) then(if(0<=dQ/\dQ<(List.length l:Int)) then(if(0<=dQ/\dQ<(List.length aL:Int)) then((vr.f (me.mk dL b_ lh ei bR) (rd l dQ) (rd aL dQ)).bind λv25=>if v25.1=true then(if(List.length db+1<=1099511627776) then(jz.l1 o_ w h l aL (db++[v25.2.2]) v25.2.1.w v25.2.1.h v25.2.1.jQ v25.2.1.kq v25.2.1.gone (aa (dQ+1))) else none) else(jz.l1 o_ w h l aL db v25.2.1.w v25.2.1.h v25.2.1.jQ v25.2.1.kq v25.2.1.gone (aa (dQ+1)))) else none) else none) else(some (db,ei,bR,0))
def jz.l0:Nat->Int->Int->(List aF)->(List Int)->(List (Int×Bool))->Int->Option ((List aF)×(List fc)×(List Int)×Int)
 |0,_,_,_,_,_,_=>none
 |k9+1,w,h,l,aL,x7,x8=>if x8<(List.length l:Int) then(if(0<=x8/\x8<(List.length l:Int)) then(jz.l0 k9 w h l aL (cC x7 ((rd l x8).Cell) true) (aa (x8+1))) else none) else(jz.l1 fuel w h l aL [] w h x7 [] [] 0)
def jz.f (w:Int) (h:Int) (l:(List aF)) (aL:(List Int)):Option ((List aF)×(List fc)×(List Int)×Int):=((pj.f w h l).bind λv3=>if((!v3)||((List.length aL:Int)!=(List.length l:Int)))=true then(some true) else((CV.f aL).bind λv4=>some v4)).bind λx1=>if x1=true then(some ([],[],[],1)) else(jz.l0 fuel w h l aL ([]:(List (Int×Bool))) 0)
def jz.R (r:((List aF)×(List fc)×(List Int)×Int)) (u:Value) (G:List Hp):Prop:= ∃(a0:Option Addr) (n0:Nat) (H0:Hp) (a1:Option Addr) (n1:Nat) (H1:Hp) (a2:Option Addr) (n2:Nat) (H2:Hp),aj lD 67 r.1 a0 n0 H0/\aj jy 94 r.2.1 a1 n1 H1/\aj (Fl.int .i64) 3 r.2.2.1 a2 n2 H2/\u=(.tuple #[(ll a0 r.1 n0),(ll a1 r.2.1 n1),(ll a2 r.2.2.1 n2),(ii r.2.2.2)])/\G=[H0,H1,H2]
theorem jz.c (H:jz.f w h l aL=some r) (dg:aS lD l iu F) (gn:List.length l<=ic) (FJ:aS (Fl.int .i64) aL Lk F) (LV:List.length aL<=N'):
 QR 166 [(ii w),(ii h),(ll iu l ic),(ll Lk aL N')] [] [] F (jz.R r):=by
 unfold jz.f at H;refine aB Tryz.func166 J J (λW=>rc T 14 (mq H [0,1,2,3,8] [0] (λz2 (x1:Bool)=>(x1=z2,[(34,(bb x1))],[])) J J (λz2 Z1 _=>?_) ?_))
 ·refine rc T 4 (k [] J S3 Z1 (pj.c · (rO dg 0) gn) (λv3 Z1=>ro T 2 (go T [6,7,8,9,10,11] 23 [0,1,2,3,8,12] 29 J J J J J J J (ro T 1 (ab 30 J Z1 (λZ1=>?_) (λZ1=>?_))))))
  ·refine ro T 6 (am _ [0] (oi Z1) J J)
  refine ro T 2 (k [] J acv Z1 (CV.c · (rO FJ 0) LV) (λv4 Z1=>ro T 3 (am _ [0] (oi Z1) J J)))
 rintro _ x1 rfl H;refine cb J H (λH=>?_) (λH=>?_)
 ·refine rc T 10 ?_
  cases H;refine br (br (br (p1 T J [1,1,1,0] ⟨none,0,[],none,0,[],none,0,[],aj.nil,aj.nil,aj.nil,J,J⟩ J)))
 refine rc T 8 (aW (uJ T (Ky.int .i64 u3) (λx:Bool=>Value.bool x) J J J ⟨_,_,J⟩ (λa4 H4 s4=>ro T 1 (nc T J (λb5=>ro T 12 (lq [2,3,8,13,42,43] [0] (λ(⟨k9,x7,x8,a7,H7⟩:Nat×(List (Int×Bool))×Int×Nat×Hp)=>(jz.l0 k9 w h l aL x7 x8=some r/\cP (Ky.int .i64 u3) (λx:Bool=>Value.bool x) x7 a7 H7,[(44,(ii x8))],[(cl b5 309 [(ii w),(ii h),(.map (some a7)),nl,nl]),H7])) J J (fuel,([]:(List (Int×Bool))),0,a4,H4) [0,1,0] ⟨H,s4⟩ J J ?_))))));rintro k9 ⟨x7,x8,a7,H7⟩ ⟨Z6,s7⟩;rw[jz.l0] at Z6;refine rc T 6 (cd J Z6 (λZ6=>?_) (λZ6=>?_))
 ·refine rc T 6 ?_;obtain⟨c8,Z6⟩:=az Z6;obtain⟨q8,o8,e8⟩:=dg.addr c8.1 c8.2;refine ix T J e8 c8 (bp J (fm T (cs:=[(ii (rd l x8).Id),(ii (rd l x8).Cell),(ii (rd l x8).Goal)]) J J J J J J (gB (k:=lD) (rO dg 0) e8 c8 J)) (nc T J (λb9=>sg T 3 J (ro T 2 (ks [2,3,8,13,15,42,43,44] J (fz J (rz [6] mix (bO bN) (λhg pf=>ha T 4 [0,1,2] sz hg pf J (av 3 sz hg pf J (aw T J J J J (aD (j:=1) J J)) (ha T 2 [4] sz hg pf J (av 5 sz hg pf J (aw T J J J J (aD (j:=3) J J)) (ao 6 (pE (g:=2) (m:=x7) (k:=(rd l x8).Cell) (v:=true) T (Ky.int .i64 u3) (λx:Bool=>Value.bool x) J J J J J J J s7 (λbV bS=>an sl (ae (rx T 7 (ar (_,_,_,_) [0,0,0] ⟨Z6,bS⟩ J J)))))))))))))))))
 refine rc T 14 (br (br (br (lq [3,13,55,56] [0] (λ(⟨o_,db,dL,b_,lh,ei,bR,dQ,jT,n15,dF,jU,fV,a17,n17,dV,iY,n18,fb⟩:Nat×List aF×Int×Int×(List (Int×Bool))×List fc×List Int×Int×Option Addr×Nat×Hp×Nat×Hp×Option Addr×Nat×Hp×Option Addr×Nat×Hp)=>(jz.l1 o_ w h l aL db dL b_ lh ei bR dQ=some r/\aj lD 67 db jT n15 dF/\cP (Ky.int .i64 u3) (λx:Bool=>Value.bool x) lh jU fV/\aj jy 94 ei a17 n17 dV/\aj (Fl.int .i64) 3 bR iY n18 fb,[(8,(ll jT db n15)),(57,(ii dQ))],[dF,(cl b5 309 [(ii dL),(ii b_),(.map (some jU)),(ll a17 ei n17),(ll iY bR n18)]),fV,dV,fb])) J J (fuel,[],w,h,x7,[],[],0,none,0,[],a7,H7,none,0,[],none,0,[]) [0,2,0,0,0,0] ⟨Z6,aj.nil,s7,aj.nil,aj.nil⟩ J J ?_))));rintro o_ ⟨db,dL,b_,lh,ei,bR,dQ,jT,n15,dF,jU,fV,a17,n17,dV,iY,n18,fb⟩ ⟨Z9,dK,fP,fh,fq⟩;rw[jz.l1] at Z9;refine rc T 6 (cd J Z9 (λZ9=>?_) (λZ9=>?_))
 ·refine rc T 7 ?_;obtain⟨dZ,Z9⟩:=az Z9;obtain⟨VC,UY,rn⟩:=dg.addr dZ.1 dZ.2;refine ix T J rn dZ (bp J (fm T (cs:=[(ii (rd l dQ).Id),(ii (rd l dQ).Cell),(ii (rd l dQ).Goal)]) J J J J J J (gB (k:=lD) (rO dg 0) rn dZ J)) (nc T J (λIL=>ro T 1 (sg T 6 J (ro T 7 ?_)))));obtain⟨gY,Z9⟩:=az Z9;obtain⟨Ef,o21,Fw⟩:=FJ.addr gY.1 gY.2;refine ix T J Fw gY (le T 0 (rO FJ 0) Fw gY J J (kr (vr.R b5 IL) [] [2,2,2,2,2] J acw Z9 (vr.c (ag:=(me.mk dL b_ lh ei bR)) · fP fh fq) (λv25 Z9=>?_)));rintro _ _ ⟨a22,mj,a23,n23,jF,a24,n24,qX,iI,gR,lU,rfl,rfl⟩;refine fz J (ro T 2 (cb J Z9 (λZ9=>?_) (λZ9=>?_)))
  ·refine rc T 2 (lm T 6 J (aW (cU (k:=lD) T [v25.2.2] J J J J J J J J J (λa25 gV jB=>?_))));obtain⟨yu,Z9⟩:=az Z9;refine aW (dM (k:=lD) (xs:=db) T (g:=1) J J J J J J J J J J dK (oO jB 7) yu J (λa26 n26 oB nF=>ro T 2 (ke [3,8,13,55,56,57] [0,0,0,0,0,0] J J (rx T 7 (ar (_,_,_,_,_,_,_,_,_,_,_,_,_,_,_,_,_,_) [0,0,0,0,0,0] ⟨Z9,nF,iI,gR,lU⟩ J J)))))
  refine rc T 8 (ar (_,_,_,_,_,_,_,_,_,_,_,_,_,_,_,_,_,_) [0,0,0,0,0,0] ⟨Z9,dK,iI,gR,lU⟩ J J)
 refine rc T 6 (dj mix ay ?_)
 iterate 4 refine au T J ?_
 refine aN J J J (aw T J J J J (aD (j:=2) J J)) (au T J (au T J (au T J (aN J J J (aw T J J J J (aD (j:=2) J J)) ?_))))
 iterate 4 refine au T J ?_
 refine cR (rx T 2 ?_)
 cases Z9;exact p1 T J [1,3,3,0] ⟨jT,n15,dF,a17,n17,dV,iY,n18,fb,dK,fh,fq,J,J⟩ J
end
noncomputable section
def xP.f (most:Int):Option (Option eV):=if((decide (most<1))||(decide (most>65536)))=true then(some none) else(some (some (eV.mk most 0 ([]:(List (Int×aF))) [])))
def xP.R (r:(Option eV)) (u:Value) (G:List Hp):Prop:= ∃(u0:Value) (G0:List Hp),XA r u0 G0/\u=u0/\G=G0
theorem xP.c (H:xP.f most=some r):
 QR 152 [(ii most)] [] [] F (xP.R r):=by
 unfold xP.f at H;refine aB Tryz.func152 J J (λW=>rc T 11 (go T [3,4,5] 5 [0] 8 J J J J J J J (ro T 2 (cb J H (λH=>?_) (λH=>?_)))))
 ·refine rc T 7 ?_
  cases H;exact p1 T J [0] ⟨_,_,⟨J,J⟩,J,J⟩ J
 refine rc T 5 (aW (uJ T (Ky.int .i64 u3) (λx:aF=>Value.agg #[.int .i64 x.Id,.int .i64 x.Cell,.int .i64 x.Goal]) J J J trivial (λa1 H1 s1=>ro T 1 (nc T J (λb2=>ro T 4 ?_)))))
 cases H;refine br (p1 T J [2,1,1,0] ⟨_,_,⟨b2,a1,H1,none,0,[],s1,aj.nil,J,J⟩,J,J⟩ J)
def v_.f (u:eV):Option Int:=some (List.length u.live:Int)
theorem v_.c (H:v_.f u=some r) (jC:cP (Ky.int .i64 u3) (λx:aF=>Value.agg #[.int .i64 x.Id,.int .i64 x.Cell,.int .i64 x.Goal]) u.live iO j8) (j5:aj (Fl.int .i64) 3 u.order jq jA jo):
 QU 158 [(pp eG)] [(cl eG 178 [(ii u.most),(ii u.next),(.map (some iO)),(ll jq u.order jA)]),j8,jo] F (ii r):=by
 unfold v_.f at H;refine aB Tryz.func158 J J (λW=>rc T 12 (dW J (rc T 7 (lf T 0 J (bp J (Mt T (Ky.int .i64 u3) (λx:aF=>Value.agg #[.int .i64 x.Id,.int .i64 x.Cell,.int .i64 x.Goal]) J J J (oh jC (j:=1) J)) (ro T 4 ?_))))))
 cases H;exact p0 T J [0,0,0,0] J
def vZ.f (u:eV) (cell:Int) (goal:Int):Option (Int×Bool×eV):=if(List.length u.live:Int)≥u.most then(some (0,false,u)) else(if(List.length u.order+1<=1099511627776) then(some (u.next,true,(eV.mk u.most (aa (u.next+1)) (cC u.live u.next (aF.mk u.next cell goal)) (u.order++[u.next])))) else none)
def vZ.R (eG:Nat) (r:(Int×Bool×eV)) (u:Value) (G:List Hp):Prop:= ∃(a0:Nat) (H0:Hp) (a1:Option Addr) (n1:Nat) (H1:Hp),cP (Ky.int .i64 u3) (λx:aF=>Value.agg #[.int .i64 x.Id,.int .i64 x.Cell,.int .i64 x.Goal]) r.2.2.live a0 H0/\aj (Fl.int .i64) 3 r.2.2.order a1 n1 H1/\u=(.tuple #[(ii r.1),(bb r.2.1)])/\G=[(cl eG 178 [(ii r.2.2.most),(ii r.2.2.next),(.map (some a0)),(ll a1 r.2.2.order n1)]),H0,H1]
theorem vZ.c (H:vZ.f u cell goal=some r) (jC:cP (Ky.int .i64 u3) (λx:aF=>Value.agg #[.int .i64 x.Id,.int .i64 x.Cell,.int .i64 x.Goal]) u.live iO j8) (j5:aj (Fl.int .i64) 3 u.order jq jA jo):
 QR 156 [(pp eG),(ii cell),(ii goal)] [(cl eG 178 [(ii u.most),(ii u.next),(.map (some iO)),(ll jq u.order jA)]),j8,jo] [] F (vZ.R eG r):=by
 unfold vZ.f at H;refine aB Tryz.func156 J J (λW=>rc T 8 (dj mix ay ?_))
 iterate 6 refine au T J ?_
 refine aN J J J (aw T J J J J (aD (j:=0) J J)) (aN J J J (Mt T (Ky.int .i64 u3) (λx:aF=>Value.agg #[.int .i64 x.Id,.int .i64 x.Cell,.int .i64 x.Goal]) J J J (oh jC (j:=1) J)) (au T J (au T J (au T J (aN J J J (aw T J J J J (aD (j:=0) J J)) (au T J (au T J (cR (rx T 1 (cd J H (λH=>?_) (λH=>?_)))))))))))
 ·refine rc T 8 ?_
  cases H;exact p1 T J [0,0,0,0] ⟨iO,j8,jq,jA,jo,jC,j5,J,J⟩ J
 refine rc T 7 (lf T 0 J (ro T 8 (lf T 0 J (ro T 3 (sg T 0 J (ro T 7 (lf T 0 J (ro T 5 (aW (pE (g:=1) (m:=u.live) (k:=u.next) (v:=(aF.mk u.next cell goal)) T (Ky.int .i64 u3) (λx:aF=>Value.agg #[.int .i64 x.Id,.int .i64 x.Cell,.int .i64 x.Goal]) J J J J J J J jC (λH4 s4=>ro T 8 (lf T 0 J (ro T 1 (aW (cU (k:=(Fl.int .i64)) T [u.next] J J J J J J J J J (λa5 H5 s5=>?_))))))))))))))))
 obtain⟨c2,H⟩:=az H;refine aW (dM (k:=(Fl.int .i64)) (xs:=u.order) T (g:=2) J J J J J J J J J J j5 (oO s5 4) c2 J (λa6 n6 H6 s6=>ro T 2 (sg T 0 J (ro T 1 (ke [8] [0,0,0,0] J J (rx T 9 ?_))))))
 cases H;exact p1 T J [0,0,0,0] ⟨iO,H4,a6,n6,H6,s4,s6,J,J⟩ J
def oz.f (u:eV) (ai:Int):Option (aF×Bool):=some ((aF.mk ((aO u.live ai).Id) ((aO u.live ai).Cell) ((aO u.live ai).Goal)),(bQ u.live ai))
theorem oz.c (H:oz.f u ai=some r) (jC:cP (Ky.int .i64 u3) (λx:aF=>Value.agg #[.int .i64 x.Id,.int .i64 x.Cell,.int .i64 x.Goal]) u.live iO j8) (j5:aj (Fl.int .i64) 3 u.order jq jA jo):
 QU 122 [(pp eG),(ii ai)] [(cl eG 178 [(ii u.most),(ii u.next),(.map (some iO)),(ll jq u.order jA)]),j8,jo] F (.tuple #[(.agg #[(ii r.1.Id),(ii r.1.Cell),(ii r.1.Goal)]),(bb r.2)]):=by
 unfold oz.f at H;refine aB Tryz.func122 J J (λW=>rc T 2 (nc T J (λb4=>ro T 10 (dW J (rc T 7 (lf T 0 J (ro T 1 (bp J (pO (k:=ai) T (Ky.int .i64 u3) (λx:aF=>Value.agg #[.int .i64 x.Id,.int .i64 x.Cell,.int .i64 x.Goal]) J J J J J (oh jC (j:=1) J)) (ro T 3 (nc T J (λb5=>sg T 5 J (ro T 5 (lm T 5 J (ro T 1 (sg T 4 J (ro T 2 (ke [4,5] [0,0,0,0,0] J J (rx T 1 (rc T 1 ?_)))))))))))))))))))
 cases H;exact pb T J (.cQ (j:=4) [(ii (aO u.live ai).Id),(ii (aO u.live ai).Cell),(ii (aO u.live ai).Goal)] J J J J J J J (.tmp J .nil)) [0,0,0,0] () J J
def lG.l0:Nat->eV->List Int->Int->Option (List Int)
 |0,_,_,_=>none
 |k5+1,u,x3,x4=>if x4<(List.length u.order:Int) then(if(0<=x4/\x4<(List.length u.order:Int)) then(if(bQ u.live (rd u.order x4))=true then(if(List.length x3+1<=1099511627776) then(lG.l0 k5 u (x3++[(rd u.order x4)]) (aa (x4+1))) else none) else(lG.l0 k5 u x3 (aa (x4+1)))) else none) else(some x3)
def lG.f (u:eV):Option (List Int):=lG.l0 fuel u [] 0
def lG.R (r:(List Int)) (u:Value) (G:List Hp):Prop:= ∃(a0:Option Addr) (n0:Nat) (H0:Hp),aj (Fl.int .i64) 3 r a0 n0 H0/\u=(ll a0 r n0)/\G=[H0]
theorem lG.c (H:lG.f u=some r) (jC:cP (Ky.int .i64 u3) (λx:aF=>Value.agg #[.int .i64 x.Id,.int .i64 x.Cell,.int .i64 x.Goal]) u.live iO j8) (j5:aj (Fl.int .i64) 3 u.order jq jA jo):
 QR 109 [(pp eG)] [(cl eG 178 [(ii u.most),(ii u.next),(.map (some iO)),(ll jq u.order jA)]),j8,jo] [(cl eG 178 [(ii u.most),(ii u.next),(.map (some iO)),(ll jq u.order jA)]),j8,jo] F (lG.R r):=by
 unfold lG.f at H;refine aB Tryz.func109 J J (λW=>rc T 16 (lf T 0 J (ro T 5 (br (lq [0,11,12] [3,0,0,0] (λ(⟨k5,x3,x4,a5,n5,H5⟩:Nat×List Int×Int×Option Addr×Nat×Hp)=>(lG.l0 k5 u x3 x4=some r/\aj (Fl.int .i64) 3 x3 a5 n5 H5,[(3,(ll a5 x3 n5)),(13,(ii x4))],[H5])) J J (fuel,[],0,none,0,[]) [3,0,0,0,0] ⟨H,aj.nil⟩ J J ?_)))));rintro k5 ⟨x3,x4,a5,n5,H5⟩ ⟨Z1,s5⟩;rw[lG.l0] at Z1;refine rc T 6 (cd J Z1 (λZ1=>?_) (λZ1=>?_))
 ·refine rc T 6 ?_;obtain⟨c3,Z1⟩:=az Z1;obtain⟨q6,o6,e6⟩:=j5.r.addr c3.1 c3.2;refine ix T J e6 c3 (le T 0 (oO j5 3) e6 c3 J J (ro T 8 (lf T 1 J (ro T 1 (bp J (pO (k:=(rd u.order x4)) T (Ky.int .i64 u3) (λx:aF=>Value.agg #[.int .i64 x.Id,.int .i64 x.Cell,.int .i64 x.Goal]) J J J J J (oh jC (j:=2) J)) (ro T 3 (nc T J (λb7=>sg T 5 J (ro T 8 (cb J Z1 (λZ1=>?_) (λZ1=>?_)))))))))))
  ·refine rc T 3 (aW (cU (k:=(Fl.int .i64)) T [(rd u.order x4)] J J J J J J J J J (λa8 H8 s8=>?_)));obtain⟨c5,Z1⟩:=az Z1;refine aW (dM (k:=(Fl.int .i64)) (xs:=x3) T (g:=4) J J J J J J J J J J s5 (oO s8 6) c5 J (λa9 n9 H9 s9=>ro T 9 (ar (_,_,_,_,_) [0,0,0,0,0] ⟨Z1,s9⟩ J J)))
  refine rc T 8 (ar (_,_,_,_,_) [0,0,0,0,0] ⟨Z1,s5⟩ J J)
 refine rc T 12 ?_
 cases Z1;exact p1 T J [4,1,1,1,0] ⟨a5,n5,H5,s5,J,J⟩ J
def xR.f (u:eV) (ai:Int):Option (Bool×eV):=(oz.f u ai).bind λv1=>if(!v1.2)=true then(some (false,u)) else(if(List.length u.order:Int)>(aa (2*(List.length (dJ u.live ai):Int))) then((lG.f (eV.mk u.most u.next (dJ u.live ai) u.order)).bind λv2=>some (true,(eV.mk u.most u.next (dJ u.live ai) v2))) else(some (true,(eV.mk u.most u.next (dJ u.live ai) u.order))))
def xR.R (eG:Nat) (r:(Bool×eV)) (u:Value) (G:List Hp):Prop:= ∃(a0:Nat) (H0:Hp) (a1:Option Addr) (n1:Nat) (H1:Hp),cP (Ky.int .i64 u3) (λx:aF=>Value.agg #[.int .i64 x.Id,.int .i64 x.Cell,.int .i64 x.Goal]) r.2.live a0 H0/\aj (Fl.int .i64) 3 r.2.order a1 n1 H1/\u=(bb r.1)/\G=[(cl eG 178 [(ii r.2.most),(ii r.2.next),(.map (some a0)),(ll a1 r.2.order n1)]),H0,H1]
theorem xR.c (H:xR.f u ai=some r) (jC:cP (Ky.int .i64 u3) (λx:aF=>Value.agg #[.int .i64 x.Id,.int .i64 x.Cell,.int .i64 x.Goal]) u.live iO j8) (j5:aj (Fl.int .i64) 3 u.order jq jA jo):
 QR 159 [(pp eG),(ii ai)] [(cl eG 178 [(ii u.most),(ii u.next),(.map (some iO)),(ll jq u.order jA)]),j8,jo] [] F (xR.R eG r):=by
 unfold xR.f at H;refine aB Tryz.func159 J J (λW=>rc T 9 (k [0,0,0] J BP H (oz.c · jC j5) (λv1 H=>ro T 3 (nc T J (λb4=>sg T 4 J (ro T 10 (cb J H (λH=>?_) (λH=>?_))))))))
 ·refine rc T 7 ?_
  cases H;exact p1 T J [0,0,0,0] ⟨iO,j8,jq,jA,jo,jC,j5,J,J⟩ J
 refine rc T 7 (lf T 0 J (ro T 1 (aW (Dn (g:=1) (m:=u.live) (k:=ai) T (Ky.int .i64 u3) (λx:aF=>Value.agg #[.int .i64 x.Id,.int .i64 x.Cell,.int .i64 x.Goal]) J J J J J J J J jC (λH5 s5=>ro T 4 (dj mix ay (au T J (au T J (au T J (aN J J J (aw T J J J J (aD (j:=0) J J)) ?_))))))))))
 iterate 4 refine au T J ?_
 refine aN J J J (aw T J J J J (aD (j:=0) J J)) (aN J J J (Mt T (Ky.int .i64 u3) (λx:aF=>Value.agg #[.int .i64 x.Id,.int .i64 x.Cell,.int .i64 x.Goal]) J J J (oh s5 (j:=1) J)) (au T J (au T J (cR (rx T 1 (cd J H (λH=>?_) (λH=>?_)))))))
 ·refine rc T 3 (kr lG.R [0,0,0] [0,0,0] J Sg H (lG.c (u:=(eV.mk u.most u.next (dJ u.live ai) u.order)) · s5 j5) (λv2 H=>?_))
  rintro _ _ ⟨a6,n6,H6,s6,rfl,rfl⟩;refine fz J (ro T 2 (sg T 3 J (ro T 1 (ke [] [0,1,1,1] J J (rx T 7 ?_)))))
  cases H;exact p1 T J [2,2,1,0] ⟨iO,H5,a6,n6,H6,s5,s6,J,J⟩ J
 refine rc T 8 ?_
 cases H;exact p1 T J [0,0,0,0] ⟨iO,H5,jq,jA,jo,s5,j5,J,J⟩ J
def A'.f (x:aF) (ai:Int):Option aF:=some (aF.mk x.Id x.Cell ai)
def A'.R (yo:Nat) (r:aF) (u:Value) (G:List Hp):Prop:=u=(.tuple #[])/\G=[(cl yo 67 [(ii r.Id),(ii r.Cell),(ii r.Goal)])]
theorem A'.c (H:A'.f x ai=some r):
 QR 162 [(pp yo),(pp tG)] [(cl yo 67 [(ii x.Id),(ii x.Cell),(ii x.Goal)]),(cl tG 3 [(ii ai)])] [(cl tG 3 [(ii ai)])] F (A'.R yo r):=by
 unfold A'.f at H;refine aB Tryz.func162 J J (λW=>rc T 2 (lf T 1 J (ro T 2 (sg T 0 J (ro T 1 (i_ ?_))))))
 cases H;exact p1 T J [0,0,0] ⟨J,J⟩ J
def xU.f (u:eV) (ai:Int) (za:Int):Option (Bool×eV):=(oz.f u ai).bind λv1=>if v1.2=true then((A'.f v1.1 za).bind λv2=>some (v1.2,(eV.mk u.most u.next (cC u.live ai v2) u.order))) else(some (v1.2,u))
def xU.R (eG:Nat) (r:(Bool×eV)) (u:Value) (G:List Hp):Prop:= ∃(a0:Nat) (H0:Hp) (a1:Option Addr) (n1:Nat) (H1:Hp),cP (Ky.int .i64 u3) (λx:aF=>Value.agg #[.int .i64 x.Id,.int .i64 x.Cell,.int .i64 x.Goal]) r.2.live a0 H0/\aj (Fl.int .i64) 3 r.2.order a1 n1 H1/\u=(bb r.1)/\G=[(cl eG 178 [(ii r.2.most),(ii r.2.next),(.map (some a0)),(ll a1 r.2.order n1)]),H0,H1]
theorem xU.c (H:xU.f u ai za=some r) (jC:cP (Ky.int .i64 u3) (λx:aF=>Value.agg #[.int .i64 x.Id,.int .i64 x.Cell,.int .i64 x.Goal]) u.live iO j8) (j5:aj (Fl.int .i64) 3 u.order jq jA jo):
 QR 161 [(pp eG),(ii ai),(.func (.func 162) #[] #[(pp Fm)])] [(cl eG 178 [(ii u.most),(ii u.next),(.map (some iO)),(ll jq u.order jA)]),j8,jo,(cl Fm 3 [(ii za)])] [(cl Fm 3 [(ii za)])] F (xU.R eG r):=by
 unfold xU.f at H;refine aB Tryz.func161 J J (λW=>rc T 9 (k [0,0,0] J BP H (oz.c · jC j5) (λv1 H=>ro T 3 (nc T J (λb5=>sg T 5 J (ro T 9 (cb J H (λH=>?_) (λH=>?_))))))))
 ·refine rc T 3 (kr (A'.R b5) [3] [5,3] J ab_ H (A'.c ·) (λv2 H=>?_));rintro _ _ ⟨rfl,rfl⟩;refine fz J (ro T 2 (ks [0,1,7,8] J (fz J (rz [6] mix (bO bN) (λhg pf=>ha T 4 [0,1,2] sz hg pf J (av 3 sz hg pf J (aw T J J J J (aD (j:=0) J J)) (ha T 2 [4] sz hg pf J (av 5 sz hg pf J (gA T 4 J J J J J J J) (ao 6 (pE (g:=1) (m:=u.live) (k:=ai) (v:=v2) T (Ky.int .i64 u3) (λx:aF=>Value.agg #[.int .i64 x.Id,.int .i64 x.Cell,.int .i64 x.Goal]) J J J J J J J jC (λH6 s6=>an sl (ae (rx T 8 ?_)))))))))))))
  cases H;exact p1 T J [0,0,0,2,0] ⟨iO,H6,jq,jA,jo,s6,j5,J,J⟩ J
 refine rc T 9 ?_
 cases H;exact p1 T J [0,0,0,0,0] ⟨iO,j8,jq,jA,jo,jC,j5,J,J⟩ J
def xQ.f (u:eV) (ai:Int) (goal:Int):Option (Bool×eV):=(xU.f u ai goal).bind λv1=>some (v1.1,v1.2)
def xQ.R (eG:Nat) (r:(Bool×eV)) (u:Value) (G:List Hp):Prop:= ∃(a0:Nat) (H0:Hp) (a1:Option Addr) (n1:Nat) (H1:Hp),cP (Ky.int .i64 u3) (λx:aF=>Value.agg #[.int .i64 x.Id,.int .i64 x.Cell,.int .i64 x.Goal]) r.2.live a0 H0/\aj (Fl.int .i64) 3 r.2.order a1 n1 H1/\u=(bb r.1)/\G=[(cl eG 178 [(ii r.2.most),(ii r.2.next),(.map (some a0)),(ll a1 r.2.order n1)]),H0,H1]
theorem xQ.c (H:xQ.f u ai goal=some r) (jC:cP (Ky.int .i64 u3) (λx:aF=>Value.agg #[.int .i64 x.Id,.int .i64 x.Cell,.int .i64 x.Goal]) u.live iO j8) (j5:aj (Fl.int .i64) 3 u.order jq jA jo):
 QR 126 [(pp eG),(ii ai),(ii goal)] [(cl eG 178 [(ii u.most),(ii u.next),(.map (some iO)),(ll jq u.order jA)]),j8,jo] [] F (xQ.R eG r):=by
 unfold xQ.f at H;refine aB Tryz.func126 J J (λW=>rc T 2 (nc T J (λb4=>ro T 8 (kr (xU.R eG) [4] [0,0,0,1] J Su H (xU.c · jC j5) (λv1 H=>?_)))));rintro _ _ ⟨a5,H5,a6,n6,H6,s5,s6,rfl,rfl⟩;refine fz J (ro T 4 ?_)
 cases H;exact p1 T J [1,1,1,0] ⟨a5,H5,a6,n6,H6,s5,s6,J,J⟩ J
def oy.l0:Nat->eV->(List Int)->List aF->Int->Option (List aF)
 |0,_,_,_,_=>none
 |k6+1,u,v1,x4,x5=>if x5<(List.length v1:Int) then(if(0<=x5/\x5<(List.length v1:Int)) then(if(List.length x4+1<=1099511627776) then(oy.l0 k6 u v1 (x4++[(aF.mk ((aO u.live (rd v1 x5)).Id) ((aO u.live (rd v1 x5)).Cell) ((aO u.live (rd v1 x5)).Goal))]) (aa (x5+1))) else none) else none) else(some x4)
def oy.f (u:eV):Option (List aF):=(lG.f u).bind λv1=>oy.l0 fuel u v1 [] 0
def oy.R (r:(List aF)) (u:Value) (G:List Hp):Prop:= ∃(a0:Option Addr) (n0:Nat) (H0:Hp),aj lD 67 r a0 n0 H0/\u=(ll a0 r n0)/\G=[H0]
theorem oy.c (H:oy.f u=some r) (jC:cP (Ky.int .i64 u3) (λx:aF=>Value.agg #[.int .i64 x.Id,.int .i64 x.Cell,.int .i64 x.Goal]) u.live iO j8) (j5:aj (Fl.int .i64) 3 u.order jq jA jo):
 QR 81 [(pp eG)] [(cl eG 178 [(ii u.most),(ii u.next),(.map (some iO)),(ll jq u.order jA)]),j8,jo] [(cl eG 178 [(ii u.most),(ii u.next),(.map (some iO)),(ll jq u.order jA)]),j8,jo] F (oy.R r):=by
 unfold oy.f at H;refine aB Tryz.func81 J J (λW=>rc T 12 (dW J (rc T 11 (kr lG.R [0,0,0] [0,0,0] J Sg H (lG.c · jC j5) (λv1 H=>?_)))));rintro _ _ ⟨a4,n4,H4,s4,rfl,rfl⟩;refine fz J (ro T 5 (br (lq [0,9,10] [0,1,1,1,0] (λ(⟨k6,x4,x5,a6,n6,H6⟩:Nat×List aF×Int×Option Addr×Nat×Hp)=>(oy.l0 k6 u v1 x4 x5=some r/\aj lD 67 x4 a6 n6 H6,[(3,(ll a6 x4 n6)),(11,(ii x5))],[H6])) J J (fuel,[],0,none,0,[]) [0,1,1,1,0,0] ⟨H,aj.nil⟩ J J ?_)));rintro k6 ⟨x4,x5,a6,n6,H6⟩ ⟨Z2,s6⟩;rw[oy.l0] at Z2;refine rc T 6 (cd J Z2 (λZ2=>?_) (λZ2=>?_))
 ·refine rc T 6 ?_;obtain⟨c4,Z2⟩:=az Z2;obtain⟨q7,o7,e7⟩:=s4.r.addr c4.1 c4.2;refine ix T J e7 c4 (le T 0 (oO s4 4) e7 c4 J J (ro T 8 (lf T 1 J (ro T 1 (bp J (pO (k:=(rd v1 x5)) T (Ky.int .i64 u3) (λx:aF=>Value.agg #[.int .i64 x.Id,.int .i64 x.Cell,.int .i64 x.Goal]) J J J J J (oh jC (j:=2) J)) (aW (cU (k:=lD) T [(aF.mk ((aO u.live (rd v1 x5)).Id) ((aO u.live (rd v1 x5)).Cell) ((aO u.live (rd v1 x5)).Goal))] J J J J J J J J J (λa8 H8 s8=>?_))))))));obtain⟨c5,Z2⟩:=az Z2;refine aW (dM (k:=lD) (xs:=x4) T (g:=5) J J J J J J J J J J s6 (oO s8 6) c5 J (λa9 n9 H9 s9=>ro T 9 (ar (_,_,_,_,_) [0,0,0,0,0,0] ⟨Z2,s9⟩ J J)))
 refine rc T 12 ?_
 cases Z2;exact p1 T J [5,1,1,1,0] ⟨a6,n6,H6,s6,J,J⟩ J
def Ba.f (x:aF) (ai:Int):Option aF:=some (aF.mk x.Id ai x.Goal)
def Ba.R (yo:Nat) (r:aF) (u:Value) (G:List Hp):Prop:=u=(.tuple #[])/\G=[(cl yo 67 [(ii r.Id),(ii r.Cell),(ii r.Goal)])]
theorem Ba.c (H:Ba.f x ai=some r):
 QR 200 [(pp yo),(pp tG)] [(cl yo 67 [(ii x.Id),(ii x.Cell),(ii x.Goal)]),(cl tG 3 [(ii ai)])] [(cl tG 3 [(ii ai)])] F (Ba.R yo r):=by
 unfold Ba.f at H;refine aB Tryz.func200 J J (λW=>rc T 2 (lf T 1 J (ro T 2 (sg T 0 J (ro T 1 (i_ ?_))))))
 cases H;exact p1 T J [0,0,0] ⟨J,J⟩ J
def xV.f (u:eV) (ai:Int) (za:Int):Option (Bool×eV):=(oz.f u ai).bind λv1=>if v1.2=true then((Ba.f v1.1 za).bind λv2=>some (v1.2,(eV.mk u.most u.next (cC u.live ai v2) u.order))) else(some (v1.2,u))
def xV.R (eG:Nat) (r:(Bool×eV)) (u:Value) (G:List Hp):Prop:= ∃(a0:Nat) (H0:Hp) (a1:Option Addr) (n1:Nat) (H1:Hp),cP (Ky.int .i64 u3) (λx:aF=>Value.agg #[.int .i64 x.Id,.int .i64 x.Cell,.int .i64 x.Goal]) r.2.live a0 H0/\aj (Fl.int .i64) 3 r.2.order a1 n1 H1/\u=(bb r.1)/\G=[(cl eG 178 [(ii r.2.most),(ii r.2.next),(.map (some a0)),(ll a1 r.2.order n1)]),H0,H1]
theorem xV.c (H:xV.f u ai za=some r) (jC:cP (Ky.int .i64 u3) (λx:aF=>Value.agg #[.int .i64 x.Id,.int .i64 x.Cell,.int .i64 x.Goal]) u.live iO j8) (j5:aj (Fl.int .i64) 3 u.order jq jA jo):
 QR 161 [(pp eG),(ii ai),(.func (.func 200) #[] #[(pp Fm)])] [(cl eG 178 [(ii u.most),(ii u.next),(.map (some iO)),(ll jq u.order jA)]),j8,jo,(cl Fm 3 [(ii za)])] [(cl Fm 3 [(ii za)])] F (xV.R eG r):=by
 unfold xV.f at H;refine aB Tryz.func161 J J (λW=>rc T 9 (k [0,0,0] J BP H (oz.c · jC j5) (λv1 H=>ro T 3 (nc T J (λb5=>sg T 5 J (ro T 9 (cb J H (λH=>?_) (λH=>?_))))))))
 ·refine rc T 3 (kr (Ba.R b5) [3] [5,3] J acy H (Ba.c ·) (λv2 H=>?_));rintro _ _ ⟨rfl,rfl⟩;refine fz J (ro T 2 (ks [0,1,7,8] J (fz J (rz [6] mix (bO bN) (λhg pf=>ha T 4 [0,1,2] sz hg pf J (av 3 sz hg pf J (aw T J J J J (aD (j:=0) J J)) (ha T 2 [4] sz hg pf J (av 5 sz hg pf J (gA T 4 J J J J J J J) (ao 6 (pE (g:=1) (m:=u.live) (k:=ai) (v:=v2) T (Ky.int .i64 u3) (λx:aF=>Value.agg #[.int .i64 x.Id,.int .i64 x.Cell,.int .i64 x.Goal]) J J J J J J J jC (λH6 s6=>an sl (ae (rx T 8 ?_)))))))))))))
  cases H;exact p1 T J [0,0,0,2,0] ⟨iO,H6,jq,jA,jo,s6,j5,J,J⟩ J
 refine rc T 9 ?_
 cases H;exact p1 T J [0,0,0,0,0] ⟨iO,j8,jq,jA,jo,jC,j5,J,J⟩ J
def xS.f (u:eV) (ai:Int) (cell:Int):Option (Bool×eV):=(xV.f u ai cell).bind λv1=>some (v1.1,v1.2)
def xS.R (eG:Nat) (r:(Bool×eV)) (u:Value) (G:List Hp):Prop:= ∃(a0:Nat) (H0:Hp) (a1:Option Addr) (n1:Nat) (H1:Hp),cP (Ky.int .i64 u3) (λx:aF=>Value.agg #[.int .i64 x.Id,.int .i64 x.Cell,.int .i64 x.Goal]) r.2.live a0 H0/\aj (Fl.int .i64) 3 r.2.order a1 n1 H1/\u=(bb r.1)/\G=[(cl eG 178 [(ii r.2.most),(ii r.2.next),(.map (some a0)),(ll a1 r.2.order n1)]),H0,H1]
theorem xS.c (H:xS.f u ai cell=some r) (jC:cP (Ky.int .i64 u3) (λx:aF=>Value.agg #[.int .i64 x.Id,.int .i64 x.Cell,.int .i64 x.Goal]) u.live iO j8) (j5:aj (Fl.int .i64) 3 u.order jq jA jo):
 QR 168 [(pp eG),(ii ai),(ii cell)] [(cl eG 178 [(ii u.most),(ii u.next),(.map (some iO)),(ll jq u.order jA)]),j8,jo] [] F (xS.R eG r):=by
 unfold xS.f at H;refine aB Tryz.func168 J J (λW=>rc T 2 (nc T J (λb4=>ro T 8 (kr (xV.R eG) [4] [0,0,0,1] J Su H (xV.c · jC j5) (λv1 H=>?_)))));rintro _ _ ⟨a5,H5,a6,n6,H6,s5,s6,rfl,rfl⟩;refine fz J (ro T 4 ?_)
 cases H;exact p1 T J [1,1,1,0] ⟨a5,H5,a6,n6,H6,s5,s6,J,J⟩ J
end
noncomputable section
def uS.f (w:Int) (h:Int) (most:Int):Option (Option d_):=(nP.f w h).bind λv1=>if(((!v1)||(decide (most<1)))||(decide (most>65536)))=true then(some none) else((xP.f most).bind λv2=>c_ v2 ((sC.f (aa (w*h))).bind λv3=>c_ v3 (none) (λzH=>none)) (λrV=>(sC.f (aa (w*h))).bind λv4=>c_ v4 (none) (λqV=>some (some (d_.mk w h most rV qV)))))
def uS.R (r:(Option d_)) (u:Value) (G:List Hp):Prop:= ∃(u0:Value) (G0:List Hp),Xo r u0 G0/\u=u0/\G=G0
theorem uS.c (H:uS.f w h most=some r):
 QR 116 [(ii w),(ii h),(ii most)] [] [] F (uS.R r):=by
 unfold uS.f at H;refine aB Tryz.func116 J J (λW=>rc T 10 (k [] J BS H (nP.c ·) (λv1 H=>ro T 2 (go T [5,6,7] 11 [0,1,2] 14 J J J J J J J (ro T 1 (go T [9,10,11] 15 [0,1,2] 18 J J J J J J J (ro T 2 (cb J H (λH=>?_) (λH=>?_)))))))))
 ·refine rc T 7 ?_
  cases H;exact p1 T J [0] ⟨_,_,⟨J,J⟩,J,J⟩ J
 refine rc T 8 (kr xP.R [] [] J ab6 H (xP.c ·) (λv2 H=>?_));rintro _ _ ⟨_,_,O4,rfl,rfl⟩;rcases v2 with _ |rV
 ·replace H:=eJ J H;obtain⟨rfl,rfl⟩:=O4;refine ro T 3 (kr sC.R [] [] J Sr H (sC.c ·) (λv3 H=>?_));rintro _ _ ⟨_,_,O6,rfl,rfl⟩;rcases v3 with _ |zH
  ·replace H:=eJ J H;obtain⟨rfl,rfl⟩:=O6;refine ro T 1 (nc T J (λb6=>ro T 4 ?_))
   cases H
  replace H:=eK J H;obtain⟨b4,a5,n5,H5,s5,rfl,rfl⟩:=O6;refine ro T 1 (nc T J (λb7=>ro T 4 ?_))
  cases H
 replace H:=eK J H;obtain⟨b1,a2,H2,a3,n3,H3,s2,s3,rfl,rfl⟩:=O4;refine ro T 3 (kr sC.R [] [] J Sr H (sC.c ·) (λv4 H=>?_));rintro _ _ ⟨_,_,O8,rfl,rfl⟩;rcases v4 with _ |qV
 ·replace H:=eJ J H;obtain⟨rfl,rfl⟩:=O8;refine ro T 1 (nc T J (λfL=>ro T 4 ?_))
  cases H
 replace H:=eK J H;obtain⟨b8,a9,n9,H9,s9,rfl,rfl⟩:=O8;refine ro T 1 (nc T J (λjG=>ro T 4 ?_))
 cases H;refine gj [6,1,1,1,1,1] J (p1 T J [1,0] ⟨_,_,⟨jG,(List.flatten [(cl jG 146 [(ii w),(ii h),(ii most),(pp b1),(pp b8)]),(cl b1 178 [(ii rV.most),(ii rV.next),(.map (some a2)),(ll a3 rV.order n3)]),H2,H3,(cl b8 221 [(ll a9 qV.words n9),(ii qV.count)]),H9]),(show lJ (d_.mk w h most rV qV) jG (List.flatten [(cl jG 146 [(ii w),(ii h),(ii most),(pp b1),(pp b8)]),(cl b1 178 [(ii rV.most),(ii rV.next),(.map (some a2)),(ll a3 rV.order n3)]),H2,H3,(cl b8 221 [(ll a9 qV.words n9),(ii qV.count)]),H9]) from⟨b1,a2,H2,a3,n3,H3,b8,a9,n9,H9,s2,s3,s9,J⟩),J,J⟩,J,J⟩ J)
def z7.f (ag:d_) (cell:Int):Option Int:=(qt.f ag.floor cell).bind λv1=>some v1
theorem z7.c (H:z7.f ag cell=some r) (cE:lJ ag aV cX):
 QU 119 [(pp aV),(ii cell)] [cX] F (ii r):=by
 unfold z7.f at H;refine aB Tryz.func119 J J (λW=>rc T 12 (dW J (rc T 3 ?_)));obtain⟨b3,a4,H4,a5,n5,H5,b6,a7,n7,H7,s4,s5,s7,bT⟩:=(λx=>x) cE;refine bz 0 (congrArg some bT) (fz J (rc T 4 (lf T 1 J (ro T 1 (k [5,5] J FM H (qt.c · s7) (λv1 H=>ro T 4 ?_))))))
 cases H;refine cV [1,1,1,1,1,1] J bT (p0 T J [1,0] J)
def uQ.f (ag:d_) (cell:Int):Option Bool:=(gD.f ag.w ag.h cell).bind λv1=>some (decide (v1≥0))
theorem uQ.c (H:uQ.f ag cell=some r) (cE:lJ ag aV cX):
 QU 123 [(pp aV),(ii cell)] [cX] F (bb r):=by
 unfold uQ.f at H;refine aB Tryz.func123 J J (λW=>rc T 6 ?_);obtain⟨b3,a4,H4,a5,n5,H5,b6,a7,n7,H7,s4,s5,s7,bT⟩:=(λx=>x) cE;refine bz 0 (congrArg some bT) (fz J (dj mix ay (au T J (au T J (au T J (aN J J J (aw T J J J J (aD (j:=1) J J)) (au T J (au T J (au T J (aN J J J (aw T J J J J (aD (j:=1) J J)) (au T J ?_)))))))))));obtain⟨v1,V1,H⟩:=fY H;refine tF J J J J J J rC J (gD.c V1) (au T J (au T J (cR (rx T 2 ?_))))
 cases H;refine cV [1,1,1,1,1,1] J bT (p0 T J [1,0] J)
def uR.f (ag:d_) (ai:Int) (cell:Int) (goal:Int):Option Int:=if(ai==0)=true then(((uQ.f ag cell).bind λv3=>if(!v3)=true then(some true) else((uQ.f ag goal).bind λv4=>some (!v4))).bind λx1=>if x1=true then(some 7) else((qt.f ag.floor cell).bind λv5=>if(v5 !=(-1))=true then(some 10) else((v_.f ag.cT).bind λv6=>if v6≥ag.most then(some 11) else(if(cell==goal)=true then(some 13) else(some 0))))) else(if(ai==1)=true then((qt.f ag.floor cell).bind λv7=>if(v7 !=(-1))=true then(some 10) else((v_.f ag.cT).bind λv8=>if v8≥ag.most then(some 11) else(if(cell==goal)=true then(some 13) else(some 0)))) else(if(ai==2)=true then((v_.f ag.cT).bind λv9=>if v9≥ag.most then(some 11) else(if(cell==goal)=true then(some 13) else(some 0))) else(if(ai==3)=true then(if(cell==goal)=true then(some 13) else(some 0)) else(some 0))))
theorem uR.c (H:uR.f ag ai cell goal=some r) (cE:lJ ag aV cX):
 QU 124 [(pp aV),(ii ai),(ii cell),(ii goal)] [cX] F (ii r):=by
 unfold uR.f at H;refine aB Tryz.func124 J J (λW=>rc T 28 (cb J H (λH=>?_) (λH=>?_)))
 ·refine rc T 5 (mq H [0,2,3] [1,0] (λz2 (x1:Bool)=>(x1=z2,[(27,(bb x1))],[])) J J (λz2 Z2 _=>?_) ?_)
  ·refine rc T 3 (k [0] J MS Z2 (uQ.c · cE) (λv3 Z2=>ro T 2 (ab 22 J Z2 (λZ2=>?_) (λZ2=>?_))))
   ·refine ro T 7 (am _ [1,0] (oi Z2) J J)
   refine ro T 2 (k [0] J MS Z2 (uQ.c · cE) (λv4 Z2=>ro T 4 (am _ [1,0] (oi Z2) J J)))
  rintro _ x1 rfl H;refine cb J H (λH=>?_) (λH=>?_)
  ·refine rc T 14 ?_
   cases H;exact p0 T J [1,0] J
  refine rc T 4 ?_;obtain⟨b3,a4,H4,a5,n5,H5,b6,a7,n7,H7,s4,s5,s7,bT⟩:=(λx=>x) cE;refine bz 1 (congrArg some bT) (fz J (rc T 4 (lf T 1 J (ro T 1 (k [5,5] J FM H (qt.c · s7) (λv5 H=>ro T 3 (cb J H (λH=>?_) (λH=>?_))))))))
  ·refine rc T 12 ?_
   cases H;refine cV [1,1,1,1,1,1] J bT (p0 T J [1,0] J)
  refine rc T 4 (dj mix ay (au T J (au T J (au T J (aN J J J (aw T J J J J (aD (j:=1) J J)) ?_)))));obtain⟨v6,V9,H⟩:=fY H;refine wC [2,2,2] J J J J J J MU J (v_.c V9 s4 s5) (au T J (au T J (au T J (aN J J J (aw T J J J J (aD (j:=1) J J)) (au T J (cR (rx T 1 (cd J H (λH=>?_) (λH=>?_)))))))))
  ·refine rc T 10 ?_
   cases H;refine cV [1,1,1,1,1,1] J bT (p0 T J [1,0] J)
  refine rc T 11 (cb J H (λH=>?_) (λH=>?_))
  ·refine rc T 9 ?_
   cases H;refine cV [1,1,1,1,1,1] J bT (p0 T J [1,0] J)
  refine rc T 11 ?_
  cases H;refine cV [1,1,1,1,1,1] J bT (p0 T J [1,0] J)
 refine rc T 9 (cb J H (λH=>?_) (λH=>?_))
 ·refine rc T 8 ?_;obtain⟨b9,cw,bV,dt,n11,cA,ki,dy,n13,eo,bS,cS,dh,FF⟩:=(λx=>x) cE;refine bz 0 (congrArg some FF) (fz J (rc T 4 (lf T 1 J (ro T 1 (k [5,5] J FM H (qt.c · dh) (λv7 H=>ro T 3 (cb J H (λH=>?_) (λH=>?_))))))))
  ·refine rc T 12 ?_
   cases H;refine cV [1,1,1,1,1,1] J FF (p0 T J [1,0] J)
  refine rc T 4 (dj mix ay (au T J (au T J (au T J (aN J J J (aw T J J J J (aD (j:=1) J J)) ?_)))));obtain⟨v8,PH,H⟩:=fY H;refine wC [2,2,2] J J J J J J MU J (v_.c PH bS cS) (au T J (au T J (au T J (aN J J J (aw T J J J J (aD (j:=1) J J)) (au T J (cR (rx T 1 (cd J H (λH=>?_) (λH=>?_)))))))))
  ·refine rc T 10 ?_
   cases H;refine cV [1,1,1,1,1,1] J FF (p0 T J [1,0] J)
  refine rc T 11 (cb J H (λH=>?_) (λH=>?_))
  ·refine rc T 9 ?_
   cases H;refine cV [1,1,1,1,1,1] J FF (p0 T J [1,0] J)
  refine rc T 11 ?_
  cases H;refine cV [1,1,1,1,1,1] J FF (p0 T J [1,0] J)
 refine rc T 9 (cb J H (λH=>?_) (λH=>?_))
 ·refine rc T 10 ?_;obtain⟨mX,jU,fV,a17,n17,dV,qm,l9,n19,kF,fP,fh,gQ,DE⟩:=(λx=>x) cE;refine bz 0 (congrArg some DE) (fz J (dj mix ay (au T J (au T J (au T J (aN J J J (aw T J J J J (aD (j:=1) J J)) ?_))))));obtain⟨v9,It,H⟩:=fY H;refine wC [2,2,2] J J J J J J MU J (v_.c It fP fh) (au T J (au T J (au T J (aN J J J (aw T J J J J (aD (j:=1) J J)) (au T J (cR (rx T 1 (cd J H (λH=>?_) (λH=>?_)))))))))
  ·refine rc T 10 ?_
   cases H;refine cV [1,1,1,1,1,1] J DE (p0 T J [1,0] J)
  refine rc T 11 (cb J H (λH=>?_) (λH=>?_))
  ·refine rc T 9 ?_
   cases H;refine cV [1,1,1,1,1,1] J DE (p0 T J [1,0] J)
  refine rc T 11 ?_
  cases H;refine cV [1,1,1,1,1,1] J DE (p0 T J [1,0] J)
 refine rc T 8 (cb J H (λH=>?_) (λH=>?_))
 ·refine rc T 18 (cb J H (λH=>?_) (λH=>?_))
  ·refine rc T 9 ?_
   cases H;exact p0 T J [0,0] J
  refine rc T 11 ?_
  cases H;exact p0 T J [0,0] J
 refine rc T 19 ?_
 cases H;exact p0 T J [0,0] J
def wJ.f (ag:d_) (cell:Int) (goal:Int):Option (Int×Int×d_):=(uR.f ag 0 cell goal).bind λv1=>if(v1 !=0)=true then(some ((-1),v1,ag)) else((vZ.f ag.cT cell goal).bind λv2=>(sx.f ag.floor cell v2.1).bind λv3=>some (v2.1,0,(d_.mk ag.w ag.h ag.most v2.2.2 v3.2)))
def wJ.R (na:Nat) (r:(Int×Int×d_)) (u:Value) (G:List Hp):Prop:= ∃(H0:Hp),lJ r.2.2 na H0/\u=(.tuple #[(ii r.1),(ii r.2.1)])/\G=[H0]
theorem wJ.c (H:wJ.f ag cell goal=some r) (cE:lJ ag aV cX):
 QR 121 [(pp aV),(ii cell),(ii goal)] [cX] [] F (wJ.R aV r):=by
 unfold wJ.f at H;refine aB Tryz.func121 J J (λW=>rc T 13 (dW J (rc T 8 (k [0] J Si H (uR.c · cE) (λv1 H=>ro T 9 (cb J H (λH=>?_) (λH=>?_)))))))
 ·refine rc T 9 ?_
  cases H;exact p1 T J [0,0] ⟨cX,cE,J,J⟩ J
 refine rc T 3 ?_;obtain⟨b3,a4,H4,a5,n5,H5,b6,a7,n7,H7,s4,s5,s7,bT⟩:=(λx=>x) cE;refine bz 0 (congrArg some bT) (fz J (rc T 4 (lf T 1 J (ro T 2 (kr (vZ.R b3) [] [2,2,2] J ab8 H (vZ.c · s4 s5) (λv2 H=>?_))))));rintro _ _ ⟨a8,H8,a9,n9,H9,s8,s9,rfl,rfl⟩;refine fz J (ro T 11 (lf T 1 J (ro T 2 (kr (sx.R b6) [] [2,2] J Ss H (sx.c · s7) (λv3 H=>?_)))));rintro _ _ ⟨cw,n10,bV,bS,rfl,rfl⟩;refine fz J (ro T 10 ?_)
 cases H;refine gj [1,1,1,1,1,1] J (p1 T J [1,0] ⟨(List.flatten [(cl aV 146 [(ii ag.w),(ii ag.h),(ii ag.most),(pp b3),(pp b6)]),(cl b3 178 [(ii v2.2.2.most),(ii v2.2.2.next),(.map (some a8)),(ll a9 v2.2.2.order n9)]),H8,H9,(cl b6 221 [(ll cw v3.2.words n10),(ii v3.2.count)]),bV]),(show lJ (d_.mk ag.w ag.h ag.most v2.2.2 v3.2) aV (List.flatten [(cl aV 146 [(ii ag.w),(ii ag.h),(ii ag.most),(pp b3),(pp b6)]),(cl b3 178 [(ii v2.2.2.most),(ii v2.2.2.next),(.map (some a8)),(ll a9 v2.2.2.order n9)]),H8,H9,(cl b6 221 [(ll cw v3.2.words n10),(ii v3.2.count)]),bV]) from⟨b3,a8,H8,a9,n9,H9,b6,cw,n10,bV,s8,s9,bS,J⟩),J,J⟩ J)
def Fv.f (ai:Int) (goal:Int):Option Int:=some 1
theorem Fv.c (H:Fv.f ai goal=some r):
 QU 89 [(.pointer none),(ii ai),(ii goal)] [] F (ii r):=by
 unfold Fv.f at H;refine aB Tryz.func89 J J (λW=>rc T 12 (mW J (rc T 7 ?_)))
 cases H;exact p0 T J [0] J
def pJ.f (ag:d_) (u:aF):Option d_:=(xR.f ag.cT u.Id).bind λv1=>(sB.f ag.floor u.Cell).bind λv2=>some (d_.mk ag.w ag.h ag.most v1.2 v2.2)
def pJ.R (na:Nat) (r:d_) (u:Value) (G:List Hp):Prop:= ∃(H0:Hp),lJ r na H0/\u=(.tuple #[])/\G=[H0]
theorem pJ.c (H:pJ.f ag u=some r) (cE:lJ ag aV cX):
 QR 125 [(pp aV),(.agg #[(ii u.Id),(ii u.Cell),(ii u.Goal)])] [cX] [] F (pJ.R aV r):=by
 unfold pJ.f at H;refine aB Tryz.func125 J J (λW=>rc T 2 (nc T J (λb2=>ro T 3 ?_)));obtain⟨b4,a5,H5,a6,n6,H6,b7,a8,n8,H8,s5,s6,s8,dp⟩:=(λx=>x) cE;refine bz 0 (congrArg some dp) (fz J (ks [0,3] J (fz J (rz [6] mix (bO bN) (λhg pf=>ha T 4 [0,1,2] sz hg pf J (av 3 sz hg pf J (aw T J J J J (aD (j:=2) J J)) (ha T 2 [4] sz hg pf J (av 5 sz hg pf J (aw T J J J J (aD (j:=1) J J)) (ao 6 (kR (xR.R b4) [] [3,3,3] J ab9 H (xR.c · s5 s6) (λv1 H=>?_)))))))))));rintro _ _ ⟨a9,H9,cw,n10,bV,s9,bS,rfl,rfl⟩;refine fz J (an sl (ae (rx T 1 (ks [0,3] J (fz J (rz [6] mix (bO bN) (λhg pf=>ha T 4 [0,1,2] sz hg pf J (av 3 sz hg pf J (aw T J J J J (aD (j:=2) J J)) (ha T 2 [4] sz hg pf J (av 5 sz hg pf J (aw T J J J J (aD (j:=1) J J)) (ao 6 (kR (sB.R b7) [] [3,3] J St H (sB.c · s8) (λv2 H=>?_)))))))))))));rintro _ _ ⟨dt,n11,cA,cS,rfl,rfl⟩;refine fz J (an sl (ae (i_ ?_)))
 cases H;refine gj [2,2,2,2,2,2] J (p1 T J [2,0] ⟨(List.flatten [(cl aV 146 [(ii ag.w),(ii ag.h),(ii ag.most),(pp b4),(pp b7)]),(cl b4 178 [(ii v1.2.most),(ii v1.2.next),(.map (some a9)),(ll cw v1.2.order n10)]),H9,bV,(cl b7 221 [(ll dt v2.2.words n11),(ii v2.2.count)]),cA]),(show lJ (d_.mk ag.w ag.h ag.most v1.2 v2.2) aV (List.flatten [(cl aV 146 [(ii ag.w),(ii ag.h),(ii ag.most),(pp b4),(pp b7)]),(cl b4 178 [(ii v1.2.most),(ii v1.2.next),(.map (some a9)),(ll cw v1.2.order n10)]),H9,bV,(cl b7 221 [(ll dt v2.2.words n11),(ii v2.2.count)]),cA]) from⟨b4,a9,H9,cw,n10,bV,b7,dt,n11,cA,s9,bS,cS,J⟩),J,J⟩ J)
def wI.f (ag:d_) (ai:Int) (goal:Int):Option (Int×d_):=(oz.f ag.cT ai).bind λv1=>if(!v1.2)=true then(some (12,ag)) else((uQ.f ag goal).bind λv2=>if(!v2)=true then(some (7,ag)) else((uR.f ag 3 v1.1.Cell goal).bind λv3=>if(v3 !=0)=true then((pJ.f ag v1.1).bind λv4=>some (v3,v4)) else((xQ.f ag.cT ai goal).bind λv5=>some (0,(d_.mk ag.w ag.h ag.most v5.2 ag.floor)))))
def wI.R (na:Nat) (r:(Int×d_)) (u:Value) (G:List Hp):Prop:= ∃(H0:Hp),lJ r.2 na H0/\u=(ii r.1)/\G=[H0]
theorem wI.c (H:wI.f ag ai goal=some r) (cE:lJ ag aV cX):
 QR 89 [(pp aV),(ii ai),(ii goal)] [cX] [] F (wI.R aV r):=by
 unfold wI.f at H;refine aB Tryz.func89 J J (λW=>rc T 12 (dW J (rc T 3 ?_)));obtain⟨b3,a4,H4,a5,n5,H5,b6,a7,n7,H7,s4,s5,s7,bT⟩:=(λx=>x) cE;refine bz 0 (congrArg some bT) (fz J (rc T 4 (lf T 1 J (ro T 1 (k [2,2,2] J BP H (oz.c · s4 s5) (λv1 H=>ro T 3 (nc T J (λb8=>sg T 7 J (ro T 12 (cb J H (λH=>?_) (λH=>?_)))))))))))
 ·refine rc T 8 ?_
  cases H;refine cV [1,1,1,1,1,1] J bT (p1 T J [2,0] ⟨cX,cE,J,J⟩ J)
 refine rc T 4 ?_;obtain⟨v2,V3,H⟩:=fY H;refine aW (IF (As:=[(cl aV 146 [(ii ag.w),(ii ag.h),(ii ag.most),(pp b3),(pp b6)]),(cl b3 178 [(ii ag.cT.most),(ii ag.cT.next),(.map (some a4)),(ll a5 ag.cT.order n5)]),H4,H5,(cl b6 221 [(ll a7 ag.floor.words n7),(ii ag.floor.count)]),H7]) [1,1,1,1,1,1] J J J J MS J J (IU (A:=[cX]) (by simp only[bT,List.flatten_cons,List.flatten_append,List.flatten_nil,List.append_nil,List.append_assoc]) (uQ.c V3 cE)) (ro T 4 (cb J H (λH=>?_) (λH=>?_))))
 ·refine rc T 8 ?_
  cases H;refine cV [1,1,1,1,1,1] J bT (p1 T J [2,0] ⟨cX,cE,J,J⟩ J)
 refine rc T 8 (lf T 7 J (ro T 1 ?_));obtain⟨v3,V5,H⟩:=fY H;refine aW (IF (As:=[(cl aV 146 [(ii ag.w),(ii ag.h),(ii ag.most),(pp b3),(pp b6)]),(cl b3 178 [(ii ag.cT.most),(ii ag.cT.next),(.map (some a4)),(ll a5 ag.cT.order n5)]),H4,H5,(cl b6 221 [(ll a7 ag.floor.words n7),(ii ag.floor.count)]),H7]) [1,1,1,1,1,1] J J J J Si J J (IU (A:=[cX]) (by simp only[bT,List.flatten_cons,List.flatten_append,List.flatten_nil,List.append_nil,List.append_assoc]) (uR.c V5 cE)) (ro T 9 (cb J H (λH=>?_) (λH=>?_))))
 ·refine rc T 3 (lm T 7 J (cV [1,1,1,1,1,1] J bT (kr (pJ.R aV) [] [2] J MT H (pJ.c · cE) (λv4 H=>?_))));rintro _ _ ⟨H9,s9,rfl,rfl⟩;refine fz J (ro T 10 ?_)
  cases H;exact p1 T J [2,0] ⟨H9,s9,J,J⟩ J
 refine rc T 7 (lf T 1 J (ro T 2 (kr (xQ.R b3) [] [2,2,2] J abW H (xQ.c · s4 s5) (λv5 H=>?_))));rintro _ _ ⟨cw,bV,dt,n11,cA,bS,cS,rfl,rfl⟩;refine fz J (ro T 8 ?_)
 cases H;refine gj [1,4,4,4,1,1] J (p1 T J [2,0] ⟨(List.flatten [(cl aV 146 [(ii ag.w),(ii ag.h),(ii ag.most),(pp b3),(pp b6)]),(cl b3 178 [(ii v5.2.most),(ii v5.2.next),(.map (some cw)),(ll dt v5.2.order n11)]),bV,cA,(cl b6 221 [(ll a7 ag.floor.words n7),(ii ag.floor.count)]),H7]),(show lJ (d_.mk ag.w ag.h ag.most v5.2 ag.floor) aV (List.flatten [(cl aV 146 [(ii ag.w),(ii ag.h),(ii ag.most),(pp b3),(pp b6)]),(cl b3 178 [(ii v5.2.most),(ii v5.2.next),(.map (some cw)),(ll dt v5.2.order n11)]),bV,cA,(cl b6 221 [(ll a7 ag.floor.words n7),(ii ag.floor.count)]),H7]) from⟨b3,cw,bV,dt,n11,cA,b6,a7,n7,H7,bS,cS,s7,J⟩),J,J⟩ J)
def Fu.f (ai:Int):Option Int:=some 1
theorem Fu.c (H:Fu.f ai=some r):
 QU 90 [(.pointer none),(ii ai)] [] F (ii r):=by
 unfold Fu.f at H;refine aB Tryz.func90 J J (λW=>rc T 12 (mW J (rc T 7 ?_)))
 cases H;exact p0 T J [0] J
def wH.f (ag:d_) (ai:Int):Option (Int×d_):=(oz.f ag.cT ai).bind λv1=>if(!v1.2)=true then(some (12,ag)) else((pJ.f ag v1.1).bind λv2=>some (0,v2))
def wH.R (na:Nat) (r:(Int×d_)) (u:Value) (G:List Hp):Prop:= ∃(H0:Hp),lJ r.2 na H0/\u=(ii r.1)/\G=[H0]
theorem wH.c (H:wH.f ag ai=some r) (cE:lJ ag aV cX):
 QR 90 [(pp aV),(ii ai)] [cX] [] F (wH.R aV r):=by
 unfold wH.f at H;refine aB Tryz.func90 J J (λW=>rc T 12 (dW J (rc T 3 ?_)));obtain⟨b3,a4,H4,a5,n5,H5,b6,a7,n7,H7,s4,s5,s7,bT⟩:=(λx=>x) cE;refine bz 0 (congrArg some bT) (fz J (rc T 4 (lf T 1 J (ro T 1 (k [2,2,2] J BP H (oz.c · s4 s5) (λv1 H=>ro T 3 (nc T J (λb8=>sg T 7 J (ro T 10 (cb J H (λH=>?_) (λH=>?_)))))))))))
 ·refine rc T 7 ?_
  cases H;refine cV [1,1,1,1,1,1] J bT (p1 T J [2,0] ⟨cX,cE,J,J⟩ J)
 refine rc T 5 (lm T 7 J (cV [1,1,1,1,1,1] J bT (kr (pJ.R aV) [] [2] J MT H (pJ.c · cE) (λv2 H=>?_))));rintro _ _ ⟨H9,s9,rfl,rfl⟩;refine fz J (ro T 8 ?_)
 cases H;exact p1 T J [2,0] ⟨H9,s9,J,J⟩ J
def pI.f (ag:d_):Option (List aF):=(oy.f ag.cT).bind λv1=>some v1
def pI.R (r:(List aF)) (u:Value) (G:List Hp):Prop:= ∃(a0:Option Addr) (n0:Nat) (H0:Hp),aj lD 67 r a0 n0 H0/\u=(ll a0 r n0)/\G=[H0]
theorem pI.c (H:pI.f ag=some r) (cE:lJ ag aV cX):
 QR 54 [(pp aV)] [cX] [cX] F (pI.R r):=by
 unfold pI.f at H;refine aB Tryz.func54 J J (λW=>rc T 12 (dW J (rc T 3 ?_)));obtain⟨b3,a4,H4,a5,n5,H5,b6,a7,n7,H7,s4,s5,s7,bT⟩:=(λx=>x) cE;refine bz 0 (congrArg some bT) (fz J (rc T 4 (lf T 1 J (kr oy.R [2,2,2] [2,2,2] J adL H (oy.c · s4 s5) (λv1 H=>?_)))));rintro _ _ ⟨a8,n8,H8,s8,rfl,rfl⟩;refine fz J (ro T 4 ?_)
 cases H;refine cV [1,4,4,4,1,1] J bT (p1 T J [1,1,0] ⟨a8,n8,H8,s8,J,J⟩ J)
def ng.l0:Nat->((List aF)×(List fc)×(List Int)×Int)->d_->Int->Option ((List fc)×(List Int)×Int×d_)
 |0,_,_,_=>none
 |k7+1,v2,x5,x6=>if x6<(List.length v2.2.1:Int) then(if(0<=x6/\x6<(List.length v2.2.1:Int)) then(((oz.f x5.cT ((rd v2.2.1 x6).Id)).bind λv12=>some (v12.1.Id,v12.1.Cell,v12.1.Goal)).bind λ(x8,x9,aM)=>if((rd v2.2.1 x6).To==aM)=true then((pJ.f x5 (aF.mk x8 x9 aM)).bind λbZ=>ng.l0 k7 v2 bZ (aa (x6+1))) else((wN.f x5.floor x9 ((rd v2.2.1 x6).To)).bind λdi=>(xS.f x5.cT ((rd v2.2.1 x6).Id) ((rd v2.2.1 x6).To)).bind λdU=>ng.l0 k7 v2 (d_.mk x5.w x5.h x5.most dU.2 di.2) (aa (x6+1)))) else none) else(some (v2.2.1,v2.2.2.1,0,x5))
def ng.f (ag:d_) (aL:(List Int)):Option ((List fc)×(List Int)×Int×d_):=(pI.f ag).bind λv1=>(jz.f ag.w ag.h v1 aL).bind λv2=>if(v2.2.2.2 !=0)=true then(some ([],[],v2.2.2.2,ag)) else(ng.l0 fuel v2 ag 0)
def ng.R (na:Nat) (r:((List fc)×(List Int)×Int×d_)) (u:Value) (G:List Hp):Prop:= ∃(a0:Option Addr) (n0:Nat) (H0:Hp) (a1:Option Addr) (n1:Nat) (H1:Hp) (H2:Hp),aj jy 94 r.1 a0 n0 H0/\aj (Fl.int .i64) 3 r.2.1 a1 n1 H1/\lJ r.2.2.2 na H2/\u=(.tuple #[(ll a0 r.1 n0),(ll a1 r.2.1 n1),(ii r.2.2.1)])/\G=[H0,H1,H2]
theorem ng.c (H:ng.f ag aL=some r) (cE:lJ ag aV cX) (FJ:aS (Fl.int .i64) aL Lk F) (LV:List.length aL<=N'):
 QR 129 [(pp aV),(ll Lk aL N')] [cX] [] F (ng.R aV r):=by
 unfold ng.f at H;refine aB Tryz.func129 J J (λW=>rc T 14 (dW J (rc T 3 ?_)));obtain⟨b3,a4,H4,a5,n5,H5,b6,a7,n7,H7,s4,s5,s7,bT⟩:=(λx=>x) cE;refine bz 0 (congrArg some bT) (fz J (fz J (rg [] [0,0,0,0,0,0,0] mix (bO bN) (λhg pf=>ha T 17 [0,1,2] sz hg pf J (av 3 sz hg pf J (aw T J J J J (aD (j:=1) J J)) (ha T 13 [4,5,6] sz hg pf J (av 7 sz hg pf J (aw T J J J J (aD (j:=1) J J)) (ha T 10 [8,10] sz hg pf J (ao 9 ?_)))))))));obtain⟨v1,V1,H⟩:=fY H;refine Fc (As:=[(cl aV 146 [(ii ag.w),(ii ag.h),(ii ag.most),(pp b3),(pp b6)]),(cl b3 178 [(ii ag.cT.most),(ii ag.cT.next),(.map (some a4)),(ll a5 ag.cT.order n5)]),H4,H5,(cl b6 221 [(ll a7 ag.floor.words n7),(ii ag.floor.count)]),H7]) (pI.R v1) [(cl aV 146 [(ii ag.w),(ii ag.h),(ii ag.most),(pp b3),(pp b6)]),(cl b3 178 [(ii ag.cT.most),(ii ag.cT.next),(.map (some a4)),(ll a5 ag.cT.order n5)]),H4,H5,(cl b6 221 [(ll a7 ag.floor.words n7),(ii ag.floor.count)]),H7] [1,1,1,1,1,1] J J J J Ju J J (IV (A:=[cX]) (A2:=[cX]) (by simp only[bT,List.flatten_cons,List.flatten_append,List.flatten_nil,List.append_nil,List.append_assoc]) (by simp only[bT,List.flatten_cons,List.flatten_append,List.flatten_nil,List.append_nil,List.append_assoc]) (pI.c V1 cE)) ?_
 rintro _ _ ⟨a8,n8,H8,s8,rfl,rfl⟩;refine fz J (an (so [0,1,1,1,1,1,1]) (ao 11 (kR jz.R [] [] J aca H (jz.c · (oO s8 1) s8.bW (rO FJ 0) LV) (λv2 H=>?_))));rintro _ _ ⟨a9,n9,H9,cw,n10,bV,dt,n11,cA,s9,bS,cS,rfl,rfl⟩;refine fz J (an (so [0,1,1,1,1,1,1]) (ha T 0 [12,13,14,15,16,17,18,19] (so [0,1,1,1,1,1,1]) hg pf J (ae (rx T 8 (cb J H (λH=>?_) (λH=>?_))))))
 ·refine rc T 10 ?_
  cases H;refine cV [2,2,2,2,2,2] J bT (br (br (p1 T J [6,6,5,0] ⟨none,0,[],none,0,[],cX,aj.nil,aj.nil,cE,J,J⟩ J)))
 refine rc T 11 (cV [2,2,2,2,2,2] J bT (lq [0,4,5,33,34] [0,2,2] (λ(⟨k7,x5,x6,dF⟩:Nat×d_×Int×Hp)=>(ng.l0 k7 v2 x5 x6=some r/\lJ x5 aV dF,[(35,(ii x6))],[dF])) J J (fuel,ag,0,cX) [0,2,2,2] ⟨H,cE⟩ J J ?_));rintro k7 ⟨x5,x6,dF⟩ ⟨Z4,dK⟩;rw[ng.l0] at Z4;refine rc T 6 (cd J Z4 (λZ4=>?_) (λZ4=>?_))
 ·refine rc T 6 ?_;obtain⟨c6,Z4⟩:=az Z4;obtain⟨VB,UX,wL⟩:=bS.r.addr c6.1 c6.2;refine ix T J wL c6 (bp J (fm T (cs:=[(ii (rd v2.2.1 x6).Id),(ii (rd v2.2.1 x6).To)]) J J J J J J (gB (k:=jy) (oO bS 1) wL c6 J)) (nc T J (λBA=>sg T 4 J (ro T 2 (mq Z4 [0,4,5,8,33,34,35] [0,2,0,0,0] (λiW (⟨x8,x9,aM,qm⟩:Int×Int×Int×Nat)=>((x8,x9,aM)=iW,[(9,(pp qm))],[(cl qm 67 [(ii x8),(ii x9),(ii aM)])])) J J (λiW Z7 _=>?_) ?_)))))
  ·obtain⟨IL,a21,lj,a22,n22,mj,Zl,a24,n24,qX,jO,iI,lU,FE⟩:=(λx=>x) dK;refine bz 3 (congrArg some FE) (fz J (ks [0,4,5,8,33,34,35] J (fz J (rz [] mix (bO bN) (λhg pf=>ha T 10 [0,1,2] sz hg pf J (av 3 sz hg pf J (aw T J J J J (aD (j:=4) J J)) (ha T 8 [4] sz hg pf J (av 5 sz hg pf J (aw T J J J J (aD (j:=3) J J)) (gw 6 10 ?_ ?_)))))))))
   ·refine kh [5,5,5] J BP Z7 (oz.c · jO iI) (λv12 Z7=>an sz (ha T 3 [7,8,9] sz hg pf J (ao 10 (nw T J (λkK=>an (so [0,0,0,0,0,0,0,0,0,0]) (ao 11 (sf T 10 J (an (so [0,0,0,0,0,0,0,0,0,0]) (ha T 0 [12] (so [0,0,0,0,0,0,0,0,0,0]) hg pf J (ae (rx T 1 (cV [4,4,4,4,4,4] J FE (am (_,_,_,_) [0,4,0,0,0,0] (oi Z7) J J)))))))))))))
   refine nw T J (λkL=>an (so [0,0,0,0,0,0,0,0,0,0]) (ao 6 (kh [5,5,5] J BP Z7 (oz.c · jO iI) (λgT Z7=>an (so [0,0,0,0,0,0,0,0,0,0]) (ha T 2 [7,8,9] (so [0,0,0,0,0,0,0,0,0,0]) hg pf J (ao 11 (sf T 10 J (an (so [0,0,0,0,0,0,0,0,0,0]) (ha T 0 [12] (so [0,0,0,0,0,0,0,0,0,0]) hg pf J (ae (rx T 1 (cV [4,4,4,4,4,4] J FE (am (_,_,_,_) [0,4,0,0,0,0] (oi Z7) J J)))))))))))))
  rintro _ ⟨x8,x9,aM,qm⟩ rfl Z4;refine rc T 4 (lf T 4 J (ro T 1 (lf T 5 J (ro T 3 (cb J Z4 (λZ4=>?_) (λZ4=>?_))))))
  ·refine rc T 3 (lm T 5 J (kr (pJ.R aV) [] [1] J MT Z4 (pJ.c (u:=(aF.mk x8 x9 aM)) · dK) (λbZ Z4=>?_)));rintro _ _ ⟨EM,vK,rfl,rfl⟩;refine fz J (ro T 11 (ar (_,_,_) [0,0,0,2] ⟨Z4,vK⟩ J J))
  refine rc T 3 ?_;obtain⟨zQ,Bp,qZ,a31,n31,Bh,wD,a33,n33,Ih,pn,zi,vL,Ji⟩:=(λx=>x) dK;refine bz 1 (congrArg some Ji) (fz J (fz J (rz [8] mix (bO bN) (λhg pf=>ha T 6 [0,1,2] sz hg pf J (av 3 sz hg pf J (aw T J J J J (aD (j:=5) J J)) (ha T 4 [4] sz hg pf J (av 5 sz hg pf J (aw T J J J J (aD (j:=4) J J)) (ha T 2 [6] sz hg pf J (av 7 sz hg pf J (aw T J J J J (aD (j:=3) J J)) (ao 8 (kR (wN.R wD) [] [9,9] J acb Z4 (wN.c · vL) (λdi Z4=>?_))))))))))));rintro _ _ ⟨EY,n34,uy,xB,rfl,rfl⟩;refine fz J (an sl (ae (rx T 1 (ke [0,4,5,8,33,34,35] [0,0,0,0,1,1,1,1,1,1] J J (fz J (rz [8] mix (bO bN) (λhg pf=>ha T 6 [0,1,2] sz hg pf J (av 3 sz hg pf J (aw T J J J J (aD (j:=4) J J)) (ha T 4 [4] sz hg pf J (av 5 sz hg pf J (aw T J J J J (aD (j:=3) J J)) (ha T 2 [6] sz hg pf J (av 7 sz hg pf J (aw T J J J J (aD (j:=3) J J)) (ao 8 (kR (xS.R zQ) [] [5,5,5] J acd Z4 (xS.c · pn zi) (λdU Z4=>?_)))))))))))))));rintro _ _ ⟨a35,Ii,zO,n36,zI,Kx,CH,rfl,rfl⟩;refine fz J (an sl (ae (rx T 7 (gj [4,6,6,6,4,4] J (ar (_,_,_) [0,0,0,1] ⟨Z4,(show lJ (d_.mk x5.w x5.h x5.most dU.2 di.2) aV (List.flatten [(cl aV 146 [(ii x5.w),(ii x5.h),(ii x5.most),(pp zQ),(pp wD)]),(cl zQ 178 [(ii dU.2.most),(ii dU.2.next),(.map (some a35)),(ll zO dU.2.order n36)]),Ii,zI,(cl wD 221 [(ll EY di.2.words n34),(ii di.2.count)]),uy]) from⟨zQ,a35,Ii,zO,n36,zI,wD,EY,n34,uy,Kx,CH,xB,J⟩)⟩ J J)))))
 refine rc T 15 ?_
 cases Z4;exact p1 T J [1,1,1,0] ⟨cw,n10,bV,dt,n11,cA,dF,bS,cS,dK,J,J⟩ J
def zZ.f:Option (List aF):=some []
def zZ.R (r:(List aF)) (u:Value) (G:List Hp):Prop:= ∃(a0:Option Addr) (n0:Nat) (H0:Hp),aj lD 67 r a0 n0 H0/\u=(ll a0 r n0)/\G=[H0]
theorem zZ.c (H:zZ.f=some r):
 QR 54 [(.pointer none)] [] [] F (zZ.R r):=by
 unfold zZ.f at H;refine aB Tryz.func54 J J (λW=>rc T 12 (mW J (rc T 7 ?_)))
 cases H;refine br (p1 T J [1,0] ⟨none,0,[],aj.nil,J,J⟩ J)
end
noncomputable section
def je.f (g:bt) (cell:Int):Option Int:=(if cell<0 then(some true) else(some (decide (cell≥(List.length g.m.C:Int))))).bind λx1=>if x1=true then(some 0) else(if(0<=cell/\cell<(List.length g.m.C:Int)) then(some (aa (rd g.m.C cell))) else none)
theorem je.c (H:je.f g cell=some r) (fC:iq g eX fW):
 QU 141 [(pp eX),(ii cell)] [fW] F (ii r):=by
 unfold je.f at H;refine aB Tryz.func141 J J (λW=>rc T 6 (mq H [0,1] [1,0] (λz2 (x1:Bool)=>(x1=z2,[(20,(bb x1))],[])) J J (λz2 Z1 _=>?_) ?_))
 ·obtain⟨a3,n3,H3,a4,n4,H4,s3,s4,bT⟩:=(λx=>x) fC;refine bz 0 (congrArg some bT) (fz J (rc T 8 (ad 11 J Z1 (λZ1=>?_) (λZ1=>?_))))
  ·refine ro T 11 (cV [1,1,1] J bT (am _ [0,0] (oi Z1) J J))
  refine ro T 5 (lf T 1 J (ro T 5 (cV [1,1,1] J bT (am _ [0,0] (oi Z1) J J))))
 rintro _ x1 rfl H;refine cb J H (λH=>?_) (λH=>?_)
 ·refine rc T 7 ?_
  cases H;exact p0 T J [1,0] J
 refine rc T 3 ?_;obtain⟨a6,n6,H6,a7,n7,H7,s6,s7,rA⟩:=(λx=>x) fC;refine bz 1 (congrArg some rA) (fz J (rc T 5 (lf T 1 J (ro T 1 ?_))));obtain⟨c4,H⟩:=az H;obtain⟨q8,o8,e8⟩:=s6.r.addr c4.1 c4.2;refine ix T J e8 c4 (le T 0 (oO s6 2) e8 c4 J J (ro T 5 ?_))
 cases H;refine cV [1,1,1] J rA (p0 T J [1,0] J)
def FC.f:Option Int:=some 0
theorem FC.c (H:FC.f=some r):
 QU 136 [(.pointer none)] [] F (ii r):=by
 unfold FC.f at H;refine aB Tryz.func136 J J (λW=>rc T 12 (mW J (rc T 7 ?_)))
 cases H;exact p0 T J [0] J
def lP.l0:Nat->aJ->Int->(List Int)->(Int×Int)->List Int->Int->Option (Option bt)
 |0,_,_,_,_,_,_=>none
 |k8+1,m,bL,v2,v3,x6,x7=>if x7<(List.length (List.replicate (Int.toNat (aa (v3.1*v3.2))) (0:Int)):Int) then(if(0<=x7/\x7<(List.length x6:Int)) then(lP.l0 k8 m bL v2 v3 (List.set x6 (Int.toNat x7) (aa (bL+1))) (aa (x7+1))) else none) else(some (some (bt.mk (aJ.mk m.W m.H v2) (aa (bL+1)) x6)))
def lP.f (m:aJ) (bL:Int):Option (Option bt):=(ym.f m).bind λv1=>if(((!v1)||(decide (bL<0)))||(decide (bL>4611686018427387904)))=true then(some none) else((nJ.f m.C).bind λv2=>(qc.f m.W m.H).bind λv3=>if(0<=(aa (v3.1*v3.2))/\(aa (v3.1*v3.2))<=1099511627776) then(lP.l0 fuel m bL v2 v3 (List.replicate (Int.toNat (aa (v3.1*v3.2))) (0:Int)) 0) else none)
def lP.R (r:(Option bt)) (u:Value) (G:List Hp):Prop:= ∃(u0:Value) (G0:List Hp),Xq r u0 G0/\u=u0/\G=G0
theorem lP.c (H:lP.f m bL=some r) (sE:aS (Fl.int .u8) m.C oD F) (uM:List.length m.C<=oo):
 QR 149 [(.agg #[(ii m.W),(ii m.H),(ll oD m.C oo)]),(ii bL)] [] [] F (lP.R r):=by
 unfold lP.f at H;refine aB Tryz.func149 J J (λW=>rc T 2 (nc T J (λb1=>ro T 6 (lm T 1 J (k [] J Sm H (ym.c · (rO sE 0) uM) (λv1 H=>ro T 2 (go T [4,5,6] 12 [1,2] 15 J J J J J J J (ro T 1 (go T [8,9,10] 16 [1,2] 19 J J J J J J J (ro T 2 (cb J H (λH=>?_) (λH=>?_))))))))))))
 ·refine rc T 7 ?_
  cases H;exact p1 T J [0] ⟨_,_,⟨J,J⟩,J,J⟩ J
 refine rc T 5 (lf T 1 J (kr nJ.R [] [] J MO H (nJ.c · (rO sE 0) uM) (λv2 H=>?_)));rintro _ _ ⟨a2,n2,H2,s2,rfl,rfl⟩;refine fz J (ro T 1 (sg T 1 J (ro T 5 (lf T 1 J (ro T 1 (lf T 1 J (k [] J FT H (qc.c ·) (λv3 H=>ro T 8 (ks [1,2,5,6] J (fz J (rg [] [0,0,0] mix (bO bN) (λhg pf=>av 0 sz hg pf J (gA T 1 J J J J J J J) (ha T 4 [1,2,3,4,5] sz hg pf J (ao 6 ?_))))))))))))));obtain⟨c5,H⟩:=az H;refine yj (k:=(Fl.int .i64)) T (0:Int) J J J J J J J J c5 J (λa3 n3 H3 s3=>an (so [0,0,0]) (ha T 2 [7] (so [0,0,0]) hg pf J (ao 8 (nw T J (λb4=>an (so [0,0,0]) (ha T 0 [9] (so [0,0,0]) hg pf J (ae (rx T 7 (lf T 4 J (ro T 5 (lq [7,45] [0,1] (λ(⟨k8,x6,x7,a6,n6,H6⟩:Nat×List Int×Int×Option Addr×Nat×Hp)=>(lP.l0 k8 m bL v2 v3 x6 x7=some r/\aj (Fl.int .i64) 2 x6 a6 n6 H6,[(46,(ii x7))],[(cl b4 167 [(ii m.W),(ii m.H),(ll a2 v2 n2),(ii (aa (bL+1))),(ll a6 x6 n6)]),H6])) J J (fuel,(List.replicate (Int.toNat (aa (v3.1*v3.2))) (0:Int)),0,a3,n3,H3) [0,1,2,1] ⟨H,s3⟩ J J ?_)))))))))));rintro k8 ⟨x6,x7,a6,n6,H6⟩ ⟨Z6,s6⟩;rw[lP.l0] at Z6;refine rc T 6 (cd J Z6 (λZ6=>?_) (λZ6=>?_))
 ·refine rc T 10 (fz J (rz [10] mix (bO bN) (λhg pf=>ha T 8 [0,1,2] sz hg pf J (av 3 sz hg pf J (aw T J J J J (aD (j:=2) J J)) (ha T 3 [4,5,6,7] sz hg pf J (av 8 sz hg pf J (aw T J J J J (aD (j:=2) J J)) ?_))))));obtain⟨c8,Z6⟩:=az Z6;obtain⟨q7,o7,e7⟩:=s6.r.addr c8.1 c8.2;refine av 9 sz hg pf J (cB T J J J J J e7 c8.1 c8.2) (ao 10 (kI (k:=(Fl.int .i64)) T 3 0 (aa (bL+1)) J J J J J J s6 e7 c8 J J J (λH8 s8=>kg [7,8,45,46,49,50,51,53,54,55,56,57,58] [0,0,1] [0,0,1,0] [(52,(ll a6 (List.set x6 (Int.toNat x7) (aa (bL+1))) n6))] [(cl b4 167 [(ii m.W),(ii m.H),(ll a2 v2 n2),(ii (aa (bL+1))),(ll a6 (List.set x6 (Int.toNat x7) (aa (bL+1))) n6)])] J J ⟨(by first |rfl |(simp only[ll,List.length_set];rfl)),trivial⟩ (by first |rfl |(simp only[ll,List.length_set];rfl)) (an sl (ae (rx T 7 ?_))))))
  exact ar (_,_,_,_,_) [0,0,1,0] ⟨Z6,s8⟩ J J
 refine rc T 12 ?_
 cases Z6;refine gj [2,1,1] J (p1 T J [1,0] ⟨_,_,⟨b4,(List.flatten [(cl b4 167 [(ii m.W),(ii m.H),(ll a2 v2 n2),(ii (aa (bL+1))),(ll a6 x6 n6)]),H2,H6]),(show iq (bt.mk (aJ.mk m.W m.H v2) (aa (bL+1)) x6) b4 (List.flatten [(cl b4 167 [(ii m.W),(ii m.H),(ll a2 v2 n2),(ii (aa (bL+1))),(ll a6 x6 n6)]),H2,H6]) from⟨a2,n2,H2,a6,n6,H6,s2,s6,J⟩),J,J⟩,J,J⟩ J)
def iE.f (g:bt):Option (Int×Int):=some (g.m.W,g.m.H)
theorem iE.c (H:iE.f g=some r) (fC:iq g eX fW):
 QU 171 [(pp eX)] [fW] F (.tuple #[(ii r.1),(ii r.2)]):=by
 unfold iE.f at H;refine aB Tryz.func171 J J (λW=>rc T 13 (dW J (rc T 3 ?_)));obtain⟨a3,n3,H3,a4,n4,H4,s3,s4,bT⟩:=(λx=>x) fC;refine bz 0 (congrArg some bT) (fz J (dj mix ay ?_))
 iterate 4 refine au T J ?_
 refine aN J J J (aw T J J J J (aD (j:=1) J J)) ?_
 iterate 4 refine au T J ?_
 refine aN J J J (aw T J J J J (aD (j:=1) J J)) (au T J (au T J (cR (rx T 2 ?_))))
 cases H;refine cV [1,1,1] J bT (p0 T J [1,0] J)
def oS.f (g:bt):Option Int:=some g.bL
theorem oS.c (H:oS.f g=some r) (fC:iq g eX fW):
 QU 136 [(pp eX)] [fW] F (ii r):=by
 unfold oS.f at H;refine aB Tryz.func136 J J (λW=>rc T 12 (dW J (rc T 3 ?_)));obtain⟨a3,n3,H3,a4,n4,H4,s3,s4,bT⟩:=(λx=>x) fC;refine bz 0 (congrArg some bT) (fz J (rc T 4 (lf T 1 J (ro T 4 ?_))))
 cases H;refine cV [1,1,1] J bT (p0 T J [1,0] J)
def wP.f (g:bt) (cell:Int) (cost:Int):Option (Int×bt):=(if cell<0 then(some true) else(some (decide (cell≥(List.length g.m.C:Int))))).bind λx1=>if x1=true then(some (7,g)) else(if((decide (cost<1))||(decide (cost>255)))=true then(some (8,g)) else(if(0<=cell/\cell<(List.length g.m.C:Int)) then((gD.f g.m.W g.m.H cell).bind λv3=>if(0<=v3/\v3<(List.length g.pz:Int)) then(some (0,(bt.mk (aJ.mk g.m.W g.m.H (List.set g.m.C (Int.toNat cell) (bP cost))) (aa (g.bL+1)) (List.set g.pz (Int.toNat v3) (aa (g.bL+1)))))) else none) else none))
def wP.R (Z_:Nat) (r:(Int×bt)) (u:Value) (G:List Hp):Prop:= ∃(H0:Hp),iq r.2 Z_ H0/\u=(ii r.1)/\G=[H0]
theorem wP.c (H:wP.f g cell cost=some r) (fC:iq g eX fW):
 QR 155 [(pp eX),(ii cell),(ii cost)] [fW] [] F (wP.R eX r):=by
 unfold wP.f at H;refine aB Tryz.func155 J J (λW=>rc T 14 (dW J (mq H [0,1,2] [1,0] (λz2 (x1:Bool)=>(x1=z2,[(10,(bb x1))],[])) J J (λz2 Z1 _=>?_) ?_)))
 ·obtain⟨a3,n3,H3,a4,n4,H4,s3,s4,bT⟩:=(λx=>x) fC;refine bz 0 (congrArg some bT) (fz J (rc T 4 (ad 13 J Z1 (λZ1=>?_) (λZ1=>?_))))
  ·refine ro T 12 (cV [1,1,1] J bT (am _ [0,0] (oi Z1) J J))
  refine ro T 5 (lf T 1 J (ro T 6 (cV [1,1,1] J bT (am _ [0,0] (oi Z1) J J))))
 rintro _ x1 rfl H;refine cb J H (λH=>?_) (λH=>?_)
 ·refine rc T 8 ?_
  cases H;exact p1 T J [1,0] ⟨fW,fC,J,J⟩ J
 refine rc T 5 (go T [3,4,5] 26 [0,1,2] 29 J J J J J J J (ro T 3 (cb J H (λH=>?_) (λH=>?_))))
 ·refine rc T 8 ?_
  cases H;exact p1 T J [1,0] ⟨fW,fC,J,J⟩ J
 refine rc T 4 ?_;obtain⟨a6,n6,H6,a7,n7,H7,s6,s7,rA⟩:=(λx=>x) fC;refine bz 1 (congrArg some rA) (fz J (rc T 5 (lf T 1 J (ro T 3 ?_))));obtain⟨c5,H⟩:=az H;obtain⟨q8,o8,e8⟩:=s6.r.addr c5.1 c5.2;refine ix T J e8 c5 (aW (kI (k:=(Fl.int .u8)) T 2 0 (bP cost) J J J J J J s6 e8 c5 J J J (λH9 s9=>kg [0,1] [0,1,1] [0,1,1,0] [] [(cl eX 167 [(ii g.m.W),(ii g.m.H),(ll a6 (List.set g.m.C (Int.toNat cell) (bP cost)) n6),(ii g.bL),(ll a7 g.pz n7)])] J J trivial (by first |rfl |(simp only[ll,List.length_set];rfl)) (ro T 7 (lf T 3 J (ro T 3 (sg T 3 J (ro T 3 (ks [0,1] J (fz J ?_))))))))))
 refine rz [21] mix (bO bN) (λhg pf=>ha T 19 [0,1,2] sz hg pf J (av 3 sz hg pf J (aw T J J J J (aD (j:=3) J J)) (ha T 14 [4,5,6,7] sz hg pf J (av 8 sz hg pf J (aw T J J J J (aD (j:=3) J J)) (ha T 9 [9,10,11,12] sz hg pf J (av 13 sz hg pf J (aw T J J J J (aD (j:=3) J J)) (ha T 4 [14,16,17,18] sz hg pf J (av 19 sz hg pf J (aw T J J J J (aD (j:=3) J J)) (ao 15 (kh [] J rC H (gD.c ·) (λv3 H=>an sz ?_)))))))))));obtain⟨c7,H⟩:=az H;obtain⟨Ks,Kj,pL⟩:=s7.r.addr c7.1 c7.2;refine av 20 sz hg pf J (cB T J J J J J pL c7.1 c7.2) (ao 21 (kI (k:=(Fl.int .i64)) T 2 0 (aa (g.bL+1)) J J J J J J s7 pL c7 J J J (λcA cS=>kg [0,1,46,47,48,50,51,52,53,54,55,56,57,58,59,60,61,62,63,64,65,66] [0,0,0] [0,0,0,0] [(49,(ll a7 (List.set g.pz (Int.toNat v3) (aa (g.bL+1))) n7))] [(cl eX 167 [(ii g.m.W),(ii g.m.H),(ll a6 (List.set g.m.C (Int.toNat cell) (bP cost)) n6),(ii (aa (g.bL+1))),(ll a7 (List.set g.pz (Int.toNat v3) (aa (g.bL+1))) n7)])] J J ⟨(by first |rfl |(simp only[ll,List.length_set];rfl)),trivial⟩ (by first |rfl |(simp only[ll,List.length_set];rfl)) (an sl (ae (rx T 7 ?_))))))
 cases H;refine gj [3,1,1] J (p1 T J [1,0] ⟨(List.flatten [(cl eX 167 [(ii g.m.W),(ii g.m.H),(ll a6 (List.set g.m.C (Int.toNat cell) (bP cost)) n6),(ii (aa (g.bL+1))),(ll a7 (List.set g.pz (Int.toNat v3) (aa (g.bL+1))) n7)]),H9,cA]),(show iq (bt.mk (aJ.mk g.m.W g.m.H (List.set g.m.C (Int.toNat cell) (bP cost))) (aa (g.bL+1)) (List.set g.pz (Int.toNat v3) (aa (g.bL+1)))) eX (List.flatten [(cl eX 167 [(ii g.m.W),(ii g.m.H),(ll a6 (List.set g.m.C (Int.toNat cell) (bP cost)) n6),(ii (aa (g.bL+1))),(ll a7 (List.set g.pz (Int.toNat v3) (aa (g.bL+1))) n7)]),H9,cA]) from⟨a6,n6,H9,a7,n7,cA,s9,cS,J⟩),J,J⟩ J)
def lO.l0:Nat->bt->Int->(Int×Int)->(Int×Int)->List Int->Int->Option (aJ×Bool)
 |0,_,_,_,_,_,_=>none
 |k7+1,g,bB,v1,v2,x5,x6=>if x6<v2.2 then((tv.f v1.1 v1.2 bB (aa (x6*v2.1))).bind λv8=>if(0<=v8/\v8<=(aa (v8+v2.1))/\(aa (v8+v2.1))<=(List.length g.m.C:Int)) then(if(List.length x5+List.length (aA g.m.C v8 (aa (v8+v2.1)))<=1099511627776) then(lO.l0 k7 g bB v1 v2 (x5++(aA g.m.C v8 (aa (v8+v2.1)))) (aa (x6+1))) else none) else none) else(some ((aJ.mk v2.1 v2.2 x5),true))
def lO.f (g:bt) (bB:Int):Option (aJ×Bool):=(iE.f g).bind λv1=>(qS.f v1.1 v1.2 bB).bind λv2=>if(v2.1==0)=true then(some ((aJ.mk 0 0 []),false)) else(lO.l0 fuel g bB v1 v2 [] 0)
def lO.R (r:(aJ×Bool)) (u:Value) (G:List Hp):Prop:= ∃(a0:Option Addr) (n0:Nat) (H0:Hp),aj (Fl.int .u8) 5 r.1.C a0 n0 H0/\u=(.tuple #[(.agg #[(ii r.1.W),(ii r.1.H),(ll a0 r.1.C n0)]),(bb r.2)])/\G=[H0]
theorem lO.c (H:lO.f g bB=some r) (fC:iq g eX fW):
 QR 140 [(pp eX),(ii bB)] [fW] [fW] F (lO.R r):=by
 unfold lO.f at H;refine aB Tryz.func140 J J (λW=>rc T 2 (nc T J (λb2=>ro T 6 (k [0] J tP H (iE.c · fC) (λv1 H=>ro T 12 (k [] J FO H (qS.c ·) (λv2 H=>ro T 14 (cb J H (λH=>?_) (λH=>?_)))))))))
 ·refine rc T 3 (sg T 2 J (ro T 5 ?_))
  cases H;refine br (pb T J (.cQ (j:=2) [(ii 0),(ii 0),nl] J J J J J J J (.tmp J .nil)) [3,0,0] ⟨(_,_),none,0,[],aj.nil,J,J⟩ J J)
 refine rc T 7 (nc T J (λb4=>sg T 3 J (ro T 10 (br (lq [0,1,4,6,7,8,10,31] [1,0,0] (λ(⟨k7,x5,x6,a6,n6,H6⟩:Nat×List Int×Int×Option Addr×Nat×Hp)=>(lO.l0 k7 g bB v1 v2 x5 x6=some r/\aj (Fl.int .u8) 5 x5 a6 n6 H6,[(32,(ii x6))],[(cl b4 139 [(ii v2.1),(ii v2.2),(ll a6 x5 n6)]),H6])) J J (fuel,[],0,none,0,[]) [1,0,0,0,0] ⟨H,aj.nil⟩ J J ?_)))));rintro k7 ⟨x5,x6,a6,n6,H6⟩ ⟨Z4,s6⟩;rw[lO.l0] at Z4;refine rc T 6 (cd J Z4 (λZ4=>?_) (λZ4=>?_))
 ·refine rc T 18 (k [] J Jl Z4 (tv.c ·) (λv8 Z4=>ro T 3 ?_));obtain⟨a8,n8,H8,a9,n9,H9,s8,s9,rB⟩:=(λx=>x) fC;refine bz 1 (congrArg some rB) (fz J (fz J (rz [12,14] mix (bO bN) (λhg pf=>ha T 14 [0] sz hg pf J (av 1 sz hg pf J (aw T J J J J (aD (j:=2) J J)) (ha T 9 [2,3,4,5] sz hg pf J (av 6 sz hg pf J (aw T J J J J (aD (j:=4) J J)) (ha T 4 [7,8,9,10] sz hg pf J ?_))))))));obtain⟨c7,Z4⟩:=az Z4;refine av 11 sz hg pf J (kn T J J J J J J c7 s8.bW) (ao 12 ?_);obtain⟨c8,Z4⟩:=az Z4;refine dM (k:=(Fl.int .u8)) (xs:=x5) T (g:=3) J J J J J J J J J J s6 (mL (oO s8 5) c7 s8.bW) c8 J (λcw n10 bV bS=>an sl (hb T 13 sl hg pf J (ao 14 (sf T 2 J (an sl (ae (rx T 7 (cV [4,4,4] J rB (ar (_,_,_,_,_) [0,3,0,0,0] ⟨Z4,bS⟩ J J)))))))))
 refine rc T 7 (lm T 3 J (sg T 2 J (ro T 4 ?_)))
 cases Z4;exact pb T J (.cQ (j:=2) [(ii v2.1),(ii v2.2),(ll a6 x5 n6)] J J J J J J J (.tmp J .nil)) [4,1,0] ⟨(_,_),a6,n6,H6,s6,J,J⟩ J J
def pP.f (g:bt) (bB:Int):Option Int:=(if bB<0 then(some true) else(some (decide (bB≥(List.length g.pz:Int))))).bind λx1=>if x1=true then(some 0) else(if(0<=bB/\bB<(List.length g.pz:Int)) then(some (rd g.pz bB)) else none)
theorem pP.c (H:pP.f g bB=some r) (fC:iq g eX fW):
 QU 137 [(pp eX),(ii bB)] [fW] F (ii r):=by
 unfold pP.f at H;refine aB Tryz.func137 J J (λW=>rc T 6 (mq H [0,1] [1,0] (λz2 (x1:Bool)=>(x1=z2,[(19,(bb x1))],[])) J J (λz2 Z1 _=>?_) ?_))
 ·obtain⟨a3,n3,H3,a4,n4,H4,s3,s4,bT⟩:=(λx=>x) fC;refine bz 0 (congrArg some bT) (fz J (rc T 8 (ad 11 J Z1 (λZ1=>?_) (λZ1=>?_))))
  ·refine ro T 10 (cV [1,1,1] J bT (am _ [0,0] (oi Z1) J J))
  refine ro T 4 (lf T 1 J (ro T 5 (cV [1,1,1] J bT (am _ [0,0] (oi Z1) J J))))
 rintro _ x1 rfl H;refine cb J H (λH=>?_) (λH=>?_)
 ·refine rc T 7 ?_
  cases H;exact p0 T J [1,0] J
 refine rc T 3 ?_;obtain⟨a6,n6,H6,a7,n7,H7,s6,s7,rA⟩:=(λx=>x) fC;refine bz 1 (congrArg some rA) (fz J (rc T 4 (lf T 1 J (ro T 1 ?_))));obtain⟨c4,H⟩:=az H;obtain⟨q8,o8,e8⟩:=s7.r.addr c4.1 c4.2;refine ix T J e8 c4 (le T 0 (oO s7 3) e8 c4 J J (ro T 4 ?_))
 cases H;refine cV [1,1,1] J rA (p0 T J [1,0] J)
def Ab.f:Option aJ:=some (aJ.mk 0 0 [])
def Ab.R (r:aJ) (u:Value) (G:List Hp):Prop:= ∃(a0:Option Addr) (n0:Nat) (H0:Hp),aj (Fl.int .u8) 5 r.C a0 n0 H0/\u=(.agg #[(ii r.W),(ii r.H),(ll a0 r.C n0)])/\G=[H0]
theorem Ab.c (H:Ab.f=some r):
 QR 74 [(.pointer none)] [] [] F (Ab.R r):=by
 unfold Ab.f at H;refine aB Tryz.func74 J J (λW=>rc T 2 (nc T J (λb1=>ro T 9 (mW J (rc T 3 (sg T 1 J (ro T 4 ?_)))))))
 cases H;refine br (pb T J (.cQ (j:=1) [(ii 0),(ii 0),nl] J J J J J J J .nil) [2,0] ⟨(_,_),none,0,[],aj.nil,J,J⟩ J J)
def wQ.f (g:bt):Option aJ:=(nJ.f g.m.C).bind λv1=>some (aJ.mk g.m.W g.m.H v1)
def wQ.R (r:aJ) (u:Value) (G:List Hp):Prop:= ∃(a0:Option Addr) (n0:Nat) (H0:Hp),aj (Fl.int .u8) 5 r.C a0 n0 H0/\u=(.agg #[(ii r.W),(ii r.H),(ll a0 r.C n0)])/\G=[H0]
theorem wQ.c (H:wQ.f g=some r) (fC:iq g eX fW):
 QR 74 [(pp eX)] [fW] [fW] F (wQ.R r):=by
 unfold wQ.f at H;refine aB Tryz.func74 J J (λW=>rc T 2 (nc T J (λb2=>ro T 9 (dW J (rc T 3 ?_)))));obtain⟨a4,n4,H4,a5,n5,H5,s4,s5,dp⟩:=(λx=>x) fC;refine bz 0 (congrArg some dp) (fz J (ks [0,2] J (fz J (rg [17] [0,0,0,0,0] mix (bO bN) (λhg pf=>ha T 14 [0,1,2,3] sz hg pf J (av 4 sz hg pf J (aw T J J J J (aD (j:=2) J J)) (ha T 9 [5,6,7,8] sz hg pf J (av 9 sz hg pf J (aw T J J J J (aD (j:=2) J J)) (ha T 4 [10,11,12,13] sz hg pf J (av 14 sz hg pf J (aw T J J J J (aD (j:=2) J J)) (ao 15 (kR nJ.R [] [] J MO H (nJ.c · (oO s4 3) s4.bW) (λv1 H=>?_)))))))))))));rintro _ _ ⟨a6,n6,H6,s6,rfl,rfl⟩;refine fz J (an (so [0,0,0,0,0]) (ha T 1 [16] (so [0,0,0,0,0]) hg pf J (ao 17 (sf T 1 J (an sl (ae (rx T 1 (rc T 1 ?_))))))))
 cases H;refine cV [2,2,2] J dp (pb T J (.cQ (j:=1) [(ii g.m.W),(ii g.m.H),(ll a6 v1 n6)] J J J J J J J .nil) [2,2,0] ⟨(_,_),a6,n6,H6,s6,J,J⟩ J J)
end
noncomputable section
def yr.f:Option (List Int):=some [0,1,2,3]
theorem yr.c (H:yr.f=some r):
 QU 205 [] [] F (.agg #[(ii (rd r 0)),(ii (rd r 1)),(ii (rd r 2)),(ii (rd r 3))]):=by
 unfold yr.f at H;refine aB Tryz.func205 J J (λW=>rc T 2 (nc T J (λb1=>ro T 4 (bp J (I6 T J J J J J J) (sg T 1 J (ro T 3 ?_))))))
 cases H;exact pb T J (.cQ (j:=1) [(ii 0),(ii 1),(ii 2),(ii 3)] J J J J J J J .nil) [0] () J J
def fe.l3:Nat->Int->Int->List Int->Int->Option (List Int)
 |0,_,_,_,_=>none
 |w6+1,tw,th,dL,b_=>if b_<th then(if(List.length dL+1<=1099511627776) then(fe.l3 w6 tw th (dL++[(aa (0+(aa (b_*tw))))]) (aa (b_+1))) else none) else(some dL)
def fe.l2:Nat->Int->Int->List Int->Int->Option (List Int)
 |0,_,_,_,_=>none
 |lC+1,tw,th,aT,bc=>if bc<th then(if(List.length aT+1<=1099511627776) then(fe.l2 lC tw th (aT++[(aa ((aa (tw-1))+(aa (bc*tw))))]) (aa (bc+1))) else none) else(some aT)
def fe.l1:Nat->Int->List Int->Int->Option (List Int)
 |0,_,_,_=>none
 |wY+1,tw,x8,x9=>if x9<tw then(if(List.length x8+1<=1099511627776) then(fe.l1 wY tw (x8++[(aa (0+x9))]) (aa (x9+1))) else none) else(some x8)
def fe.l0:Nat->Int->Int->List Int->Int->Option (List Int)
 |0,_,_,_,_=>none
 |k5+1,tw,th,x3,x4=>if x4<tw then(if(List.length x3+1<=1099511627776) then(fe.l0 k5 tw th (x3++[(aa ((aa ((aa (th-1))*tw))+x4))]) (aa (x4+1))) else none) else(some x3)
def fe.f (tw:Int) (th:Int) (side:Int):Option (List Int):=if(side==2)=true then(fe.l0 fuel tw th [] 0) else(if(side==0)=true then(fe.l1 fuel tw [] 0) else(if(side==1)=true then(fe.l2 fuel tw th [] 0) else(if(side==3)=true then(fe.l3 fuel tw th [] 0) else(some []))))
def fe.R (r:(List Int)) (u:Value) (G:List Hp):Prop:= ∃(a0:Option Addr) (n0:Nat) (H0:Hp),aj (Fl.int .i64) 3 r a0 n0 H0/\u=(ll a0 r n0)/\G=[H0]
theorem fe.c (H:fe.f tw th side=some r):
 QR 233 [(ii tw),(ii th),(ii side)] [] [] F (fe.R r):=by
 unfold fe.f at H;refine aB Tryz.func233 J J (λW=>rc T 38 (cb J H (λH=>?_) (λH=>?_)))
 ·refine rc T 22 (br (lq [8,24] [0] (λ(⟨k5,x3,x4,a2,n2,H2⟩:Nat×List Int×Int×Option Addr×Nat×Hp)=>(fe.l0 k5 tw th x3 x4=some r/\aj (Fl.int .i64) 3 x3 a2 n2 H2,[(7,(ll a2 x3 n2)),(25,(ii x4))],[H2])) J J (fuel,[],0,none,0,[]) [0,0] ⟨H,aj.nil⟩ J J ?_));rintro k5 ⟨x3,x4,a2,n2,H2⟩ ⟨Z2,s2⟩;rw[fe.l0] at Z2;refine rc T 6 (cd J Z2 (λZ2=>?_) (λZ2=>?_))
  ·refine rc T 15 (aW (cU (k:=(Fl.int .i64)) T [(aa ((aa ((aa (th-1))*tw))+x4))] J J J J J J J J J (λa3 H3 s3=>?_)));obtain⟨c4,Z2⟩:=az Z2;refine aW (dM (k:=(Fl.int .i64)) (xs:=x3) T (g:=1) J J J J J J J J J J s2 (oO s3 2) c4 J (λa4 n4 H4 s4=>ro T 9 (ar (_,_,_,_,_) [0,0] ⟨Z2,s4⟩ J J)))
  refine rc T 19 ?_
  cases Z2;exact p1 T J [1,0] ⟨a2,n2,H2,s2,J,J⟩ J
 refine rc T 9 (cb J H (λH=>?_) (λH=>?_))
 ·refine rc T 15 (br (lq [8,24] [0] (λ(⟨wY,x8,x9,a6,n6,H6⟩:Nat×List Int×Int×Option Addr×Nat×Hp)=>(fe.l1 wY tw x8 x9=some r/\aj (Fl.int .i64) 3 x8 a6 n6 H6,[(7,(ll a6 x8 n6)),(25,(ii x9))],[H6])) J J (fuel,[],0,none,0,[]) [0,0] ⟨H,aj.nil⟩ J J ?_));rintro wY ⟨x8,x9,a6,n6,H6⟩ ⟨Z6,s6⟩;rw[fe.l1] at Z6;refine rc T 6 (cd J Z6 (λZ6=>?_) (λZ6=>?_))
  ·refine rc T 15 (aW (cU (k:=(Fl.int .i64)) T [(aa (0+x9))] J J J J J J J J J (λa7 H7 s7=>?_)));obtain⟨c8,Z6⟩:=az Z6;refine aW (dM (k:=(Fl.int .i64)) (xs:=x8) T (g:=1) J J J J J J J J J J s6 (oO s7 2) c8 J (λa8 n8 H8 s8=>ro T 9 (ar (_,_,_,_,_) [0,0] ⟨Z6,s8⟩ J J)))
  refine rc T 19 ?_
  cases Z6;exact p1 T J [1,0] ⟨a6,n6,H6,s6,J,J⟩ J
 refine rc T 9 (cb J H (λH=>?_) (λH=>?_))
 ·refine rc T 24 (br (lq [0,8,37] [0] (λ(⟨lC,aT,bc,cw,n10,bV⟩:Nat×List Int×Int×Option Addr×Nat×Hp)=>(fe.l2 lC tw th aT bc=some r/\aj (Fl.int .i64) 3 aT cw n10 bV,[(7,(ll cw aT n10)),(38,(ii bc))],[bV])) J J (fuel,[],0,none,0,[]) [0,0] ⟨H,aj.nil⟩ J J ?_));rintro lC ⟨aT,bc,cw,n10,bV⟩ ⟨lK,bS⟩;rw[fe.l2] at lK;refine rc T 6 (cd J lK (λlK=>?_) (λlK=>?_))
  ·refine rc T 17 (aW (cU (k:=(Fl.int .i64)) T [(aa ((aa (tw-1))+(aa (bc*tw))))] J J J J J J J J J (λdt cA cS=>?_)));obtain⟨gY,lK⟩:=az lK;refine aW (dM (k:=(Fl.int .i64)) (xs:=aT) T (g:=1) J J J J J J J J J J bS (oO cS 2) gY J (λa12 n12 dw dD=>ro T 9 (ar (_,_,_,_,_) [0,0] ⟨lK,dD⟩ J J)))
  refine rc T 15 ?_
  cases lK;exact p1 T J [1,0] ⟨cw,n10,bV,bS,J,J⟩ J
 refine rc T 8 (cb J H (λH=>?_) (λH=>?_))
 ·refine rc T 18 (br (lq [0,8,37] [0] (λ(⟨w6,dL,b_,iC,n14,fx⟩:Nat×List Int×Int×Option Addr×Nat×Hp)=>(fe.l3 w6 tw th dL b_=some r/\aj (Fl.int .i64) 3 dL iC n14 fx,[(7,(ll iC dL n14)),(38,(ii b_))],[fx])) J J (fuel,[],0,none,0,[]) [0,0] ⟨H,aj.nil⟩ J J ?_));rintro w6 ⟨dL,b_,iC,n14,fx⟩ ⟨ck,dO⟩;rw[fe.l3] at ck;refine rc T 6 (cd J ck (λck=>?_) (λck=>?_))
  ·refine rc T 17 (aW (cU (k:=(Fl.int .i64)) T [(aa (0+(aa (b_*tw))))] J J J J J J J J J (λjT dF dK=>?_)));obtain⟨pG,ck⟩:=az ck;refine aW (dM (k:=(Fl.int .i64)) (xs:=dL) T (g:=1) J J J J J J J J J J dO (oO dK 2) pG J (λjU n16 fV fP=>ro T 9 (ar (_,_,_,_,_) [0,0] ⟨ck,fP⟩ J J)))
  refine rc T 15 ?_
  cases ck;exact p1 T J [1,0] ⟨iC,n14,fx,dO,J,J⟩ J
 refine rc T 20 ?_
 cases H;refine br (p1 T J [1,0] ⟨none,0,[],aj.nil,J,J⟩ J)
def yq.f (w:Int) (h:Int) (cell:Int) (side:Int):Option Int:=(lZ.f w h cell side).bind λv1=>(if v1<0 then(some true) else((gD.f w h v1).bind λv4=>(gD.f w h cell).bind λv5=>some (v4==v5))).bind λx2=>if x2=true then(some (-1)) else(some v1)
theorem yq.c (H:yq.f w h cell side=some r):
 QU 206 [(ii w),(ii h),(ii cell),(ii side)] [] F (ii r):=by
 unfold yq.f at H;refine aB Tryz.func206 J J (λW=>rc T 11 (k [] J Ae H (lZ.c ·) (λv1 H=>ro T 4 (mq H [9] [0] (λz3 (x2:Bool)=>(x2=z3,[(27,(bb x2))],[])) J J (λz3 Z2 _=>?_) ?_))))
 ·refine rc T 4 (ad 17 J Z2 (λZ2=>?_) (λZ2=>?_))
  ·refine ro T 12 (am _ [0] (oi Z2) J J)
  refine ro T 3 (k [] J rC Z2 (gD.c ·) (λv4 Z2=>ro T 3 (k [] J rC Z2 (gD.c ·) (λv5 Z2=>ro T 4 (am _ [0] (oi Z2) J J)))))
 rintro _ x2 rfl H;refine cb J H (λH=>?_) (λH=>?_)
 ·refine rc T 7 ?_
  cases H;exact p0 T J [0] J
 refine rc T 9 ?_
 cases H;exact p0 T J [0] J
def gx.l2:Nat->Int->Int->Int->List Bool->List Int->Int->Option (List Int)
 |0,_,_,_,_,_,_=>none
 |o_+1,w,h,bB,x5,bR,dQ=>if dQ<(List.length x5:Int) then(if(0<=dQ/\dQ<(List.length x5:Int)) then(if(rd x5 dQ)=true then((tv.f w h bB dQ).bind λv25=>if(List.length bR+1<=1099511627776) then(gx.l2 o_ w h bB x5 (bR++[v25]) (aa (dQ+1))) else none) else(gx.l2 o_ w h bB x5 bR (aa (dQ+1)))) else none) else(some bR)
def gx.l1:Nat->(List Int)->List Bool->Int->Option (List Bool)
 |0,_,_,_=>none
 |JY+1,v10,db,dL=>if dL<(List.length v10:Int) then(if(0<=dL/\dL<(List.length v10:Int)) then(if(0<=(rd v10 dL)/\(rd v10 dL)<(List.length db:Int)) then(gx.l1 JY v10 (List.set db (Int.toNat (rd v10 dL)) true) (aa (dL+1))) else none) else none) else(some db)
def gx.l0:Nat->Int->Int->Int->(Int×Int)->(List Int)->List Bool->Int->Option (List Int)
 |0,_,_,_,_,_,_,_=>none
 |k7+1,w,h,bB,v1,v2,x5,x6=>if x6<4 then((if(0<=x6/\x6<(List.length [(rd v2 0),(rd v2 1),(rd v2 2),(rd v2 3)]:Int)) then((fe.f v1.1 v1.2 (rd [(rd v2 0),(rd v2 1),(rd v2 2),(rd v2 3)] x6)).bind λv10=>(if((List.length v10:Int)==0)=true then(some true) else(if(0<=(0:Int)/\(0:Int)<(List.length v10:Int)) then((tv.f w h bB (rd v10 0)).bind λgT=>(yq.f w h gT (rd [(rd v2 0),(rd v2 1),(rd v2 2),(rd v2 3)] x6)).bind λbZ=>some (decide (bZ<0))) else none)).bind λbf=>if bf=true then(some x5) else(gx.l1 fuel v10 x5 0)) else none).bind λx8=>gx.l0 k7 w h bB v1 v2 x8 (aa (x6+1))) else(gx.l2 fuel w h bB x5 [] 0)
def gx.f (w:Int) (h:Int) (bB:Int):Option (List Int):=(qS.f w h bB).bind λv1=>if(0<=(aa (v1.1*v1.2))/\(aa (v1.1*v1.2))<=1099511627776) then((yr.f).bind λv2=>gx.l0 fuel w h bB v1 v2 (List.replicate (Int.toNat (aa (v1.1*v1.2))) false) 0) else none
def gx.R (r:(List Int)) (u:Value) (G:List Hp):Prop:= ∃(a0:Option Addr) (n0:Nat) (H0:Hp),aj (Fl.int .i64) 3 r a0 n0 H0/\u=(ll a0 r n0)/\G=[H0]
theorem gx.c (H:gx.f w h bB=some r):
 QR 203 [(ii w),(ii h),(ii bB)] [] [] F (gx.R r):=by
 unfold gx.f at H;refine aB Tryz.func203 J J (λW=>rc T 10 (k [] J FO H (qS.c ·) (λv1 H=>ro T 12 ?_)));obtain⟨c2,H⟩:=az H;refine aW (yj (k:=Fl.bool) T false J J J J J J J J c2 J (λa1 n1 H1 s1=>ro T 6 (k [] J SE H (yr.c ·) (λv2 H=>ro T 4 (lq [0,1,2,7,8,29] [0] (λ(⟨k7,x5,x6,a3,n3,H3⟩:Nat×List Bool×Int×Option Addr×Nat×Hp)=>(gx.l0 k7 w h bB v1 v2 x5 x6=some r/\aj Fl.bool 4 x5 a3 n3 H3,[(9,(ll a3 x5 n3)),(30,(ii x6))],[H3])) J J (fuel,(List.replicate (Int.toNat (aa (v1.1*v1.2))) false),0,a1,n1,H1) [0,0] ⟨H,s1⟩ J J ?_)))));rintro k7 ⟨x5,x6,a3,n3,H3⟩ ⟨Z4,s3⟩;rw[gx.l0] at Z4;refine rc T 6 (cd J Z4 (λZ4=>?_) (λZ4=>?_))
 ·refine rc T 2 (mq Z4 [0,1,2,7,8,29,30] [0] (λz9 (⟨x8,a4,n4,H4⟩:List Bool×Option Addr×Nat×Hp)=>(x8=z9/\aj Fl.bool 4 x8 a4 n4 H4,[(9,(ll a4 x8 n4))],[H4])) J J (λz9 Z6 _=>?_) ?_)
  ·refine rc T 3 ?_;obtain⟨c7,Z6⟩:=az Z6;refine bp J (Rx T (Fl.int .i64) [(rd v2 0),(rd v2 1),(rd v2 2),(rd v2 3)] J J J J J J J J J c7 J) (ro T 8 (kr fe.R [] [] J acR Z6 (fe.c ·) (λv10 Z6=>?_)));rintro _ _ ⟨a5,n5,H5,s5,rfl,rfl⟩;refine fz J (ro T 4 (mq Z6 [0,1,2,7,8,9,12,29,30] [0,0,0] (λz12 (bf:Bool)=>(bf=z12,[(53,(bb bf))],[])) J J (λz12 Z9 _=>?_) ?_))
   ·refine rc T 5 (ab 40 J Z9 (λZ9=>?_) (λZ9=>?_))
    ·refine ro T 15 (am _ [0,0,0] (oi Z9) J J)
    refine ro T 6 ?_;obtain⟨dZ,Z9⟩:=az Z9;obtain⟨q6,o6,e6⟩:=s5.r.addr dZ.1 dZ.2;refine ix T J e6 dZ (le T 0 (oO s5 2) e6 dZ J J (k [] J Jl Z9 (tv.c ·) (λgT Z9=>ro T 1 (k [] J SF Z9 (yq.c ·) (λbZ Z9=>ro T 4 (am _ [0,0,0] (oi Z9) J J))))))
   rintro _ bf rfl Z6;refine cb J Z6 (λZ6=>?_) (λZ6=>?_)
   ·refine rc T 4 (am (_,_,_,_) [0,0] ⟨oi Z6,s3⟩ J J)
   refine rc T 10 (lq [0,1,2,7,8,29,30,54,55] [0,1] (λ(⟨JY,db,dL,a8,n8,H8⟩:Nat×List Bool×Int×Option Addr×Nat×Hp)=>(gx.l1 JY v10 db dL=some z9/\aj Fl.bool 4 db a8 n8 H8,[(9,(ll a8 db n8)),(56,(ii dL))],[H8])) J J (fuel,x5,0,a3,n3,H3) [0,1,0] ⟨Z6,s3⟩ J J ?_);rintro JY ⟨db,dL,a8,n8,H8⟩ ⟨cm,s8⟩;rw[gx.l1] at cm;refine rc T 6 (cd J cm (λcm=>?_) (λcm=>?_))
   ·refine rc T 6 ?_;obtain⟨jc,cm⟩:=az cm;obtain⟨q9,o9,e9⟩:=s5.r.addr jc.1 jc.2;refine ix T J e9 jc (le T 0 (oO s5 1) e9 jc J J (ro T 6 ?_));obtain⟨lz,cm⟩:=az cm;obtain⟨Ks,Kj,pL⟩:=s8.r.addr lz.1 lz.2;refine ix T J pL lz (aW (kI (k:=Fl.bool) T 2 0 true J J J J J J s8 pL lz J J J (λcA cS=>kf [0,1,2,7,8,29,30,54,55,56] [0,0,0] [(9,(ll a8 (List.set db (Int.toNat (rd v10 dL)) true) n8))] J J ⟨(by first |rfl |(simp only[ll,List.length_set];rfl)),trivial⟩ (ro T 8 ?_))))
    exact ar (_,_,_,_,_) [0,0,0] ⟨cm,cS⟩ J J
   refine rc T 6 (am (_,_,_,_) [0,1] ⟨oi cm,s8⟩ J J)
  rintro _ ⟨x8,a4,n4,H4⟩ ⟨rfl,s4⟩ Z4;refine rc T 5 (ar (_,_,_,_,_) [0,0] ⟨Z4,s4⟩ J J)
 refine rc T 19 (br (lq [0,1,2,65,66] [0,0] (λ(⟨o_,bR,dQ,dy,n13,eo⟩:Nat×List Int×Int×Option Addr×Nat×Hp)=>(gx.l2 o_ w h bB x5 bR dQ=some r/\aj (Fl.int .i64) 3 bR dy n13 eo,[(15,(ll dy bR n13)),(67,(ii dQ))],[eo])) J J (fuel,[],0,none,0,[]) [0,0,0] ⟨Z4,aj.nil⟩ J J ?_));rintro o_ ⟨bR,dQ,dy,n13,eo⟩ ⟨eU,dh⟩;rw[gx.l2] at eU;refine rc T 6 (cd J eU (λeU=>?_) (λeU=>?_))
 ·refine rc T 7 ?_;obtain⟨oK,eU⟩:=az eU;obtain⟨q14,o14,BI⟩:=s3.r.addr oK.1 oK.2;refine ix T J BI oK (le T 0 (oO s3 1) BI oK J J (ro T 9 (cb J eU (λeU=>?_) (λeU=>?_))))
  ·refine rc T 6 (k [] J Jl eU (tv.c ·) (λv25 eU=>aW (cU (k:=(Fl.int .i64)) T [v25] J J J J J J J J J (λjT dF dK=>?_))));obtain⟨LP,eU⟩:=az eU;refine aW (dM (k:=(Fl.int .i64)) (xs:=bR) T (g:=2) J J J J J J J J J J dh (oO dK 3) LP J (λjU n16 fV fP=>ro T 9 (ar (_,_,_,_,_) [0,0,0] ⟨eU,fP⟩ J J)))
  refine rc T 8 (ar (_,_,_,_,_) [0,0,0] ⟨eU,dh⟩ J J)
 refine rc T 12 ?_
 cases eU;exact p1 T J [2,0] ⟨dy,n13,eo,dh,J,J⟩ J
def tI.f (g:bt) (cell:Int):Option Bool:=(je.f g cell).bind λv1=>some ((decide (v1>0))&&(decide (v1<255)))
theorem tI.c (H:tI.f g cell=some r) (fC:iq g eX fW):
 QU 204 [(pp eX),(ii cell)] [fW] F (bb r):=by
 unfold tI.f at H;refine aB Tryz.func204 J J (λW=>rc T 9 (k [0] J u9 H (je.c · fC) (λv1 H=>ro T 8 (ga T [3,4,5] 11 [] 14 J J J J J J J (ro T 4 ?_)))))
 cases H;exact p0 T J [0,0] J
def jW.l0:Nat->bt->(List Int)->List Int->Int->Option (List Int)
 |0,_,_,_,_=>none
 |k7+1,g,v2,x5,x6=>if x6<(List.length v2:Int) then(if(0<=x6/\x6<(List.length v2:Int)) then((tI.f g (rd v2 x6)).bind λv8=>if v8=true then(if(List.length x5+1<=1099511627776) then(jW.l0 k7 g v2 (x5++[(rd v2 x6)]) (aa (x6+1))) else none) else(jW.l0 k7 g v2 x5 (aa (x6+1)))) else none) else(some x5)
def jW.f (g:bt) (bB:Int):Option (List Int):=(iE.f g).bind λv1=>(gx.f v1.1 v1.2 bB).bind λv2=>jW.l0 fuel g v2 [] 0
def jW.R (r:(List Int)) (u:Value) (G:List Hp):Prop:= ∃(a0:Option Addr) (n0:Nat) (H0:Hp),aj (Fl.int .i64) 3 r a0 n0 H0/\u=(ll a0 r n0)/\G=[H0]
theorem jW.c (H:jW.f g bB=some r) (fC:iq g eX fW):
 QR 175 [(pp eX),(ii bB)] [fW] [fW] F (jW.R r):=by
 unfold jW.f at H;refine aB Tryz.func175 J J (λW=>rc T 8 (k [0] J tP H (iE.c · fC) (λv1 H=>ro T 18 (kr gx.R [] [] J acz H (gx.c ·) (λv2 H=>?_)))));rintro _ _ ⟨a2,n2,H2,s2,rfl,rfl⟩;refine fz J (ro T 5 (br (lq [0,18,19] [1,0,0] (λ(⟨k7,x5,x6,a4,n4,H4⟩:Nat×List Int×Int×Option Addr×Nat×Hp)=>(jW.l0 k7 g v2 x5 x6=some r/\aj (Fl.int .i64) 3 x5 a4 n4 H4,[(7,(ll a4 x5 n4)),(20,(ii x6))],[H4])) J J (fuel,[],0,none,0,[]) [1,0,0,0] ⟨H,aj.nil⟩ J J ?_)));rintro k7 ⟨x5,x6,a4,n4,H4⟩ ⟨Z3,s4⟩;rw[jW.l0] at Z3;refine rc T 6 (cd J Z3 (λZ3=>?_) (λZ3=>?_))
 ·refine rc T 6 ?_;obtain⟨c5,Z3⟩:=az Z3;obtain⟨q5,o5,e5⟩:=s2.r.addr c5.1 c5.2;refine ix T J e5 c5 (le T 0 (oO s2 2) e5 c5 J J (ro T 7 (k [1] J MX Z3 (tI.c · fC) (λv8 Z3=>ro T 2 (cb J Z3 (λZ3=>?_) (λZ3=>?_))))))
  ·refine rc T 3 (aW (cU (k:=(Fl.int .i64)) T [(rd v2 x6)] J J J J J J J J J (λa6 H6 s6=>?_)));obtain⟨c8,Z3⟩:=az Z3;refine aW (dM (k:=(Fl.int .i64)) (xs:=x5) T (g:=3) J J J J J J J J J J s4 (oO s6 4) c8 J (λa7 n7 H7 s7=>ro T 9 (ar (_,_,_,_,_) [0,0,0,0] ⟨Z3,s7⟩ J J)))
  refine rc T 8 (ar (_,_,_,_,_) [0,0,0,0] ⟨Z3,s4⟩ J J)
 refine rc T 12 ?_
 cases Z3;exact p1 T J [3,1,0] ⟨a4,n4,H4,s4,J,J⟩ J
def mY.l0:Nat->bt->Int->(Int×Int)->(List Int)->List dR->Int->Option (List dR)
 |0,_,_,_,_,_,_=>none
 |k8+1,g,cell,v1,v3,x6,x7=>if x7<4 then(if(0<=x7/\x7<(List.length [(rd v3 0),(rd v3 1),(rd v3 2),(rd v3 3)]:Int)) then((yq.f v1.1 v1.2 cell (rd [(rd v3 0),(rd v3 1),(rd v3 2),(rd v3 3)] x7)).bind λv9=>(if v9≥0 then((tI.f g v9).bind λv12=>some v12) else(some false)).bind λaM=>if aM=true then((je.f g v9).bind λgT=>if(List.length x6+1<=1099511627776) then(mY.l0 k8 g cell v1 v3 (x6++[(dR.mk v9 gT)]) (aa (x7+1))) else none) else(mY.l0 k8 g cell v1 v3 x6 (aa (x7+1)))) else none) else(some x6)
def mY.f (g:bt) (cell:Int):Option (List dR):=(iE.f g).bind λv1=>(tI.f g cell).bind λv2=>if(!v2)=true then(some []) else((yr.f).bind λv3=>mY.l0 fuel g cell v1 v3 [] 0)
def mY.R (r:(List dR)) (u:Value) (G:List Hp):Prop:= ∃(a0:Option Addr) (n0:Nat) (H0:Hp),aj pa 283 r a0 n0 H0/\u=(ll a0 r n0)/\G=[H0]
theorem mY.c (H:mY.f g cell=some r) (fC:iq g eX fW):
 QR 176 [(pp eX),(ii cell)] [fW] [fW] F (mY.R r):=by
 unfold mY.f at H;refine aB Tryz.func176 J J (λW=>rc T 8 (k [0] J tP H (iE.c · fC) (λv1 H=>ro T 12 (k [0] J MX H (tI.c · fC) (λv2 H=>ro T 3 (cb J H (λH=>?_) (λH=>?_)))))))
 ·refine rc T 7 ?_
  cases H;refine br (p1 T J [2,0,0] ⟨none,0,[],aj.nil,J,J⟩ J)
 refine rc T 10 (k [] J SE H (yr.c ·) (λv3 H=>ro T 4 (br (lq [0,1,5,6,20] [1,0] (λ(⟨k8,x6,x7,a4,n4,H4⟩:Nat×List dR×Int×Option Addr×Nat×Hp)=>(mY.l0 k8 g cell v1 v3 x6 x7=some r/\aj pa 283 x6 a4 n4 H4,[(7,(ll a4 x6 n4)),(21,(ii x7))],[H4])) J J (fuel,[],0,none,0,[]) [1,0,0] ⟨H,aj.nil⟩ J J ?_))));rintro k8 ⟨x6,x7,a4,n4,H4⟩ ⟨Z5,s4⟩;rw[mY.l0] at Z5;refine rc T 6 (cd J Z5 (λZ5=>?_) (λZ5=>?_))
 ·refine rc T 6 ?_;obtain⟨c7,Z5⟩:=az Z5;refine bp J (Rx T (Fl.int .i64) [(rd v3 0),(rd v3 1),(rd v3 2),(rd v3 3)] J J J J J J J J J c7 J) (ro T 9 (k [] J SF Z5 (yq.c ·) (λv9 Z5=>ro T 3 (mq Z5 [0,1,5,6,7,10,20,21] [0,0,0] (λiW (aM:Bool)=>(aM=iW,[(35,(bb aM))],[])) J J (λiW Z9 _=>?_) ?_))))
  ·refine rc T 4 (ad 31 J Z9 (λZ9=>?_) (λZ9=>?_))
   ·refine ro T 2 (k [1] J MX Z9 (tI.c · fC) (λv12 Z9=>ro T 3 (am _ [0,0,0] (oi Z9) J J)))
   refine ro T 6 (am _ [0,0,0] (oi Z9) J J)
  rintro _ aM rfl Z5;refine cb J Z5 (λZ5=>?_) (λZ5=>?_)
  ·refine rc T 5 (k [1] J u9 Z5 (je.c · fC) (λgT Z5=>ro T 1 (aW (cU (k:=pa) T [(dR.mk v9 gT)] J J J J J J J J J (λa5 H5 s5=>?_)))));obtain⟨oJ,Z5⟩:=az Z5;refine aW (dM (k:=pa) (xs:=x6) T (g:=2) J J J J J J J J J J s4 (oO s5 3) oJ J (λa6 n6 H6 s6=>ro T 9 (ar (_,_,_,_,_) [0,0,0] ⟨Z5,s6⟩ J J)))
  refine rc T 8 (ar (_,_,_,_,_) [0,0,0] ⟨Z5,s4⟩ J J)
 refine rc T 12 ?_
 cases Z5;exact p1 T J [2,1,0] ⟨a4,n4,H4,s4,J,J⟩ J
end
end Go.Proofs.YthodkonhneebbaaGreatDoor
