/- What the functions of some packages compute, each as a function of plain Lean, with its contract. No condition. -/
import Derived.Test.YthodkonhneebbaaGreatDoorKFT
import Derived.Test.YthodkonhneebbaaGreatDoorKF6
import Derived.Test.YthodkonhneebbaaGreatDoorKF5
namespace Go.Proofs.YthodkonhneebbaaGreatDoor
open Go.Hx
set_option maxRecDepth 100000
set_option linter.unusedSimpArgs false
set_option linter.unusedVariables false
set_option maxHeartbeats 4000000
set_option autoImplicit true
set_option relaxedAutoImplicit true
noncomputable section
def D3.f (dir:Int):Option Bool:=some ((decide (dir<0))||(decide (dir>5)))
theorem D3.c (H:D3.f dir=some r):
 QU 197 [(ii dir)] [] F (bb r):=by
 unfold D3.f at H;refine aB Tryz.func197 J J (λW=>rc T 10 (go T [3,4,5] 5 [] 8 J J J J J J J (ro T 4 ?_)))
 cases H;exact p0 T J [0] J
def qM.l0:Nat->(List Int)->Int->Option Int
 |0,_,_=>none
 |k3+1,s,x2=>if x2<(List.length s:Int) then(if(0<=x2/\x2<(List.length s:Int)) then((D3.f (rd s x2)).bind λv4=>if v4=true then(some x2) else(qM.l0 k3 s (aa (x2+1)))) else none) else(some (-1))
def qM.f (s:(List Int)):Option Int:=qM.l0 fuel s 0
theorem qM.c (H:qM.f s=some r) (iK:aT (Fl.int .i64) s iu F) (qn:List.length s<=iA):
 QU 232 [(ll iu s iA),(.func (.func 197) #[] #[])] [] F (ii r):=by
 unfold qM.f at H;refine aB Tryz.func232 J J (λW=>rc T 14 (lq [0,1,7] [0] (λ(⟨k3,x2⟩:Nat×Int)=>(qM.l0 k3 s x2=some r,[(8,(ii x2))],[])) J J (fuel,0) [0] H J J ?_));rintro k3 x2 Z1;replace Z1:qM.l0 (k3+1) s x2=some r:=Z1;rw[qM.l0] at Z1;refine rc T 6 (cd J Z1 (λZ1=>?_) (λZ1=>?_))
 ·refine rc T 15 ?_;obtain⟨c3,Z1⟩:=az Z1;obtain⟨q1,o1,e1⟩:=iK.addr c3.1 c3.2;refine ix T J e1 c3 (le T 0 (rO iK 0) e1 c3 J J (k [] J acp Z1 (D3.c ·) (λv4 Z1=>ro T 2 (cb J Z1 (λZ1=>?_) (λZ1=>?_)))))
  ·refine rc T 12 ?_
   cases Z1;exact p0 T J [0] J
  refine rc T 8 (ar _ [0] Z1 J J)
 refine rc T 11 ?_
 cases Z1;exact p0 T J [0] J
def CQ.f (s:(List Int)):Option Bool:=(qM.f s).bind λv1=>some (decide (v1≥0))
theorem CQ.c (H:CQ.f s=some r) (iK:aT (Fl.int .i64) s iu F) (qn:List.length s<=iA):
 QU 198 [(ll iu s iA),(.func (.func 197) #[] #[])] [] F (bb r):=by
 unfold CQ.f at H;refine aB Tryz.func198 J J (λW=>rc T 9 (k [] J acL H (qM.c · (rO iK 0) qn) (λv1 H=>ro T 5 ?_)))
 cases H;exact p0 T J [0] J
def vk.f (ag:mi) (u:aD) (dir:Int):Option (Bool×mi×aD):=if(dir==0)=true then((l8.f ag.w ag.h u.Cell dir).bind λv1=>(if v1<0 then(some true) else(some (aP ag.jS v1))).bind λx2=>if x2=true then(some (true,ag,u)) else(if(List.length ag.kz+1<=1099511627776) then(if(v1==u.Goal)=true then(if(List.length ag.gone+1<=1099511627776) then(some (false,(mi.mk ag.w ag.h (dO ag.jS u.Cell) (ag.kz++[(fe.mk u.Id v1)]) (ag.gone++[u.Id])),(aD.mk u.Id v1 u.Goal))) else none) else(some (true,(mi.mk ag.w ag.h (cE (dO ag.jS u.Cell) v1 true) (ag.kz++[(fe.mk u.Id v1)]) ag.gone),(aD.mk u.Id v1 u.Goal)))) else none)) else(if(dir==1)=true then((l8.f ag.w ag.h u.Cell dir).bind λv4=>(if v4<0 then(some true) else(some (aP ag.jS v4))).bind λx5=>if x5=true then(some (true,ag,u)) else(if(List.length ag.kz+1<=1099511627776) then(if(v4==u.Goal)=true then(if(List.length ag.gone+1<=1099511627776) then(some (false,(mi.mk ag.w ag.h (dO ag.jS u.Cell) (ag.kz++[(fe.mk u.Id v4)]) (ag.gone++[u.Id])),(aD.mk u.Id v4 u.Goal))) else none) else(some (true,(mi.mk ag.w ag.h (cE (dO ag.jS u.Cell) v4 true) (ag.kz++[(fe.mk u.Id v4)]) ag.gone),(aD.mk u.Id v4 u.Goal)))) else none)) else(if(dir==2)=true then((l8.f ag.w ag.h u.Cell dir).bind λv7=>(if v7<0 then(some true) else(some (aP ag.jS v7))).bind λx8=>if x8=true then(some (true,ag,u)) else(if(List.length ag.kz+1<=1099511627776) then(if(v7==u.Goal)=true then(if(List.length ag.gone+1<=1099511627776) then(some (false,(mi.mk ag.w ag.h (dO ag.jS u.Cell) (ag.kz++[(fe.mk u.Id v7)]) (ag.gone++[u.Id])),(aD.mk u.Id v7 u.Goal))) else none) else(some (true,(mi.mk ag.w ag.h (cE (dO ag.jS u.Cell) v7 true) (ag.kz++[(fe.mk u.Id v7)]) ag.gone),(aD.mk u.Id v7 u.Goal)))) else none)) else(if(dir==3)=true then((l8.f ag.w ag.h u.Cell dir).bind λv10=>(if v10<0 then(some true) else(some (aP ag.jS v10))).bind λbg=>if bg=true then(some (true,ag,u)) else(if(List.length ag.kz+1<=1099511627776) then(if(v10==u.Goal)=true then(if(List.length ag.gone+1<=1099511627776) then(some (false,(mi.mk ag.w ag.h (dO ag.jS u.Cell) (ag.kz++[(fe.mk u.Id v10)]) (ag.gone++[u.Id])),(aD.mk u.Id v10 u.Goal))) else none) else(some (true,(mi.mk ag.w ag.h (cE (dO ag.jS u.Cell) v10 true) (ag.kz++[(fe.mk u.Id v10)]) ag.gone),(aD.mk u.Id v10 u.Goal)))) else none)) else(some (true,ag,u)))))
def vk.R (aW:Nat) (eF:Nat) (r:(Bool×mi×aD)) (u:Value) (G:List Hp):Prop:= ∃(a0:Nat) (H0:Hp) (a1:Option Addr) (n1:Nat) (H1:Hp) (a2:Option Addr) (n2:Nat) (H2:Hp),cP (Ky.int .i64 u3) (λx:Bool=>Value.bool x) r.2.1.jS a0 H0/\ak jw 94 r.2.1.kz a1 n1 H1/\ak (Fl.int .i64) 3 r.2.1.gone a2 n2 H2/\u=(bb r.1)/\G=[(cl aW 309 [(ii r.2.1.w),(ii r.2.1.h),(.map (some a0)),(ll a1 r.2.1.kz n1),(ll a2 r.2.1.gone n2)]),H0,H1,H2,(cl eF 67 [(ii r.2.2.Id),(ii r.2.2.Cell),(ii r.2.2.Goal)])]
theorem vk.c (H:vk.f ag u dir=some r) (sU:cP (Ky.int .i64 u3) (λx:Bool=>Value.bool x) ag.jS ri Dc) (zf:ak jw 94 ag.kz Di D7 Db) (sT:ak (Fl.int .i64) 3 ag.gone wq w9 wg):
 QR 199 [(pp aW),(pp eF),(ii dir)] [(cl aW 309 [(ii ag.w),(ii ag.h),(.map (some ri)),(ll Di ag.kz D7),(ll wq ag.gone w9)]),Dc,Db,wg,(cl eF 67 [(ii u.Id),(ii u.Cell),(ii u.Goal)])] [] F (vk.R aW eF r):=by
 unfold vk.f at H;refine aB Tryz.func199 J J (λW=>rc T 25 (cb J H (λH=>?_) (λH=>?_)))
 ·refine rc T 10 (dA mix ay (aj T J (aj T J (aj T J (aO J J J (aw T J J J J (aF (j:=0) J J)) (aj T J (aj T J (aj T J (aO J J J (aw T J J J J (aF (j:=0) J J)) (aj T J (aj T J (aj T J (aO J J J (aw T J J J J (aF (j:=4) J J)) (aj T J ?_))))))))))))));obtain⟨v1,V2,H⟩:=gj H;refine uF J J J J J J Ab J (l8.c V2) (aj T J (cH (rx T 2 (mq H [0,1,7] [5,0,0,0,0,0] (λz3 (x2:Bool)=>(x2=z3,[(40,(bb x2))],[])) J J (λz3 Z3 _=>?_) ?_))))
  ·refine rc T 4 (ad 33 J Z3 (λZ3=>?_) (λZ3=>?_))
   ·refine ro T 9 (am _ [5,0,0,0,0,0] (oi Z3) J J)
   refine ro T 3 (lf T 0 J (ro T 1 (br J (pN (k:=v1) T (Ky.int .i64 u3) (λx:Bool=>Value.bool x) J J J J J (oh sU (j:=1) J)) (ro T 3 (am _ [5,0,0,0,0,0] (oi Z3) J J)))))
  rintro _ x2 rfl H;refine cb J H (λH=>?_) (λH=>?_)
  ·refine rc T 10 ?_
   cases H;exact p1 T J [1,1,1,1,1,0] ⟨ri,Dc,Di,D7,Db,wq,w9,wg,sU,zf,sT,J,J⟩ J
  refine rc T 3 (fz J (rz [8] mix (bO bN) (λhg pf=>ha T 6 [0,1,2] sz hg pf J (av 3 sz hg pf J (aw T J J J J (aF (j:=1) J J)) (ha T 2 [4,5,6] sz hg pf J (av 7 sz hg pf J (aw T J J J J (aF (j:=5) J J)) (ao 8 (Dl (g:=2) (m:=ag.jS) (k:=u.Cell) T (Ky.int .i64 u3) (λx:Bool=>Value.bool x) J J J J J J J J sU (λH6 s6=>an sl (ae (rx T 7 (sg T 5 J (ro T 3 (ks [0,1,7] J (fz J (rg [12,15] [0,0,0,0,0,0] mix (bO bN) (λhg pf=>ha T 12 [0,1,2,3] sz hg pf J (av 4 sz hg pf J (aw T J J J J (aF (j:=1) J J)) (ha T 8 [5,6,7] sz hg pf J (av 8 sz hg pf J (aw T J J J J (aF (j:=5) J J)) (ha T 5 [9,10] sz hg pf J (ao 11 (cV (k:=jw) T [(fe.mk u.Id v1)] J J J J J J J J J (λa7 H7 s7=>an (so [0,0,0,0,0,0]) (ao 12 ?_)))))))))))))))))))))))));obtain⟨c6,H⟩:=az H;refine dR (k:=jw) (xs:=ag.kz) T (g:=3) J J J J J J J J J J zf (oO s7 6) c6 J (λa8 n8 H8 s8=>an sl (hb T 13 sl hg pf J (hb T 14 sl hg pf J (ao 15 (sf T 1 J (an sl (ae (rx T 1 (rc T 7 (lf T 5 J (ro T 3 (cb J H (λH=>?_) (λH=>?_)))))))))))))
  ·refine rc T 1 (ke [0,1] [0,0,0,0,0,0] J J (fz J (rg [10,13] [0,0,0,0,0,0] mix (bO bN) (λhg pf=>ha T 10 [0,1,2,3] sz hg pf J (av 4 sz hg pf J (aw T J J J J (aF (j:=1) J J)) (ha T 6 [5,6,7] sz hg pf J (av 8 sz hg pf J (aw T J J J J (aF (j:=5) J J)) (ao 9 (cV (k:=(Fl.int .i64)) T [u.Id] J J J J J J J J J (λa9 H9 s9=>an (so [0,0,0,0,0,0]) (ao 10 ?_)))))))))));obtain⟨c8,H⟩:=az H;refine dR (k:=(Fl.int .i64)) (xs:=ag.gone) T (g:=4) J J J J J J J J J J sT (oO s9 6) c8 J (λcy n10 bX bS=>an sl (hb T 11 sl hg pf J (hb T 12 sl hg pf J (ao 13 (sf T 1 J (an sl (ae (rx T 1 (rc T 10 ?_)))))))))
   cases H;exact p1 T J [1,1,1,1,1,0] ⟨ri,H6,a8,n8,H8,cy,n10,bX,s6,s8,bS,J,J⟩ J
  refine rc T 6 (lf T 1 J (ro T 1 (aX (pG (g:=2) (m:=(dO ag.jS u.Cell)) (k:=v1) (v:=true) T (Ky.int .i64 u3) (λx:Bool=>Value.bool x) J J J J J J J s6 (λcB cS=>ro T 11 ?_)))))
  cases H;exact p1 T J [1,1,1,1,1,0] ⟨ri,cB,a8,n8,H8,wq,w9,wg,cS,s8,sT,J,J⟩ J
 refine rc T 9 (cb J H (λH=>?_) (λH=>?_))
 ·refine rc T 10 (dA mix ay (aj T J (aj T J (aj T J (aO J J J (aw T J J J J (aF (j:=0) J J)) (aj T J (aj T J (aj T J (aO J J J (aw T J J J J (aF (j:=0) J J)) (aj T J (aj T J (aj T J (aO J J J (aw T J J J J (aF (j:=4) J J)) (aj T J ?_))))))))))))));obtain⟨v4,Xz,H⟩:=gj H;refine uF J J J J J J Ab J (l8.c Xz) (aj T J (cH (rx T 2 (mq H [0,1,7] [5,0,0,0,0,0] (λz6 (x5:Bool)=>(x5=z6,[(40,(bb x5))],[])) J J (λz6 bc _=>?_) ?_))))
  ·refine rc T 4 (ad 33 J bc (λbc=>?_) (λbc=>?_))
   ·refine ro T 9 (am _ [5,0,0,0,0,0] (oi bc) J J)
   refine ro T 3 (lf T 0 J (ro T 1 (br J (pN (k:=v4) T (Ky.int .i64 u3) (λx:Bool=>Value.bool x) J J J J J (oh sU (j:=1) J)) (ro T 3 (am _ [5,0,0,0,0,0] (oi bc) J J)))))
  rintro _ x5 rfl H;refine cb J H (λH=>?_) (λH=>?_)
  ·refine rc T 10 ?_
   cases H;exact p1 T J [1,1,1,1,1,0] ⟨ri,Dc,Di,D7,Db,wq,w9,wg,sU,zf,sT,J,J⟩ J
  refine rc T 3 (fz J (rz [8] mix (bO bN) (λhg pf=>ha T 6 [0,1,2] sz hg pf J (av 3 sz hg pf J (aw T J J J J (aF (j:=1) J J)) (ha T 2 [4,5,6] sz hg pf J (av 7 sz hg pf J (aw T J J J J (aF (j:=5) J J)) (ao 8 (Dl (g:=2) (m:=ag.jS) (k:=u.Cell) T (Ky.int .i64 u3) (λx:Bool=>Value.bool x) J J J J J J J J sU (λdt dw=>an sl (ae (rx T 7 (sg T 5 J (ro T 3 (ks [0,1,7] J (fz J (rg [12,15] [0,0,0,0,0,0] mix (bO bN) (λhg pf=>ha T 12 [0,1,2,3] sz hg pf J (av 4 sz hg pf J (aw T J J J J (aF (j:=1) J J)) (ha T 8 [5,6,7] sz hg pf J (av 8 sz hg pf J (aw T J J J J (aF (j:=5) J J)) (ha T 5 [9,10] sz hg pf J (ao 11 (cV (k:=jw) T [(fe.mk u.Id v4)] J J J J J J J J J (λdD ei cz=>an (so [0,0,0,0,0,0]) (ao 12 ?_)))))))))))))))))))))))));obtain⟨oL,H⟩:=az H;refine dR (k:=jw) (xs:=ag.kz) T (g:=3) J J J J J J J J J J zf (oO cz 6) oL J (λiG n14 fG fp=>an sl (hb T 13 sl hg pf J (hb T 14 sl hg pf J (ao 15 (sf T 1 J (an sl (ae (rx T 1 (rc T 7 (lf T 5 J (ro T 3 (cb J H (λH=>?_) (λH=>?_)))))))))))))
  ·refine rc T 1 (ke [0,1] [0,0,0,0,0,0] J J (fz J (rg [10,13] [0,0,0,0,0,0] mix (bO bN) (λhg pf=>ha T 10 [0,1,2,3] sz hg pf J (av 4 sz hg pf J (aw T J J J J (aF (j:=1) J J)) (ha T 6 [5,6,7] sz hg pf J (av 8 sz hg pf J (aw T J J J J (aF (j:=5) J J)) (ao 9 (cV (k:=(Fl.int .i64)) T [u.Id] J J J J J J J J J (λjV dJ dP=>an (so [0,0,0,0,0,0]) (ao 10 ?_)))))))))));obtain⟨pH,H⟩:=az H;refine dR (k:=(Fl.int .i64)) (xs:=ag.gone) T (g:=4) J J J J J J J J J J sT (oO dP 6) pH J (λjW n16 fX fR=>an sl (hb T 11 sl hg pf J (hb T 12 sl hg pf J (ao 13 (sf T 1 J (an sl (ae (rx T 1 (rc T 10 ?_)))))))))
   cases H;exact p1 T J [1,1,1,1,1,0] ⟨ri,dt,iG,n14,fG,jW,n16,fX,dw,fp,fR,J,J⟩ J
  refine rc T 6 (lf T 1 J (ro T 1 (aX (pG (g:=2) (m:=(dO ag.jS u.Cell)) (k:=v4) (v:=true) T (Ky.int .i64 u3) (λx:Bool=>Value.bool x) J J J J J J J dw (λek fq=>ro T 11 ?_)))))
  cases H;exact p1 T J [1,1,1,1,1,0] ⟨ri,ek,iG,n14,fG,wq,w9,wg,fq,fp,sT,J,J⟩ J
 refine rc T 9 (cb J H (λH=>?_) (λH=>?_))
 ·refine rc T 10 (dA mix ay (aj T J (aj T J (aj T J (aO J J J (aw T J J J J (aF (j:=0) J J)) (aj T J (aj T J (aj T J (aO J J J (aw T J J J J (aF (j:=0) J J)) (aj T J (aj T J (aj T J (aO J J J (aw T J J J J (aF (j:=4) J J)) (aj T J ?_))))))))))))));obtain⟨v7,PE,H⟩:=gj H;refine uF J J J J J J Ab J (l8.c PE) (aj T J (cH (rx T 2 (mq H [0,1,7] [5,0,0,0,0,0] (λz9 (x8:Bool)=>(x8=z9,[(40,(bb x8))],[])) J J (λz9 eQ _=>?_) ?_))))
  ·refine rc T 4 (ad 33 J eQ (λeQ=>?_) (λeQ=>?_))
   ·refine ro T 9 (am _ [5,0,0,0,0,0] (oi eQ) J J)
   refine ro T 3 (lf T 0 J (ro T 1 (br J (pN (k:=v7) T (Ky.int .i64 u3) (λx:Bool=>Value.bool x) J J J J J (oh sU (j:=1) J)) (ro T 3 (am _ [5,0,0,0,0,0] (oi eQ) J J)))))
  rintro _ x8 rfl H;refine cb J H (λH=>?_) (λH=>?_)
  ·refine rc T 10 ?_
   cases H;exact p1 T J [1,1,1,1,1,0] ⟨ri,Dc,Di,D7,Db,wq,w9,wg,sU,zf,sT,J,J⟩ J
  refine rc T 3 (fz J (rz [8] mix (bO bN) (λhg pf=>ha T 6 [0,1,2] sz hg pf J (av 3 sz hg pf J (aw T J J J J (aF (j:=1) J J)) (ha T 2 [4,5,6] sz hg pf J (av 7 sz hg pf J (aw T J J J J (aF (j:=5) J J)) (ao 8 (Dl (g:=2) (m:=ag.jS) (k:=u.Cell) T (Ky.int .i64 u3) (λx:Bool=>Value.bool x) J J J J J J J J sU (λfc ft=>an sl (ae (rx T 7 (sg T 5 J (ro T 3 (ks [0,1,7] J (fz J (rg [12,15] [0,0,0,0,0,0] mix (bO bN) (λhg pf=>ha T 12 [0,1,2,3] sz hg pf J (av 4 sz hg pf J (aw T J J J J (aF (j:=1) J J)) (ha T 8 [5,6,7] sz hg pf J (av 8 sz hg pf J (aw T J J J J (aF (j:=5) J J)) (ha T 5 [9,10] sz hg pf J (ao 11 (cV (k:=jw) T [(fe.mk u.Id v7)] J J J J J J J J J (λmc kJ gT=>an (so [0,0,0,0,0,0]) (ao 12 ?_)))))))))))))))))))))))));obtain⟨zN,H⟩:=az H;refine dR (k:=jw) (xs:=ag.kz) T (g:=3) J J J J J J J J J J zf (oO gT 6) zN J (λa20 n20 nU lW=>an sl (hb T 13 sl hg pf J (hb T 14 sl hg pf J (ao 15 (sf T 1 J (an sl (ae (rx T 1 (rc T 7 (lf T 5 J (ro T 3 (cb J H (λH=>?_) (λH=>?_)))))))))))))
  ·refine rc T 1 (ke [0,1] [0,0,0,0,0,0] J J (fz J (rg [10,13] [0,0,0,0,0,0] mix (bO bN) (λhg pf=>ha T 10 [0,1,2,3] sz hg pf J (av 4 sz hg pf J (aw T J J J J (aF (j:=1) J J)) (ha T 6 [5,6,7] sz hg pf J (av 8 sz hg pf J (aw T J J J J (aF (j:=5) J J)) (ao 9 (cV (k:=(Fl.int .i64)) T [u.Id] J J J J J J J J J (λa21 lj jQ=>an (so [0,0,0,0,0,0]) (ao 10 ?_)))))))))));obtain⟨LK,H⟩:=az H;refine dR (k:=(Fl.int .i64)) (xs:=ag.gone) T (g:=4) J J J J J J J J J J sT (oO jQ 6) LK J (λa22 n22 mv iO=>an sl (hb T 11 sl hg pf J (hb T 12 sl hg pf J (ao 13 (sf T 1 J (an sl (ae (rx T 1 (rc T 10 ?_)))))))))
   cases H;exact p1 T J [1,1,1,1,1,0] ⟨ri,fc,a20,n20,nU,a22,n22,mv,ft,lW,iO,J,J⟩ J
  refine rc T 6 (lf T 1 J (ro T 1 (aX (pG (g:=2) (m:=(dO ag.jS u.Cell)) (k:=v7) (v:=true) T (Ky.int .i64 u3) (λx:Bool=>Value.bool x) J J J J J J J ft (λjF gU=>ro T 11 ?_)))))
  cases H;exact p1 T J [1,1,1,1,1,0] ⟨ri,jF,a20,n20,nU,wq,w9,wg,gU,lW,sT,J,J⟩ J
 refine rc T 8 (cb J H (λH=>?_) (λH=>?_))
 ·refine rc T 9 (dA mix ay (aj T J (aj T J (aj T J (aO J J J (aw T J J J J (aF (j:=0) J J)) (aj T J (aj T J (aj T J (aO J J J (aw T J J J J (aF (j:=0) J J)) (aj T J (aj T J (aj T J (aO J J J (aw T J J J J (aF (j:=4) J J)) (aj T J ?_))))))))))))));obtain⟨v10,XB,H⟩:=gj H;refine uF J J J J J J Ab J (l8.c XB) (aj T J (cH (rx T 2 (mq H [0,1,7] [5,0,0,0,0,0] (λz12 (bg:Bool)=>(bg=z12,[(40,(bb bg))],[])) J J (λz12 EV _=>?_) ?_))))
  ·refine rc T 4 (ad 33 J EV (λEV=>?_) (λEV=>?_))
   ·refine ro T 9 (am _ [5,0,0,0,0,0] (oi EV) J J)
   refine ro T 3 (lf T 0 J (ro T 1 (br J (pN (k:=v10) T (Ky.int .i64 u3) (λx:Bool=>Value.bool x) J J J J J (oh sU (j:=1) J)) (ro T 3 (am _ [5,0,0,0,0,0] (oi EV) J J)))))
  rintro _ bg rfl H;refine cb J H (λH=>?_) (λH=>?_)
  ·refine rc T 10 ?_
   cases H;exact p1 T J [1,1,1,1,1,0] ⟨ri,Dc,Di,D7,Db,wq,w9,wg,sU,zf,sT,J,J⟩ J
  refine rc T 3 (fz J (rz [8] mix (bO bN) (λhg pf=>ha T 6 [0,1,2] sz hg pf J (av 3 sz hg pf J (aw T J J J J (aF (j:=1) J J)) (ha T 2 [4,5,6] sz hg pf J (av 7 sz hg pf J (aw T J J J J (aF (j:=5) J J)) (ao 8 (Dl (g:=2) (m:=ag.jS) (k:=u.Cell) T (Ky.int .i64 u3) (λx:Bool=>Value.bool x) J J J J J J J J sU (λqX lX=>an sl (ae (rx T 7 (sg T 5 J (ro T 3 (ks [0,1,7] J (fz J (rg [12,15] [0,0,0,0,0,0] mix (bO bN) (λhg pf=>ha T 12 [0,1,2,3] sz hg pf J (av 4 sz hg pf J (aw T J J J J (aF (j:=1) J J)) (ha T 8 [5,6,7] sz hg pf J (av 8 sz hg pf J (aw T J J J J (aF (j:=5) J J)) (ha T 5 [9,10] sz hg pf J (ao 11 (cV (k:=jw) T [(fe.mk u.Id v10)] J J J J J J J J J (λa25 gW jA=>an (so [0,0,0,0,0,0]) (ao 12 ?_)))))))))))))))))))))))));obtain⟨Zz,H⟩:=az H;refine dR (k:=jw) (xs:=ag.kz) T (g:=3) J J J J J J J J J J zf (oO jA 6) Zz J (λa26 n26 oz nI=>an sl (hb T 13 sl hg pf J (hb T 14 sl hg pf J (ao 15 (sf T 1 J (an sl (ae (rx T 1 (rc T 7 (lf T 5 J (ro T 3 (cb J H (λH=>?_) (λH=>?_)))))))))))))
  ·refine rc T 1 (ke [0,1] [0,0,0,0,0,0] J J (fz J (rg [10,13] [0,0,0,0,0,0] mix (bO bN) (λhg pf=>ha T 10 [0,1,2,3] sz hg pf J (av 4 sz hg pf J (aw T J J J J (aF (j:=1) J J)) (ha T 6 [5,6,7] sz hg pf J (av 8 sz hg pf J (aw T J J J J (aF (j:=5) J J)) (ao 9 (cV (k:=(Fl.int .i64)) T [u.Id] J J J J J J J J J (λIp EJ vF=>an (so [0,0,0,0,0,0]) (ao 10 ?_)))))))))));obtain⟨ZA,H⟩:=az H;refine dR (k:=(Fl.int .i64)) (xs:=ag.gone) T (g:=4) J J J J J J J J J J sT (oO vF 6) ZA J (λa28 n28 um j7=>an sl (hb T 11 sl hg pf J (hb T 12 sl hg pf J (ao 13 (sf T 1 J (an sl (ae (rx T 1 (rc T 10 ?_)))))))))
   cases H;exact p1 T J [1,1,1,1,1,0] ⟨ri,qX,a26,n26,oz,a28,n28,um,lX,nI,j7,J,J⟩ J
  refine rc T 6 (lf T 1 J (ro T 1 (aX (pG (g:=2) (m:=(dO ag.jS u.Cell)) (k:=v10) (v:=true) T (Ky.int .i64 u3) (λx:Bool=>Value.bool x) J J J J J J J lX (λqY qH=>ro T 11 ?_)))))
  cases H;exact p1 T J [1,1,1,1,1,0] ⟨ri,qY,a26,n26,oz,wq,w9,wg,qH,nI,sT,J,J⟩ J
 refine rc T 16 ?_
 cases H;exact p1 T J [0,0,0,0,0,0] ⟨ri,Dc,Di,D7,Db,wq,w9,wg,sU,zf,sT,J,J⟩ J
def jy.l1:Nat->Int->Int->(List aD)->(List Int)->List aD->Int->Int->(List (Int×Bool))->List fe->List Int->Int->Option ((List aD)×(List fe)×(List Int)×Int)
 |0,_,_,_,_,_,_,_,_,_,_,_=>none
 |pd+1,w,h,l,aM,c_,dQ,dy,fV,dh,bU,dz=>if dz<(List.length l:Int) then(if(0<=dz/\dz<(List.length l:Int)) then(if(0<=dz/\dz<(List.length aM:Int)) then((vk.f (mi.mk dQ dy fV dh bU) (rd l dz) (rd aM dz)).bind λv25=>if v25.1=true then(if(List.length c_+1<=1099511627776) then(jy.l1 pd w h l aM (c_++[v25.2.2]) v25.2.1.w v25.2.1.h v25.2.1.jS v25.2.1.kz v25.2.1.gone (aa (dz+1))) else none) else(jy.l1 pd w h l aM c_ v25.2.1.w v25.2.1.h v25.2.1.jS v25.2.1.kz v25.2.1.gone (aa (dz+1)))) else none) else none) else(some (c_,dh,bU,0))
def jy.l0:Nat->Int->Int->(List aD)->(List Int)->(List (Int×Bool))->Int->Option ((List aD)×(List fe)×(List Int)×Int)
 |0,_,_,_,_,_,_=>none
 |k9+1,w,h,l,aM,x7,x8=>if x8<(List.length l:Int) then(if(0<=x8/\x8<(List.length l:Int)) then(jy.l0 k9 w h l aM (cE x7 ((rd l x8).Cell) true) (aa (x8+1))) else none) else(jy.l1 fuel w h l aM [] w h x7 [] [] 0)
def jy.f (w:Int) (h:Int) (l:(List aD)) (aM:(List Int)):Option ((List aD)×(List fe)×(List Int)×Int):=((po.f w h l).bind λv3=>if((!v3)||((List.length aM:Int)!=(List.length l:Int)))=true then(some true) else((CQ.f aM).bind λv4=>some v4)).bind λx1=>if x1=true then(some ([],[],[],1)) else(jy.l0 fuel w h l aM ([]:(List (Int×Bool))) 0)
def jy.R (r:((List aD)×(List fe)×(List Int)×Int)) (u:Value) (G:List Hp):Prop:= ∃(a0:Option Addr) (n0:Nat) (H0:Hp) (a1:Option Addr) (n1:Nat) (H1:Hp) (a2:Option Addr) (n2:Nat) (H2:Hp),ak gP 67 r.1 a0 n0 H0/\ak jw 94 r.2.1 a1 n1 H1/\ak (Fl.int .i64) 3 r.2.2.1 a2 n2 H2/\u=(.tuple #[(ll a0 r.1 n0),(ll a1 r.2.1 n1),(ll a2 r.2.2.1 n2),(ii r.2.2.2)])/\G=[H0,H1,H2]
theorem jy.c (H:jy.f w h l aM=some r) (df:aT gP l ir F) (gn:List.length l<=hZ) (FI:aT (Fl.int .i64) aM Lf F) (LO:List.length aM<=N7):
 QR 166 [(ii w),(ii h),(ll ir l hZ),(ll Lf aM N7)] [] [] F (jy.R r):=by
 unfold jy.f at H;refine aB Tryz.func166 J J (λW=>rc T 14 (mq H [0,1,2,3,8] [0] (λz2 (x1:Bool)=>(x1=z2,[(34,(bb x1))],[])) J J (λz2 Z1 _=>?_) ?_))
 ·refine rc T 4 (k [] J S0 Z1 (po.c · (rO df 0) gn) (λv3 Z1=>ro T 2 (go T [6,7,8,9,10,11] 23 [0,1,2,3,8,12] 29 J J J J J J J (ro T 1 (ab 30 J Z1 (λZ1=>?_) (λZ1=>?_))))))
  ·refine ro T 6 (am _ [0] (oi Z1) J J)
  refine ro T 2 (k [] J acq Z1 (CQ.c · (rO FI 0) LO) (λv4 Z1=>ro T 3 (am _ [0] (oi Z1) J J)))
 rintro _ x1 rfl H;refine cb J H (λH=>?_) (λH=>?_)
 ·refine rc T 10 ?_
  cases H;refine bq (bq (bq (p1 T J [1,1,1,0] ⟨none,0,[],none,0,[],none,0,[],ak.nil,ak.nil,ak.nil,J,J⟩ J)))
 refine rc T 8 (aX (uD T (Ky.int .i64 u3) (λx:Bool=>Value.bool x) J J J ⟨_,_,J⟩ (λa4 H4 s4=>ro T 1 (nc T J (λb5=>ro T 12 (lq [2,3,8,13,42,43] [0] (λ(⟨k9,x7,x8,a7,H7⟩:Nat×(List (Int×Bool))×Int×Nat×Hp)=>(jy.l0 k9 w h l aM x7 x8=some r/\cP (Ky.int .i64 u3) (λx:Bool=>Value.bool x) x7 a7 H7,[(44,(ii x8))],[(cl b5 309 [(ii w),(ii h),(.map (some a7)),nl,nl]),H7])) J J (fuel,([]:(List (Int×Bool))),0,a4,H4) [0,1,0] ⟨H,s4⟩ J J ?_))))));rintro k9 ⟨x7,x8,a7,H7⟩ ⟨Z6,s7⟩;rw[jy.l0] at Z6;refine rc T 6 (cd J Z6 (λZ6=>?_) (λZ6=>?_))
 ·refine rc T 6 ?_;obtain⟨c8,Z6⟩:=az Z6;obtain⟨q8,o8,e8⟩:=df.addr c8.1 c8.2;refine ix T J e8 c8 (br J (fO T (cs:=[(ii (rd l x8).Id),(ii (rd l x8).Cell),(ii (rd l x8).Goal)]) J J J J J J (hJ (k:=gP) (rO df 0) e8 c8 J)) (nc T J (λb9=>sg T 3 J (ro T 2 (ks [2,3,8,13,15,42,43,44] J (fz J (rz [6] mix (bO bN) (λhg pf=>ha T 4 [0,1,2] sz hg pf J (av 3 sz hg pf J (aw T J J J J (aF (j:=1) J J)) (ha T 2 [4] sz hg pf J (av 5 sz hg pf J (aw T J J J J (aF (j:=3) J J)) (ao 6 (pG (g:=2) (m:=x7) (k:=(rd l x8).Cell) (v:=true) T (Ky.int .i64 u3) (λx:Bool=>Value.bool x) J J J J J J J s7 (λbX bS=>an sl (ae (rx T 7 (ar (_,_,_,_) [0,0,0] ⟨Z6,bS⟩ J J)))))))))))))))))
 refine rc T 14 (bq (bq (bq (lq [3,13,55,56] [0] (λ(⟨pd,c_,dQ,dy,fV,dh,bU,dz,jV,n15,dJ,jW,fX,a17,n17,ek,jc,n18,fc⟩:Nat×List aD×Int×Int×(List (Int×Bool))×List fe×List Int×Int×Option Addr×Nat×Hp×Nat×Hp×Option Addr×Nat×Hp×Option Addr×Nat×Hp)=>(jy.l1 pd w h l aM c_ dQ dy fV dh bU dz=some r/\ak gP 67 c_ jV n15 dJ/\cP (Ky.int .i64 u3) (λx:Bool=>Value.bool x) fV jW fX/\ak jw 94 dh a17 n17 ek/\ak (Fl.int .i64) 3 bU jc n18 fc,[(8,(ll jV c_ n15)),(57,(ii dz))],[dJ,(cl b5 309 [(ii dQ),(ii dy),(.map (some jW)),(ll a17 dh n17),(ll jc bU n18)]),fX,ek,fc])) J J (fuel,[],w,h,x7,[],[],0,none,0,[],a7,H7,none,0,[],none,0,[]) [0,2,0,0,0,0] ⟨Z6,ak.nil,s7,ak.nil,ak.nil⟩ J J ?_))));rintro pd ⟨c_,dQ,dy,fV,dh,bU,dz,jV,n15,dJ,jW,fX,a17,n17,ek,jc,n18,fc⟩ ⟨Z9,dP,fR,fq,ft⟩;rw[jy.l1] at Z9;refine rc T 6 (cd J Z9 (λZ9=>?_) (λZ9=>?_))
 ·refine rc T 7 ?_;obtain⟨eh,Z9⟩:=az Z9;obtain⟨Vv,UR,zX⟩:=df.addr eh.1 eh.2;refine ix T J zX eh (br J (fO T (cs:=[(ii (rd l dz).Id),(ii (rd l dz).Cell),(ii (rd l dz).Goal)]) J J J J J J (hJ (k:=gP) (rO df 0) zX eh J)) (nc T J (λIF=>ro T 1 (sg T 6 J (ro T 7 ?_)))));obtain⟨gY,Z9⟩:=az Z9;obtain⟨Ed,o21,Fw⟩:=FI.addr gY.1 gY.2;refine ix T J Fw gY (le T 0 (rO FI 0) Fw gY J J (kr (vk.R b5 IF) [] [2,2,2,2,2] J acr Z9 (vk.c (ag:=(mi.mk dQ dy fV dh bU)) · fR fq ft) (λv25 Z9=>?_)));rintro _ _ ⟨a22,mv,a23,n23,jF,a24,n24,qX,iO,gU,lX,rfl,rfl⟩;refine fz J (ro T 2 (cb J Z9 (λZ9=>?_) (λZ9=>?_)))
  ·refine rc T 2 (lm T 6 J (aX (cV (k:=gP) T [v25.2.2] J J J J J J J J J (λa25 gW jA=>?_))));obtain⟨yh,Z9⟩:=az Z9;refine aX (dR (k:=gP) (xs:=c_) T (g:=1) J J J J J J J J J J dP (oO jA 7) yh J (λa26 n26 oz nI=>ro T 2 (ke [3,8,13,55,56,57] [0,0,0,0,0,0] J J (rx T 7 (ar (_,_,_,_,_,_,_,_,_,_,_,_,_,_,_,_,_,_) [0,0,0,0,0,0] ⟨Z9,nI,iO,gU,lX⟩ J J)))))
  refine rc T 8 (ar (_,_,_,_,_,_,_,_,_,_,_,_,_,_,_,_,_,_) [0,0,0,0,0,0] ⟨Z9,dP,iO,gU,lX⟩ J J)
 refine rc T 6 (dA mix ay ?_)
 iterate 4 refine aj T J ?_
 refine aO J J J (aw T J J J J (aF (j:=2) J J)) (aj T J (aj T J (aj T J (aO J J J (aw T J J J J (aF (j:=2) J J)) ?_))))
 iterate 4 refine aj T J ?_
 refine cH (rx T 2 ?_)
 cases Z9;exact p1 T J [1,3,3,0] ⟨jV,n15,dJ,a17,n17,ek,jc,n18,fc,dP,fq,ft,J,J⟩ J
end
noncomputable section
def xF.f (most:Int):Option (Option eW):=if((decide (most<1))||(decide (most>65536)))=true then(some none) else(some (some (eW.mk most 0 ([]:(List (Int×aD))) [])))
def xF.R (r:(Option eW)) (u:Value) (G:List Hp):Prop:= ∃(u0:Value) (G0:List Hp),Xs r u0 G0/\u=u0/\G=G0
theorem xF.c (H:xF.f most=some r):
 QR 152 [(ii most)] [] [] F (xF.R r):=by
 unfold xF.f at H;refine aB Tryz.func152 J J (λW=>rc T 11 (go T [3,4,5] 5 [0] 8 J J J J J J J (ro T 2 (cb J H (λH=>?_) (λH=>?_)))))
 ·refine rc T 7 ?_
  cases H;exact p1 T J [0] ⟨_,_,⟨J,J⟩,J,J⟩ J
 refine rc T 5 (aX (uD T (Ky.int .i64 u3) (λx:aD=>Value.agg #[.int .i64 x.Id,.int .i64 x.Cell,.int .i64 x.Goal]) J J J trivial (λa1 H1 s1=>ro T 1 (nc T J (λb2=>ro T 4 ?_)))))
 cases H;refine bq (p1 T J [2,1,1,0] ⟨_,_,⟨b2,a1,H1,none,0,[],s1,ak.nil,J,J⟩,J,J⟩ J)
def vV.f (u:eW):Option Int:=some (List.length u.live:Int)
theorem vV.c (H:vV.f u=some r) (jB:cP (Ky.int .i64 u3) (λx:aD=>Value.agg #[.int .i64 x.Id,.int .i64 x.Cell,.int .i64 x.Goal]) u.live iU ki) (j_:ak (Fl.int .i64) 3 u.order jr jz jq):
 QU 158 [(pp eF)] [(cl eF 178 [(ii u.most),(ii u.next),(.map (some iU)),(ll jr u.order jz)]),ki,jq] F (ii r):=by
 unfold vV.f at H;refine aB Tryz.func158 J J (λW=>rc T 12 (eD J (rc T 7 (lf T 0 J (br J (Mo T (Ky.int .i64 u3) (λx:aD=>Value.agg #[.int .i64 x.Id,.int .i64 x.Cell,.int .i64 x.Goal]) J J J (oh jB (j:=1) J)) (ro T 4 ?_))))))
 cases H;exact p0 T J [0,0,0,0] J
def vU.f (u:eW) (cell:Int) (goal:Int):Option (Int×Bool×eW):=if(List.length u.live:Int)≥u.most then(some (0,false,u)) else(if(List.length u.order+1<=1099511627776) then(some (u.next,true,(eW.mk u.most (aa (u.next+1)) (cE u.live u.next (aD.mk u.next cell goal)) (u.order++[u.next])))) else none)
def vU.R (eF:Nat) (r:(Int×Bool×eW)) (u:Value) (G:List Hp):Prop:= ∃(a0:Nat) (H0:Hp) (a1:Option Addr) (n1:Nat) (H1:Hp),cP (Ky.int .i64 u3) (λx:aD=>Value.agg #[.int .i64 x.Id,.int .i64 x.Cell,.int .i64 x.Goal]) r.2.2.live a0 H0/\ak (Fl.int .i64) 3 r.2.2.order a1 n1 H1/\u=(.tuple #[(ii r.1),(bb r.2.1)])/\G=[(cl eF 178 [(ii r.2.2.most),(ii r.2.2.next),(.map (some a0)),(ll a1 r.2.2.order n1)]),H0,H1]
theorem vU.c (H:vU.f u cell goal=some r) (jB:cP (Ky.int .i64 u3) (λx:aD=>Value.agg #[.int .i64 x.Id,.int .i64 x.Cell,.int .i64 x.Goal]) u.live iU ki) (j_:ak (Fl.int .i64) 3 u.order jr jz jq):
 QR 156 [(pp eF),(ii cell),(ii goal)] [(cl eF 178 [(ii u.most),(ii u.next),(.map (some iU)),(ll jr u.order jz)]),ki,jq] [] F (vU.R eF r):=by
 unfold vU.f at H;refine aB Tryz.func156 J J (λW=>rc T 8 (dA mix ay ?_))
 iterate 6 refine aj T J ?_
 refine aO J J J (aw T J J J J (aF (j:=0) J J)) (aO J J J (Mo T (Ky.int .i64 u3) (λx:aD=>Value.agg #[.int .i64 x.Id,.int .i64 x.Cell,.int .i64 x.Goal]) J J J (oh jB (j:=1) J)) (aj T J (aj T J (aj T J (aO J J J (aw T J J J J (aF (j:=0) J J)) (aj T J (aj T J (cH (rx T 1 (cd J H (λH=>?_) (λH=>?_)))))))))))
 ·refine rc T 8 ?_
  cases H;exact p1 T J [0,0,0,0] ⟨iU,ki,jr,jz,jq,jB,j_,J,J⟩ J
 refine rc T 7 (lf T 0 J (ro T 8 (lf T 0 J (ro T 3 (sg T 0 J (ro T 7 (lf T 0 J (ro T 5 (aX (pG (g:=1) (m:=u.live) (k:=u.next) (v:=(aD.mk u.next cell goal)) T (Ky.int .i64 u3) (λx:aD=>Value.agg #[.int .i64 x.Id,.int .i64 x.Cell,.int .i64 x.Goal]) J J J J J J J jB (λH4 s4=>ro T 8 (lf T 0 J (ro T 1 (aX (cV (k:=(Fl.int .i64)) T [u.next] J J J J J J J J J (λa5 H5 s5=>?_))))))))))))))))
 obtain⟨c2,H⟩:=az H;refine aX (dR (k:=(Fl.int .i64)) (xs:=u.order) T (g:=2) J J J J J J J J J J j_ (oO s5 4) c2 J (λa6 n6 H6 s6=>ro T 2 (sg T 0 J (ro T 1 (ke [8] [0,0,0,0] J J (rx T 9 ?_))))))
 cases H;exact p1 T J [0,0,0,0] ⟨iU,H4,a6,n6,H6,s4,s6,J,J⟩ J
def ox.f (u:eW) (ai:Int):Option (aD×Bool):=some ((aD.mk ((aP u.live ai).Id) ((aP u.live ai).Cell) ((aP u.live ai).Goal)),(bM u.live ai))
theorem ox.c (H:ox.f u ai=some r) (jB:cP (Ky.int .i64 u3) (λx:aD=>Value.agg #[.int .i64 x.Id,.int .i64 x.Cell,.int .i64 x.Goal]) u.live iU ki) (j_:ak (Fl.int .i64) 3 u.order jr jz jq):
 QU 122 [(pp eF),(ii ai)] [(cl eF 178 [(ii u.most),(ii u.next),(.map (some iU)),(ll jr u.order jz)]),ki,jq] F (.tuple #[(.agg #[(ii r.1.Id),(ii r.1.Cell),(ii r.1.Goal)]),(bb r.2)]):=by
 unfold ox.f at H;refine aB Tryz.func122 J J (λW=>rc T 2 (nc T J (λb4=>ro T 10 (eD J (rc T 7 (lf T 0 J (ro T 1 (br J (pN (k:=ai) T (Ky.int .i64 u3) (λx:aD=>Value.agg #[.int .i64 x.Id,.int .i64 x.Cell,.int .i64 x.Goal]) J J J J J (oh jB (j:=1) J)) (ro T 3 (nc T J (λb5=>sg T 5 J (ro T 5 (lm T 5 J (ro T 1 (sg T 4 J (ro T 2 (ke [4,5] [0,0,0,0,0] J J (rx T 1 (rc T 1 ?_)))))))))))))))))))
 cases H;exact pb T J (.cO (j:=4) [(ii (aP u.live ai).Id),(ii (aP u.live ai).Cell),(ii (aP u.live ai).Goal)] J J J J J J J (.tmp J .nil)) [0,0,0,0] () J J
def lH.l0:Nat->eW->List Int->Int->Option (List Int)
 |0,_,_,_=>none
 |k5+1,u,x3,x4=>if x4<(List.length u.order:Int) then(if(0<=x4/\x4<(List.length u.order:Int)) then(if(bM u.live (rd u.order x4))=true then(if(List.length x3+1<=1099511627776) then(lH.l0 k5 u (x3++[(rd u.order x4)]) (aa (x4+1))) else none) else(lH.l0 k5 u x3 (aa (x4+1)))) else none) else(some x3)
def lH.f (u:eW):Option (List Int):=lH.l0 fuel u [] 0
def lH.R (r:(List Int)) (u:Value) (G:List Hp):Prop:= ∃(a0:Option Addr) (n0:Nat) (H0:Hp),ak (Fl.int .i64) 3 r a0 n0 H0/\u=(ll a0 r n0)/\G=[H0]
theorem lH.c (H:lH.f u=some r) (jB:cP (Ky.int .i64 u3) (λx:aD=>Value.agg #[.int .i64 x.Id,.int .i64 x.Cell,.int .i64 x.Goal]) u.live iU ki) (j_:ak (Fl.int .i64) 3 u.order jr jz jq):
 QR 109 [(pp eF)] [(cl eF 178 [(ii u.most),(ii u.next),(.map (some iU)),(ll jr u.order jz)]),ki,jq] [(cl eF 178 [(ii u.most),(ii u.next),(.map (some iU)),(ll jr u.order jz)]),ki,jq] F (lH.R r):=by
 unfold lH.f at H;refine aB Tryz.func109 J J (λW=>rc T 16 (lf T 0 J (ro T 5 (bq (lq [0,11,12] [3,0,0,0] (λ(⟨k5,x3,x4,a5,n5,H5⟩:Nat×List Int×Int×Option Addr×Nat×Hp)=>(lH.l0 k5 u x3 x4=some r/\ak (Fl.int .i64) 3 x3 a5 n5 H5,[(3,(ll a5 x3 n5)),(13,(ii x4))],[H5])) J J (fuel,[],0,none,0,[]) [3,0,0,0,0] ⟨H,ak.nil⟩ J J ?_)))));rintro k5 ⟨x3,x4,a5,n5,H5⟩ ⟨Z1,s5⟩;rw[lH.l0] at Z1;refine rc T 6 (cd J Z1 (λZ1=>?_) (λZ1=>?_))
 ·refine rc T 6 ?_;obtain⟨c3,Z1⟩:=az Z1;obtain⟨q6,o6,e6⟩:=j_.r.addr c3.1 c3.2;refine ix T J e6 c3 (le T 0 (oO j_ 3) e6 c3 J J (ro T 8 (lf T 1 J (ro T 1 (br J (pN (k:=(rd u.order x4)) T (Ky.int .i64 u3) (λx:aD=>Value.agg #[.int .i64 x.Id,.int .i64 x.Cell,.int .i64 x.Goal]) J J J J J (oh jB (j:=2) J)) (ro T 3 (nc T J (λb7=>sg T 5 J (ro T 8 (cb J Z1 (λZ1=>?_) (λZ1=>?_)))))))))))
  ·refine rc T 3 (aX (cV (k:=(Fl.int .i64)) T [(rd u.order x4)] J J J J J J J J J (λa8 H8 s8=>?_)));obtain⟨c5,Z1⟩:=az Z1;refine aX (dR (k:=(Fl.int .i64)) (xs:=x3) T (g:=4) J J J J J J J J J J s5 (oO s8 6) c5 J (λa9 n9 H9 s9=>ro T 9 (ar (_,_,_,_,_) [0,0,0,0,0] ⟨Z1,s9⟩ J J)))
  refine rc T 8 (ar (_,_,_,_,_) [0,0,0,0,0] ⟨Z1,s5⟩ J J)
 refine rc T 12 ?_
 cases Z1;exact p1 T J [4,1,1,1,0] ⟨a5,n5,H5,s5,J,J⟩ J
def xH.f (u:eW) (ai:Int):Option (Bool×eW):=(ox.f u ai).bind λv1=>if(!v1.2)=true then(some (false,u)) else(if(List.length u.order:Int)>(aa (2*(List.length (dO u.live ai):Int))) then((lH.f (eW.mk u.most u.next (dO u.live ai) u.order)).bind λv2=>some (true,(eW.mk u.most u.next (dO u.live ai) v2))) else(some (true,(eW.mk u.most u.next (dO u.live ai) u.order))))
def xH.R (eF:Nat) (r:(Bool×eW)) (u:Value) (G:List Hp):Prop:= ∃(a0:Nat) (H0:Hp) (a1:Option Addr) (n1:Nat) (H1:Hp),cP (Ky.int .i64 u3) (λx:aD=>Value.agg #[.int .i64 x.Id,.int .i64 x.Cell,.int .i64 x.Goal]) r.2.live a0 H0/\ak (Fl.int .i64) 3 r.2.order a1 n1 H1/\u=(bb r.1)/\G=[(cl eF 178 [(ii r.2.most),(ii r.2.next),(.map (some a0)),(ll a1 r.2.order n1)]),H0,H1]
theorem xH.c (H:xH.f u ai=some r) (jB:cP (Ky.int .i64 u3) (λx:aD=>Value.agg #[.int .i64 x.Id,.int .i64 x.Cell,.int .i64 x.Goal]) u.live iU ki) (j_:ak (Fl.int .i64) 3 u.order jr jz jq):
 QR 159 [(pp eF),(ii ai)] [(cl eF 178 [(ii u.most),(ii u.next),(.map (some iU)),(ll jr u.order jz)]),ki,jq] [] F (xH.R eF r):=by
 unfold xH.f at H;refine aB Tryz.func159 J J (λW=>rc T 9 (k [0,0,0] J BN H (ox.c · jB j_) (λv1 H=>ro T 3 (nc T J (λb4=>sg T 4 J (ro T 10 (cb J H (λH=>?_) (λH=>?_))))))))
 ·refine rc T 7 ?_
  cases H;exact p1 T J [0,0,0,0] ⟨iU,ki,jr,jz,jq,jB,j_,J,J⟩ J
 refine rc T 7 (lf T 0 J (ro T 1 (aX (Dl (g:=1) (m:=u.live) (k:=ai) T (Ky.int .i64 u3) (λx:aD=>Value.agg #[.int .i64 x.Id,.int .i64 x.Cell,.int .i64 x.Goal]) J J J J J J J J jB (λH5 s5=>ro T 4 (dA mix ay (aj T J (aj T J (aj T J (aO J J J (aw T J J J J (aF (j:=0) J J)) ?_))))))))))
 iterate 4 refine aj T J ?_
 refine aO J J J (aw T J J J J (aF (j:=0) J J)) (aO J J J (Mo T (Ky.int .i64 u3) (λx:aD=>Value.agg #[.int .i64 x.Id,.int .i64 x.Cell,.int .i64 x.Goal]) J J J (oh s5 (j:=1) J)) (aj T J (aj T J (cH (rx T 1 (cd J H (λH=>?_) (λH=>?_)))))))
 ·refine rc T 3 (kr lH.R [0,0,0] [0,0,0] J Sd H (lH.c (u:=(eW.mk u.most u.next (dO u.live ai) u.order)) · s5 j_) (λv2 H=>?_))
  rintro _ _ ⟨a6,n6,H6,s6,rfl,rfl⟩;refine fz J (ro T 2 (sg T 3 J (ro T 1 (ke [] [0,1,1,1] J J (rx T 7 ?_)))))
  cases H;exact p1 T J [2,2,1,0] ⟨iU,H5,a6,n6,H6,s5,s6,J,J⟩ J
 refine rc T 8 ?_
 cases H;exact p1 T J [0,0,0,0] ⟨iU,H5,jr,jz,jq,s5,j_,J,J⟩ J
def A9.f (x:aD) (ai:Int):Option aD:=some (aD.mk x.Id x.Cell ai)
def A9.R (yd:Nat) (r:aD) (u:Value) (G:List Hp):Prop:=u=(.tuple #[])/\G=[(cl yd 67 [(ii r.Id),(ii r.Cell),(ii r.Goal)])]
theorem A9.c (H:A9.f x ai=some r):
 QR 162 [(pp yd),(pp tv)] [(cl yd 67 [(ii x.Id),(ii x.Cell),(ii x.Goal)]),(cl tv 3 [(ii ai)])] [(cl tv 3 [(ii ai)])] F (A9.R yd r):=by
 unfold A9.f at H;refine aB Tryz.func162 J J (λW=>rc T 2 (lf T 1 J (ro T 2 (sg T 0 J (ro T 1 (jd ?_))))))
 cases H;exact p1 T J [0,0,0] ⟨J,J⟩ J
def xJ.f (u:eW) (ai:Int) (yU:Int):Option (Bool×eW):=(ox.f u ai).bind λv1=>if v1.2=true then((A9.f v1.1 yU).bind λv2=>some (v1.2,(eW.mk u.most u.next (cE u.live ai v2) u.order))) else(some (v1.2,u))
def xJ.R (eF:Nat) (r:(Bool×eW)) (u:Value) (G:List Hp):Prop:= ∃(a0:Nat) (H0:Hp) (a1:Option Addr) (n1:Nat) (H1:Hp),cP (Ky.int .i64 u3) (λx:aD=>Value.agg #[.int .i64 x.Id,.int .i64 x.Cell,.int .i64 x.Goal]) r.2.live a0 H0/\ak (Fl.int .i64) 3 r.2.order a1 n1 H1/\u=(bb r.1)/\G=[(cl eF 178 [(ii r.2.most),(ii r.2.next),(.map (some a0)),(ll a1 r.2.order n1)]),H0,H1]
theorem xJ.c (H:xJ.f u ai yU=some r) (jB:cP (Ky.int .i64 u3) (λx:aD=>Value.agg #[.int .i64 x.Id,.int .i64 x.Cell,.int .i64 x.Goal]) u.live iU ki) (j_:ak (Fl.int .i64) 3 u.order jr jz jq):
 QR 161 [(pp eF),(ii ai),(.func (.func 162) #[] #[(pp Fj)])] [(cl eF 178 [(ii u.most),(ii u.next),(.map (some iU)),(ll jr u.order jz)]),ki,jq,(cl Fj 3 [(ii yU)])] [(cl Fj 3 [(ii yU)])] F (xJ.R eF r):=by
 unfold xJ.f at H;refine aB Tryz.func161 J J (λW=>rc T 9 (k [0,0,0] J BN H (ox.c · jB j_) (λv1 H=>ro T 3 (nc T J (λb5=>sg T 5 J (ro T 9 (cb J H (λH=>?_) (λH=>?_))))))))
 ·refine rc T 3 (kr (A9.R b5) [3] [5,3] J ab6 H (A9.c ·) (λv2 H=>?_));rintro _ _ ⟨rfl,rfl⟩;refine fz J (ro T 2 (ks [0,1,7,8] J (fz J (rz [6] mix (bO bN) (λhg pf=>ha T 4 [0,1,2] sz hg pf J (av 3 sz hg pf J (aw T J J J J (aF (j:=0) J J)) (ha T 2 [4] sz hg pf J (av 5 sz hg pf J (gA T 4 J J J J J J J) (ao 6 (pG (g:=1) (m:=u.live) (k:=ai) (v:=v2) T (Ky.int .i64 u3) (λx:aD=>Value.agg #[.int .i64 x.Id,.int .i64 x.Cell,.int .i64 x.Goal]) J J J J J J J jB (λH6 s6=>an sl (ae (rx T 8 ?_)))))))))))))
  cases H;exact p1 T J [0,0,0,2,0] ⟨iU,H6,jr,jz,jq,s6,j_,J,J⟩ J
 refine rc T 9 ?_
 cases H;exact p1 T J [0,0,0,0,0] ⟨iU,ki,jr,jz,jq,jB,j_,J,J⟩ J
def xG.f (u:eW) (ai:Int) (goal:Int):Option (Bool×eW):=(xJ.f u ai goal).bind λv1=>some (v1.1,v1.2)
def xG.R (eF:Nat) (r:(Bool×eW)) (u:Value) (G:List Hp):Prop:= ∃(a0:Nat) (H0:Hp) (a1:Option Addr) (n1:Nat) (H1:Hp),cP (Ky.int .i64 u3) (λx:aD=>Value.agg #[.int .i64 x.Id,.int .i64 x.Cell,.int .i64 x.Goal]) r.2.live a0 H0/\ak (Fl.int .i64) 3 r.2.order a1 n1 H1/\u=(bb r.1)/\G=[(cl eF 178 [(ii r.2.most),(ii r.2.next),(.map (some a0)),(ll a1 r.2.order n1)]),H0,H1]
theorem xG.c (H:xG.f u ai goal=some r) (jB:cP (Ky.int .i64 u3) (λx:aD=>Value.agg #[.int .i64 x.Id,.int .i64 x.Cell,.int .i64 x.Goal]) u.live iU ki) (j_:ak (Fl.int .i64) 3 u.order jr jz jq):
 QR 126 [(pp eF),(ii ai),(ii goal)] [(cl eF 178 [(ii u.most),(ii u.next),(.map (some iU)),(ll jr u.order jz)]),ki,jq] [] F (xG.R eF r):=by
 unfold xG.f at H;refine aB Tryz.func126 J J (λW=>rc T 2 (nc T J (λb4=>ro T 8 (kr (xJ.R eF) [4] [0,0,0,1] J Sr H (xJ.c · jB j_) (λv1 H=>?_)))));rintro _ _ ⟨a5,H5,a6,n6,H6,s5,s6,rfl,rfl⟩;refine fz J (ro T 4 ?_)
 cases H;exact p1 T J [1,1,1,0] ⟨a5,H5,a6,n6,H6,s5,s6,J,J⟩ J
def ov.l0:Nat->eW->(List Int)->List aD->Int->Option (List aD)
 |0,_,_,_,_=>none
 |k6+1,u,v1,x4,x5=>if x5<(List.length v1:Int) then(if(0<=x5/\x5<(List.length v1:Int)) then(if(List.length x4+1<=1099511627776) then(ov.l0 k6 u v1 (x4++[(aD.mk ((aP u.live (rd v1 x5)).Id) ((aP u.live (rd v1 x5)).Cell) ((aP u.live (rd v1 x5)).Goal))]) (aa (x5+1))) else none) else none) else(some x4)
def ov.f (u:eW):Option (List aD):=(lH.f u).bind λv1=>ov.l0 fuel u v1 [] 0
def ov.R (r:(List aD)) (u:Value) (G:List Hp):Prop:= ∃(a0:Option Addr) (n0:Nat) (H0:Hp),ak gP 67 r a0 n0 H0/\u=(ll a0 r n0)/\G=[H0]
theorem ov.c (H:ov.f u=some r) (jB:cP (Ky.int .i64 u3) (λx:aD=>Value.agg #[.int .i64 x.Id,.int .i64 x.Cell,.int .i64 x.Goal]) u.live iU ki) (j_:ak (Fl.int .i64) 3 u.order jr jz jq):
 QR 81 [(pp eF)] [(cl eF 178 [(ii u.most),(ii u.next),(.map (some iU)),(ll jr u.order jz)]),ki,jq] [(cl eF 178 [(ii u.most),(ii u.next),(.map (some iU)),(ll jr u.order jz)]),ki,jq] F (ov.R r):=by
 unfold ov.f at H;refine aB Tryz.func81 J J (λW=>rc T 12 (eD J (rc T 11 (kr lH.R [0,0,0] [0,0,0] J Sd H (lH.c · jB j_) (λv1 H=>?_)))));rintro _ _ ⟨a4,n4,H4,s4,rfl,rfl⟩;refine fz J (ro T 5 (bq (lq [0,9,10] [0,1,1,1,0] (λ(⟨k6,x4,x5,a6,n6,H6⟩:Nat×List aD×Int×Option Addr×Nat×Hp)=>(ov.l0 k6 u v1 x4 x5=some r/\ak gP 67 x4 a6 n6 H6,[(3,(ll a6 x4 n6)),(11,(ii x5))],[H6])) J J (fuel,[],0,none,0,[]) [0,1,1,1,0,0] ⟨H,ak.nil⟩ J J ?_)));rintro k6 ⟨x4,x5,a6,n6,H6⟩ ⟨Z2,s6⟩;rw[ov.l0] at Z2;refine rc T 6 (cd J Z2 (λZ2=>?_) (λZ2=>?_))
 ·refine rc T 6 ?_;obtain⟨c4,Z2⟩:=az Z2;obtain⟨q7,o7,e7⟩:=s4.r.addr c4.1 c4.2;refine ix T J e7 c4 (le T 0 (oO s4 4) e7 c4 J J (ro T 8 (lf T 1 J (ro T 1 (br J (pN (k:=(rd v1 x5)) T (Ky.int .i64 u3) (λx:aD=>Value.agg #[.int .i64 x.Id,.int .i64 x.Cell,.int .i64 x.Goal]) J J J J J (oh jB (j:=2) J)) (aX (cV (k:=gP) T [(aD.mk ((aP u.live (rd v1 x5)).Id) ((aP u.live (rd v1 x5)).Cell) ((aP u.live (rd v1 x5)).Goal))] J J J J J J J J J (λa8 H8 s8=>?_))))))));obtain⟨c5,Z2⟩:=az Z2;refine aX (dR (k:=gP) (xs:=x4) T (g:=5) J J J J J J J J J J s6 (oO s8 6) c5 J (λa9 n9 H9 s9=>ro T 9 (ar (_,_,_,_,_) [0,0,0,0,0,0] ⟨Z2,s9⟩ J J)))
 refine rc T 12 ?_
 cases Z2;exact p1 T J [5,1,1,1,0] ⟨a6,n6,H6,s6,J,J⟩ J
def A_.f (x:aD) (ai:Int):Option aD:=some (aD.mk x.Id ai x.Goal)
def A_.R (yd:Nat) (r:aD) (u:Value) (G:List Hp):Prop:=u=(.tuple #[])/\G=[(cl yd 67 [(ii r.Id),(ii r.Cell),(ii r.Goal)])]
theorem A_.c (H:A_.f x ai=some r):
 QR 200 [(pp yd),(pp tv)] [(cl yd 67 [(ii x.Id),(ii x.Cell),(ii x.Goal)]),(cl tv 3 [(ii ai)])] [(cl tv 3 [(ii ai)])] F (A_.R yd r):=by
 unfold A_.f at H;refine aB Tryz.func200 J J (λW=>rc T 2 (lf T 1 J (ro T 2 (sg T 0 J (ro T 1 (jd ?_))))))
 cases H;exact p1 T J [0,0,0] ⟨J,J⟩ J
def xK.f (u:eW) (ai:Int) (yU:Int):Option (Bool×eW):=(ox.f u ai).bind λv1=>if v1.2=true then((A_.f v1.1 yU).bind λv2=>some (v1.2,(eW.mk u.most u.next (cE u.live ai v2) u.order))) else(some (v1.2,u))
def xK.R (eF:Nat) (r:(Bool×eW)) (u:Value) (G:List Hp):Prop:= ∃(a0:Nat) (H0:Hp) (a1:Option Addr) (n1:Nat) (H1:Hp),cP (Ky.int .i64 u3) (λx:aD=>Value.agg #[.int .i64 x.Id,.int .i64 x.Cell,.int .i64 x.Goal]) r.2.live a0 H0/\ak (Fl.int .i64) 3 r.2.order a1 n1 H1/\u=(bb r.1)/\G=[(cl eF 178 [(ii r.2.most),(ii r.2.next),(.map (some a0)),(ll a1 r.2.order n1)]),H0,H1]
theorem xK.c (H:xK.f u ai yU=some r) (jB:cP (Ky.int .i64 u3) (λx:aD=>Value.agg #[.int .i64 x.Id,.int .i64 x.Cell,.int .i64 x.Goal]) u.live iU ki) (j_:ak (Fl.int .i64) 3 u.order jr jz jq):
 QR 161 [(pp eF),(ii ai),(.func (.func 200) #[] #[(pp Fj)])] [(cl eF 178 [(ii u.most),(ii u.next),(.map (some iU)),(ll jr u.order jz)]),ki,jq,(cl Fj 3 [(ii yU)])] [(cl Fj 3 [(ii yU)])] F (xK.R eF r):=by
 unfold xK.f at H;refine aB Tryz.func161 J J (λW=>rc T 9 (k [0,0,0] J BN H (ox.c · jB j_) (λv1 H=>ro T 3 (nc T J (λb5=>sg T 5 J (ro T 9 (cb J H (λH=>?_) (λH=>?_))))))))
 ·refine rc T 3 (kr (A_.R b5) [3] [5,3] J acu H (A_.c ·) (λv2 H=>?_));rintro _ _ ⟨rfl,rfl⟩;refine fz J (ro T 2 (ks [0,1,7,8] J (fz J (rz [6] mix (bO bN) (λhg pf=>ha T 4 [0,1,2] sz hg pf J (av 3 sz hg pf J (aw T J J J J (aF (j:=0) J J)) (ha T 2 [4] sz hg pf J (av 5 sz hg pf J (gA T 4 J J J J J J J) (ao 6 (pG (g:=1) (m:=u.live) (k:=ai) (v:=v2) T (Ky.int .i64 u3) (λx:aD=>Value.agg #[.int .i64 x.Id,.int .i64 x.Cell,.int .i64 x.Goal]) J J J J J J J jB (λH6 s6=>an sl (ae (rx T 8 ?_)))))))))))))
  cases H;exact p1 T J [0,0,0,2,0] ⟨iU,H6,jr,jz,jq,s6,j_,J,J⟩ J
 refine rc T 9 ?_
 cases H;exact p1 T J [0,0,0,0,0] ⟨iU,ki,jr,jz,jq,jB,j_,J,J⟩ J
def xI.f (u:eW) (ai:Int) (cell:Int):Option (Bool×eW):=(xK.f u ai cell).bind λv1=>some (v1.1,v1.2)
def xI.R (eF:Nat) (r:(Bool×eW)) (u:Value) (G:List Hp):Prop:= ∃(a0:Nat) (H0:Hp) (a1:Option Addr) (n1:Nat) (H1:Hp),cP (Ky.int .i64 u3) (λx:aD=>Value.agg #[.int .i64 x.Id,.int .i64 x.Cell,.int .i64 x.Goal]) r.2.live a0 H0/\ak (Fl.int .i64) 3 r.2.order a1 n1 H1/\u=(bb r.1)/\G=[(cl eF 178 [(ii r.2.most),(ii r.2.next),(.map (some a0)),(ll a1 r.2.order n1)]),H0,H1]
theorem xI.c (H:xI.f u ai cell=some r) (jB:cP (Ky.int .i64 u3) (λx:aD=>Value.agg #[.int .i64 x.Id,.int .i64 x.Cell,.int .i64 x.Goal]) u.live iU ki) (j_:ak (Fl.int .i64) 3 u.order jr jz jq):
 QR 168 [(pp eF),(ii ai),(ii cell)] [(cl eF 178 [(ii u.most),(ii u.next),(.map (some iU)),(ll jr u.order jz)]),ki,jq] [] F (xI.R eF r):=by
 unfold xI.f at H;refine aB Tryz.func168 J J (λW=>rc T 2 (nc T J (λb4=>ro T 8 (kr (xK.R eF) [4] [0,0,0,1] J Sr H (xK.c · jB j_) (λv1 H=>?_)))));rintro _ _ ⟨a5,H5,a6,n6,H6,s5,s6,rfl,rfl⟩;refine fz J (ro T 4 ?_)
 cases H;exact p1 T J [1,1,1,0] ⟨a5,H5,a6,n6,H6,s5,s6,J,J⟩ J
end
noncomputable section
def uP.f (w:Int) (h:Int) (most:Int):Option (Option dV):=(nR.f w h).bind λv1=>if(((!v1)||(decide (most<1)))||(decide (most>65536)))=true then(some none) else((xF.f most).bind λv2=>dq v2 ((ss.f (aa (w*h))).bind λv3=>dq v3 (none) (λzx=>none)) (λrR=>(ss.f (aa (w*h))).bind λv4=>dq v4 (none) (λqU=>some (some (dV.mk w h most rR qU)))))
def uP.R (r:(Option dV)) (u:Value) (G:List Hp):Prop:= ∃(u0:Value) (G0:List Hp),Xg r u0 G0/\u=u0/\G=G0
theorem uP.c (H:uP.f w h most=some r):
 QR 116 [(ii w),(ii h),(ii most)] [] [] F (uP.R r):=by
 unfold uP.f at H;refine aB Tryz.func116 J J (λW=>rc T 10 (k [] J BQ H (nR.c ·) (λv1 H=>ro T 2 (go T [5,6,7] 11 [0,1,2] 14 J J J J J J J (ro T 1 (go T [9,10,11] 15 [0,1,2] 18 J J J J J J J (ro T 2 (cb J H (λH=>?_) (λH=>?_)))))))))
 ·refine rc T 7 ?_
  cases H;exact p1 T J [0] ⟨_,_,⟨J,J⟩,J,J⟩ J
 refine rc T 8 (kr xF.R [] [] J ab2 H (xF.c ·) (λv2 H=>?_));rintro _ _ ⟨_,_,O4,rfl,rfl⟩;rcases v2 with _ |rR
 ·replace H:=eT J H;obtain⟨rfl,rfl⟩:=O4;refine ro T 3 (kr ss.R [] [] J Sn H (ss.c ·) (λv3 H=>?_));rintro _ _ ⟨_,_,O6,rfl,rfl⟩;rcases v3 with _ |zx
  ·replace H:=eT J H;obtain⟨rfl,rfl⟩:=O6;refine ro T 1 (nc T J (λb6=>ro T 4 ?_))
   cases H
  replace H:=eU J H;obtain⟨b4,a5,n5,H5,s5,rfl,rfl⟩:=O6;refine ro T 1 (nc T J (λb7=>ro T 4 ?_))
  cases H
 replace H:=eU J H;obtain⟨b1,a2,H2,a3,n3,H3,s2,s3,rfl,rfl⟩:=O4;refine ro T 3 (kr ss.R [] [] J Sn H (ss.c ·) (λv4 H=>?_));rintro _ _ ⟨_,_,O8,rfl,rfl⟩;rcases v4 with _ |qU
 ·replace H:=eT J H;obtain⟨rfl,rfl⟩:=O8;refine ro T 1 (nc T J (λfN=>ro T 4 ?_))
  cases H
 replace H:=eU J H;obtain⟨b8,a9,n9,H9,s9,rfl,rfl⟩:=O8;refine ro T 1 (nc T J (λjG=>ro T 4 ?_))
 cases H;refine gi [6,1,1,1,1,1] J (p1 T J [1,0] ⟨_,_,⟨jG,(List.flatten [(cl jG 146 [(ii w),(ii h),(ii most),(pp b1),(pp b8)]),(cl b1 178 [(ii rR.most),(ii rR.next),(.map (some a2)),(ll a3 rR.order n3)]),H2,H3,(cl b8 221 [(ll a9 qU.words n9),(ii qU.count)]),H9]),(show lr (dV.mk w h most rR qU) jG (List.flatten [(cl jG 146 [(ii w),(ii h),(ii most),(pp b1),(pp b8)]),(cl b1 178 [(ii rR.most),(ii rR.next),(.map (some a2)),(ll a3 rR.order n3)]),H2,H3,(cl b8 221 [(ll a9 qU.words n9),(ii qU.count)]),H9]) from⟨b1,a2,H2,a3,n3,H3,b8,a9,n9,H9,s2,s3,s9,J⟩),J,J⟩,J,J⟩ J)
def zT.f (ag:dV) (cell:Int):Option Int:=(qq.f ag.floor cell).bind λv1=>some v1
theorem zT.c (H:zT.f ag cell=some r) (cF:lr ag aW cW):
 QU 119 [(pp aW),(ii cell)] [cW] F (ii r):=by
 unfold zT.f at H;refine aB Tryz.func119 J J (λW=>rc T 12 (eD J (rc T 3 ?_)));obtain⟨b3,a4,H4,a5,n5,H5,b6,a7,n7,H7,s4,s5,s7,ck⟩:=(λx=>x) cF;refine bP 0 (congrArg some ck) (fz J (rc T 4 (lf T 1 J (ro T 1 (k [5,5] J FL H (qq.c · s7) (λv1 H=>ro T 4 ?_))))))
 cases H;refine dj [1,1,1,1,1,1] J ck (p0 T J [1,0] J)
def uM.f (ag:dV) (cell:Int):Option Bool:=(gG.f ag.w ag.h cell).bind λv1=>some (decide (v1≥0))
theorem uM.c (H:uM.f ag cell=some r) (cF:lr ag aW cW):
 QU 123 [(pp aW),(ii cell)] [cW] F (bb r):=by
 unfold uM.f at H;refine aB Tryz.func123 J J (λW=>rc T 6 ?_);obtain⟨b3,a4,H4,a5,n5,H5,b6,a7,n7,H7,s4,s5,s7,ck⟩:=(λx=>x) cF;refine bP 0 (congrArg some ck) (fz J (dA mix ay (aj T J (aj T J (aj T J (aO J J J (aw T J J J J (aF (j:=1) J J)) (aj T J (aj T J (aj T J (aO J J J (aw T J J J J (aF (j:=1) J J)) (aj T J ?_)))))))))));obtain⟨v1,V1,H⟩:=gj H;refine uF J J J J J J ru J (gG.c V1) (aj T J (aj T J (cH (rx T 2 ?_))))
 cases H;refine dj [1,1,1,1,1,1] J ck (p0 T J [1,0] J)
def uO.f (ag:dV) (ai:Int) (cell:Int) (goal:Int):Option Int:=if(ai==0)=true then(((uM.f ag cell).bind λv3=>if(!v3)=true then(some true) else((uM.f ag goal).bind λv4=>some (!v4))).bind λx1=>if x1=true then(some 7) else((qq.f ag.floor cell).bind λv5=>if(v5 !=(-1))=true then(some 10) else((vV.f ag.cU).bind λv6=>if v6≥ag.most then(some 11) else(if(cell==goal)=true then(some 13) else(some 0))))) else(if(ai==1)=true then((qq.f ag.floor cell).bind λv7=>if(v7 !=(-1))=true then(some 10) else((vV.f ag.cU).bind λv8=>if v8≥ag.most then(some 11) else(if(cell==goal)=true then(some 13) else(some 0)))) else(if(ai==2)=true then((vV.f ag.cU).bind λv9=>if v9≥ag.most then(some 11) else(if(cell==goal)=true then(some 13) else(some 0))) else(if(ai==3)=true then(if(cell==goal)=true then(some 13) else(some 0)) else(some 0))))
theorem uO.c (H:uO.f ag ai cell goal=some r) (cF:lr ag aW cW):
 QU 124 [(pp aW),(ii ai),(ii cell),(ii goal)] [cW] F (ii r):=by
 unfold uO.f at H;refine aB Tryz.func124 J J (λW=>rc T 28 (cb J H (λH=>?_) (λH=>?_)))
 ·refine rc T 5 (mq H [0,2,3] [1,0] (λz2 (x1:Bool)=>(x1=z2,[(27,(bb x1))],[])) J J (λz2 Z2 _=>?_) ?_)
  ·refine rc T 3 (k [0] J MN Z2 (uM.c · cF) (λv3 Z2=>ro T 2 (ab 22 J Z2 (λZ2=>?_) (λZ2=>?_))))
   ·refine ro T 7 (am _ [1,0] (oi Z2) J J)
   refine ro T 2 (k [0] J MN Z2 (uM.c · cF) (λv4 Z2=>ro T 4 (am _ [1,0] (oi Z2) J J)))
  rintro _ x1 rfl H;refine cb J H (λH=>?_) (λH=>?_)
  ·refine rc T 14 ?_
   cases H;exact p0 T J [1,0] J
  refine rc T 4 ?_;obtain⟨b3,a4,H4,a5,n5,H5,b6,a7,n7,H7,s4,s5,s7,ck⟩:=(λx=>x) cF;refine bP 1 (congrArg some ck) (fz J (rc T 4 (lf T 1 J (ro T 1 (k [5,5] J FL H (qq.c · s7) (λv5 H=>ro T 3 (cb J H (λH=>?_) (λH=>?_))))))))
  ·refine rc T 12 ?_
   cases H;refine dj [1,1,1,1,1,1] J ck (p0 T J [1,0] J)
  refine rc T 4 (dA mix ay (aj T J (aj T J (aj T J (aO J J J (aw T J J J J (aF (j:=1) J J)) ?_)))));obtain⟨v6,V9,H⟩:=gj H;refine wv [2,2,2] J J J J J J MP J (vV.c V9 s4 s5) (aj T J (aj T J (aj T J (aO J J J (aw T J J J J (aF (j:=1) J J)) (aj T J (cH (rx T 1 (cd J H (λH=>?_) (λH=>?_)))))))))
  ·refine rc T 10 ?_
   cases H;refine dj [1,1,1,1,1,1] J ck (p0 T J [1,0] J)
  refine rc T 11 (cb J H (λH=>?_) (λH=>?_))
  ·refine rc T 9 ?_
   cases H;refine dj [1,1,1,1,1,1] J ck (p0 T J [1,0] J)
  refine rc T 11 ?_
  cases H;refine dj [1,1,1,1,1,1] J ck (p0 T J [1,0] J)
 refine rc T 9 (cb J H (λH=>?_) (λH=>?_))
 ·refine rc T 8 ?_;obtain⟨b9,cy,bX,du,n11,cB,kL,dD,n13,ei,bS,cS,cz,FF⟩:=(λx=>x) cF;refine bP 0 (congrArg some FF) (fz J (rc T 4 (lf T 1 J (ro T 1 (k [5,5] J FL H (qq.c · cz) (λv7 H=>ro T 3 (cb J H (λH=>?_) (λH=>?_))))))))
  ·refine rc T 12 ?_
   cases H;refine dj [1,1,1,1,1,1] J FF (p0 T J [1,0] J)
  refine rc T 4 (dA mix ay (aj T J (aj T J (aj T J (aO J J J (aw T J J J J (aF (j:=1) J J)) ?_)))));obtain⟨v8,PD,H⟩:=gj H;refine wv [2,2,2] J J J J J J MP J (vV.c PD bS cS) (aj T J (aj T J (aj T J (aO J J J (aw T J J J J (aF (j:=1) J J)) (aj T J (cH (rx T 1 (cd J H (λH=>?_) (λH=>?_)))))))))
  ·refine rc T 10 ?_
   cases H;refine dj [1,1,1,1,1,1] J FF (p0 T J [1,0] J)
  refine rc T 11 (cb J H (λH=>?_) (λH=>?_))
  ·refine rc T 9 ?_
   cases H;refine dj [1,1,1,1,1,1] J FF (p0 T J [1,0] J)
  refine rc T 11 ?_
  cases H;refine dj [1,1,1,1,1,1] J FF (p0 T J [1,0] J)
 refine rc T 9 (cb J H (λH=>?_) (λH=>?_))
 ·refine rc T 10 ?_;obtain⟨mZ,jW,fX,a17,n17,ek,qk,mc,n19,kJ,fR,fq,gT,DC⟩:=(λx=>x) cF;refine bP 0 (congrArg some DC) (fz J (dA mix ay (aj T J (aj T J (aj T J (aO J J J (aw T J J J J (aF (j:=1) J J)) ?_))))));obtain⟨v9,Im,H⟩:=gj H;refine wv [2,2,2] J J J J J J MP J (vV.c Im fR fq) (aj T J (aj T J (aj T J (aO J J J (aw T J J J J (aF (j:=1) J J)) (aj T J (cH (rx T 1 (cd J H (λH=>?_) (λH=>?_)))))))))
  ·refine rc T 10 ?_
   cases H;refine dj [1,1,1,1,1,1] J DC (p0 T J [1,0] J)
  refine rc T 11 (cb J H (λH=>?_) (λH=>?_))
  ·refine rc T 9 ?_
   cases H;refine dj [1,1,1,1,1,1] J DC (p0 T J [1,0] J)
  refine rc T 11 ?_
  cases H;refine dj [1,1,1,1,1,1] J DC (p0 T J [1,0] J)
 refine rc T 8 (cb J H (λH=>?_) (λH=>?_))
 ·refine rc T 18 (cb J H (λH=>?_) (λH=>?_))
  ·refine rc T 9 ?_
   cases H;exact p0 T J [0,0] J
  refine rc T 11 ?_
  cases H;exact p0 T J [0,0] J
 refine rc T 19 ?_
 cases H;exact p0 T J [0,0] J
def wD.f (ag:dV) (cell:Int) (goal:Int):Option (Int×Int×dV):=(uO.f ag 0 cell goal).bind λv1=>if(v1 !=0)=true then(some ((-1),v1,ag)) else((vU.f ag.cU cell goal).bind λv2=>(sk.f ag.floor cell v2.1).bind λv3=>some (v2.1,0,(dV.mk ag.w ag.h ag.most v2.2.2 v3.2)))
def wD.R (ng:Nat) (r:(Int×Int×dV)) (u:Value) (G:List Hp):Prop:= ∃(H0:Hp),lr r.2.2 ng H0/\u=(.tuple #[(ii r.1),(ii r.2.1)])/\G=[H0]
theorem wD.c (H:wD.f ag cell goal=some r) (cF:lr ag aW cW):
 QR 121 [(pp aW),(ii cell),(ii goal)] [cW] [] F (wD.R aW r):=by
 unfold wD.f at H;refine aB Tryz.func121 J J (λW=>rc T 13 (eD J (rc T 8 (k [0] J Sf H (uO.c · cF) (λv1 H=>ro T 9 (cb J H (λH=>?_) (λH=>?_)))))))
 ·refine rc T 9 ?_
  cases H;exact p1 T J [0,0] ⟨cW,cF,J,J⟩ J
 refine rc T 3 ?_;obtain⟨b3,a4,H4,a5,n5,H5,b6,a7,n7,H7,s4,s5,s7,ck⟩:=(λx=>x) cF;refine bP 0 (congrArg some ck) (fz J (rc T 4 (lf T 1 J (ro T 2 (kr (vU.R b3) [] [2,2,2] J ab4 H (vU.c · s4 s5) (λv2 H=>?_))))));rintro _ _ ⟨a8,H8,a9,n9,H9,s8,s9,rfl,rfl⟩;refine fz J (ro T 11 (lf T 1 J (ro T 2 (kr (sk.R b6) [] [2,2] J Sp H (sk.c · s7) (λv3 H=>?_)))));rintro _ _ ⟨cy,n10,bX,bS,rfl,rfl⟩;refine fz J (ro T 10 ?_)
 cases H;refine gi [1,1,1,1,1,1] J (p1 T J [1,0] ⟨(List.flatten [(cl aW 146 [(ii ag.w),(ii ag.h),(ii ag.most),(pp b3),(pp b6)]),(cl b3 178 [(ii v2.2.2.most),(ii v2.2.2.next),(.map (some a8)),(ll a9 v2.2.2.order n9)]),H8,H9,(cl b6 221 [(ll cy v3.2.words n10),(ii v3.2.count)]),bX]),(show lr (dV.mk ag.w ag.h ag.most v2.2.2 v3.2) aW (List.flatten [(cl aW 146 [(ii ag.w),(ii ag.h),(ii ag.most),(pp b3),(pp b6)]),(cl b3 178 [(ii v2.2.2.most),(ii v2.2.2.next),(.map (some a8)),(ll a9 v2.2.2.order n9)]),H8,H9,(cl b6 221 [(ll cy v3.2.words n10),(ii v3.2.count)]),bX]) from⟨b3,a8,H8,a9,n9,H9,b6,cy,n10,bX,s8,s9,bS,J⟩),J,J⟩ J)
def Fv.f (ai:Int) (goal:Int):Option Int:=some 1
theorem Fv.c (H:Fv.f ai goal=some r):
 QU 89 [(.pointer none),(ii ai),(ii goal)] [] F (ii r):=by
 unfold Fv.f at H;refine aB Tryz.func89 J J (λW=>rc T 12 (mY J (rc T 7 ?_)))
 cases H;exact p0 T J [0] J
def pI.f (ag:dV) (u:aD):Option dV:=(xH.f ag.cU u.Id).bind λv1=>(sm.f ag.floor u.Cell).bind λv2=>some (dV.mk ag.w ag.h ag.most v1.2 v2.2)
def pI.R (ng:Nat) (r:dV) (u:Value) (G:List Hp):Prop:= ∃(H0:Hp),lr r ng H0/\u=(.tuple #[])/\G=[H0]
theorem pI.c (H:pI.f ag u=some r) (cF:lr ag aW cW):
 QR 125 [(pp aW),(.agg #[(ii u.Id),(ii u.Cell),(ii u.Goal)])] [cW] [] F (pI.R aW r):=by
 unfold pI.f at H;refine aB Tryz.func125 J J (λW=>rc T 2 (nc T J (λb2=>ro T 3 ?_)));obtain⟨b4,a5,H5,a6,n6,H6,b7,a8,n8,H8,s5,s6,s8,dp⟩:=(λx=>x) cF;refine bP 0 (congrArg some dp) (fz J (ks [0,3] J (fz J (rz [6] mix (bO bN) (λhg pf=>ha T 4 [0,1,2] sz hg pf J (av 3 sz hg pf J (aw T J J J J (aF (j:=2) J J)) (ha T 2 [4] sz hg pf J (av 5 sz hg pf J (aw T J J J J (aF (j:=1) J J)) (ao 6 (kR (xH.R b4) [] [3,3,3] J ab5 H (xH.c · s5 s6) (λv1 H=>?_)))))))))));rintro _ _ ⟨a9,H9,cy,n10,bX,s9,bS,rfl,rfl⟩;refine fz J (an sl (ae (rx T 1 (ks [0,3] J (fz J (rz [6] mix (bO bN) (λhg pf=>ha T 4 [0,1,2] sz hg pf J (av 3 sz hg pf J (aw T J J J J (aF (j:=2) J J)) (ha T 2 [4] sz hg pf J (av 5 sz hg pf J (aw T J J J J (aF (j:=1) J J)) (ao 6 (kR (sm.R b7) [] [3,3] J Sq H (sm.c · s8) (λv2 H=>?_)))))))))))));rintro _ _ ⟨du,n11,cB,cS,rfl,rfl⟩;refine fz J (an sl (ae (jd ?_)))
 cases H;refine gi [2,2,2,2,2,2] J (p1 T J [2,0] ⟨(List.flatten [(cl aW 146 [(ii ag.w),(ii ag.h),(ii ag.most),(pp b4),(pp b7)]),(cl b4 178 [(ii v1.2.most),(ii v1.2.next),(.map (some a9)),(ll cy v1.2.order n10)]),H9,bX,(cl b7 221 [(ll du v2.2.words n11),(ii v2.2.count)]),cB]),(show lr (dV.mk ag.w ag.h ag.most v1.2 v2.2) aW (List.flatten [(cl aW 146 [(ii ag.w),(ii ag.h),(ii ag.most),(pp b4),(pp b7)]),(cl b4 178 [(ii v1.2.most),(ii v1.2.next),(.map (some a9)),(ll cy v1.2.order n10)]),H9,bX,(cl b7 221 [(ll du v2.2.words n11),(ii v2.2.count)]),cB]) from⟨b4,a9,H9,cy,n10,bX,b7,du,n11,cB,s9,bS,cS,J⟩),J,J⟩ J)
def wC.f (ag:dV) (ai:Int) (goal:Int):Option (Int×dV):=(ox.f ag.cU ai).bind λv1=>if(!v1.2)=true then(some (12,ag)) else((uM.f ag goal).bind λv2=>if(!v2)=true then(some (7,ag)) else((uO.f ag 3 v1.1.Cell goal).bind λv3=>if(v3 !=0)=true then((pI.f ag v1.1).bind λv4=>some (v3,v4)) else((xG.f ag.cU ai goal).bind λv5=>some (0,(dV.mk ag.w ag.h ag.most v5.2 ag.floor)))))
def wC.R (ng:Nat) (r:(Int×dV)) (u:Value) (G:List Hp):Prop:= ∃(H0:Hp),lr r.2 ng H0/\u=(ii r.1)/\G=[H0]
theorem wC.c (H:wC.f ag ai goal=some r) (cF:lr ag aW cW):
 QR 89 [(pp aW),(ii ai),(ii goal)] [cW] [] F (wC.R aW r):=by
 unfold wC.f at H;refine aB Tryz.func89 J J (λW=>rc T 12 (eD J (rc T 3 ?_)));obtain⟨b3,a4,H4,a5,n5,H5,b6,a7,n7,H7,s4,s5,s7,ck⟩:=(λx=>x) cF;refine bP 0 (congrArg some ck) (fz J (rc T 4 (lf T 1 J (ro T 1 (k [2,2,2] J BN H (ox.c · s4 s5) (λv1 H=>ro T 3 (nc T J (λb8=>sg T 7 J (ro T 12 (cb J H (λH=>?_) (λH=>?_)))))))))))
 ·refine rc T 8 ?_
  cases H;refine dj [1,1,1,1,1,1] J ck (p1 T J [2,0] ⟨cW,cF,J,J⟩ J)
 refine rc T 4 ?_;obtain⟨v2,V3,H⟩:=gj H;refine aX (Iz (As:=[(cl aW 146 [(ii ag.w),(ii ag.h),(ii ag.most),(pp b3),(pp b6)]),(cl b3 178 [(ii ag.cU.most),(ii ag.cU.next),(.map (some a4)),(ll a5 ag.cU.order n5)]),H4,H5,(cl b6 221 [(ll a7 ag.floor.words n7),(ii ag.floor.count)]),H7]) [1,1,1,1,1,1] J J J J MN J J (IJ (A:=[cW]) (by simp only[ck,List.flatten_cons,List.flatten_append,List.flatten_nil,List.append_nil,List.append_assoc]) (uM.c V3 cF)) (ro T 4 (cb J H (λH=>?_) (λH=>?_))))
 ·refine rc T 8 ?_
  cases H;refine dj [1,1,1,1,1,1] J ck (p1 T J [2,0] ⟨cW,cF,J,J⟩ J)
 refine rc T 8 (lf T 7 J (ro T 1 ?_));obtain⟨v3,V5,H⟩:=gj H;refine aX (Iz (As:=[(cl aW 146 [(ii ag.w),(ii ag.h),(ii ag.most),(pp b3),(pp b6)]),(cl b3 178 [(ii ag.cU.most),(ii ag.cU.next),(.map (some a4)),(ll a5 ag.cU.order n5)]),H4,H5,(cl b6 221 [(ll a7 ag.floor.words n7),(ii ag.floor.count)]),H7]) [1,1,1,1,1,1] J J J J Sf J J (IJ (A:=[cW]) (by simp only[ck,List.flatten_cons,List.flatten_append,List.flatten_nil,List.append_nil,List.append_assoc]) (uO.c V5 cF)) (ro T 9 (cb J H (λH=>?_) (λH=>?_))))
 ·refine rc T 3 (lm T 7 J (dj [1,1,1,1,1,1] J ck (kr (pI.R aW) [] [2] J MO H (pI.c · cF) (λv4 H=>?_))));rintro _ _ ⟨H9,s9,rfl,rfl⟩;refine fz J (ro T 10 ?_)
  cases H;exact p1 T J [2,0] ⟨H9,s9,J,J⟩ J
 refine rc T 7 (lf T 1 J (ro T 2 (kr (xG.R b3) [] [2,2,2] J abS H (xG.c · s4 s5) (λv5 H=>?_))));rintro _ _ ⟨cy,bX,du,n11,cB,bS,cS,rfl,rfl⟩;refine fz J (ro T 8 ?_)
 cases H;refine gi [1,4,4,4,1,1] J (p1 T J [2,0] ⟨(List.flatten [(cl aW 146 [(ii ag.w),(ii ag.h),(ii ag.most),(pp b3),(pp b6)]),(cl b3 178 [(ii v5.2.most),(ii v5.2.next),(.map (some cy)),(ll du v5.2.order n11)]),bX,cB,(cl b6 221 [(ll a7 ag.floor.words n7),(ii ag.floor.count)]),H7]),(show lr (dV.mk ag.w ag.h ag.most v5.2 ag.floor) aW (List.flatten [(cl aW 146 [(ii ag.w),(ii ag.h),(ii ag.most),(pp b3),(pp b6)]),(cl b3 178 [(ii v5.2.most),(ii v5.2.next),(.map (some cy)),(ll du v5.2.order n11)]),bX,cB,(cl b6 221 [(ll a7 ag.floor.words n7),(ii ag.floor.count)]),H7]) from⟨b3,cy,bX,du,n11,cB,b6,a7,n7,H7,bS,cS,s7,J⟩),J,J⟩ J)
def Fu.f (ai:Int):Option Int:=some 1
theorem Fu.c (H:Fu.f ai=some r):
 QU 90 [(.pointer none),(ii ai)] [] F (ii r):=by
 unfold Fu.f at H;refine aB Tryz.func90 J J (λW=>rc T 12 (mY J (rc T 7 ?_)))
 cases H;exact p0 T J [0] J
def wB.f (ag:dV) (ai:Int):Option (Int×dV):=(ox.f ag.cU ai).bind λv1=>if(!v1.2)=true then(some (12,ag)) else((pI.f ag v1.1).bind λv2=>some (0,v2))
def wB.R (ng:Nat) (r:(Int×dV)) (u:Value) (G:List Hp):Prop:= ∃(H0:Hp),lr r.2 ng H0/\u=(ii r.1)/\G=[H0]
theorem wB.c (H:wB.f ag ai=some r) (cF:lr ag aW cW):
 QR 90 [(pp aW),(ii ai)] [cW] [] F (wB.R aW r):=by
 unfold wB.f at H;refine aB Tryz.func90 J J (λW=>rc T 12 (eD J (rc T 3 ?_)));obtain⟨b3,a4,H4,a5,n5,H5,b6,a7,n7,H7,s4,s5,s7,ck⟩:=(λx=>x) cF;refine bP 0 (congrArg some ck) (fz J (rc T 4 (lf T 1 J (ro T 1 (k [2,2,2] J BN H (ox.c · s4 s5) (λv1 H=>ro T 3 (nc T J (λb8=>sg T 7 J (ro T 10 (cb J H (λH=>?_) (λH=>?_)))))))))))
 ·refine rc T 7 ?_
  cases H;refine dj [1,1,1,1,1,1] J ck (p1 T J [2,0] ⟨cW,cF,J,J⟩ J)
 refine rc T 5 (lm T 7 J (dj [1,1,1,1,1,1] J ck (kr (pI.R aW) [] [2] J MO H (pI.c · cF) (λv2 H=>?_))));rintro _ _ ⟨H9,s9,rfl,rfl⟩;refine fz J (ro T 8 ?_)
 cases H;exact p1 T J [2,0] ⟨H9,s9,J,J⟩ J
def oS.f (ag:dV):Option (List aD):=(ov.f ag.cU).bind λv1=>some v1
def oS.R (r:(List aD)) (u:Value) (G:List Hp):Prop:= ∃(a0:Option Addr) (n0:Nat) (H0:Hp),ak gP 67 r a0 n0 H0/\u=(ll a0 r n0)/\G=[H0]
theorem oS.c (H:oS.f ag=some r) (cF:lr ag aW cW):
 QR 54 [(pp aW)] [cW] [cW] F (oS.R r):=by
 unfold oS.f at H;refine aB Tryz.func54 J J (λW=>rc T 12 (eD J (rc T 3 ?_)));obtain⟨b3,a4,H4,a5,n5,H5,b6,a7,n7,H7,s4,s5,s7,ck⟩:=(λx=>x) cF;refine bP 0 (congrArg some ck) (fz J (rc T 4 (lf T 1 J (kr ov.R [2,2,2] [2,2,2] J adD H (ov.c · s4 s5) (λv1 H=>?_)))));rintro _ _ ⟨a8,n8,H8,s8,rfl,rfl⟩;refine fz J (ro T 4 ?_)
 cases H;refine dj [1,4,4,4,1,1] J ck (p1 T J [1,1,0] ⟨a8,n8,H8,s8,J,J⟩ J)
def ni.l0:Nat->((List aD)×(List fe)×(List Int)×Int)->dV->Int->Option ((List fe)×(List Int)×Int×dV)
 |0,_,_,_=>none
 |k7+1,v2,x5,x6=>if x6<(List.length v2.2.1:Int) then(if(0<=x6/\x6<(List.length v2.2.1:Int)) then(((ox.f x5.cU ((rd v2.2.1 x6).Id)).bind λv12=>some (v12.1.Id,v12.1.Cell,v12.1.Goal)).bind λ(x8,x9,aN)=>if((rd v2.2.1 x6).To==aN)=true then((pI.f x5 (aD.mk x8 x9 aN)).bind λbY=>ni.l0 k7 v2 bY (aa (x6+1))) else((wG.f x5.floor x9 ((rd v2.2.1 x6).To)).bind λcx=>(xI.f x5.cU ((rd v2.2.1 x6).Id) ((rd v2.2.1 x6).To)).bind λd_=>ni.l0 k7 v2 (dV.mk x5.w x5.h x5.most d_.2 cx.2) (aa (x6+1)))) else none) else(some (v2.2.1,v2.2.2.1,0,x5))
def ni.f (ag:dV) (aM:(List Int)):Option ((List fe)×(List Int)×Int×dV):=(oS.f ag).bind λv1=>(jy.f ag.w ag.h v1 aM).bind λv2=>if(v2.2.2.2 !=0)=true then(some ([],[],v2.2.2.2,ag)) else(ni.l0 fuel v2 ag 0)
def ni.R (ng:Nat) (r:((List fe)×(List Int)×Int×dV)) (u:Value) (G:List Hp):Prop:= ∃(a0:Option Addr) (n0:Nat) (H0:Hp) (a1:Option Addr) (n1:Nat) (H1:Hp) (H2:Hp),ak jw 94 r.1 a0 n0 H0/\ak (Fl.int .i64) 3 r.2.1 a1 n1 H1/\lr r.2.2.2 ng H2/\u=(.tuple #[(ll a0 r.1 n0),(ll a1 r.2.1 n1),(ii r.2.2.1)])/\G=[H0,H1,H2]
theorem ni.c (H:ni.f ag aM=some r) (cF:lr ag aW cW) (FI:aT (Fl.int .i64) aM Lf F) (LO:List.length aM<=N7):
 QR 129 [(pp aW),(ll Lf aM N7)] [cW] [] F (ni.R aW r):=by
 unfold ni.f at H;refine aB Tryz.func129 J J (λW=>rc T 14 (eD J (rc T 3 ?_)));obtain⟨b3,a4,H4,a5,n5,H5,b6,a7,n7,H7,s4,s5,s7,ck⟩:=(λx=>x) cF;refine bP 0 (congrArg some ck) (fz J (fz J (rg [] [0,0,0,0,0,0,0] mix (bO bN) (λhg pf=>ha T 17 [0,1,2] sz hg pf J (av 3 sz hg pf J (aw T J J J J (aF (j:=1) J J)) (ha T 13 [4,5,6] sz hg pf J (av 7 sz hg pf J (aw T J J J J (aF (j:=1) J J)) (ha T 10 [8,10] sz hg pf J (ao 9 ?_)))))))));obtain⟨v1,V1,H⟩:=gj H;refine Fa (As:=[(cl aW 146 [(ii ag.w),(ii ag.h),(ii ag.most),(pp b3),(pp b6)]),(cl b3 178 [(ii ag.cU.most),(ii ag.cU.next),(.map (some a4)),(ll a5 ag.cU.order n5)]),H4,H5,(cl b6 221 [(ll a7 ag.floor.words n7),(ii ag.floor.count)]),H7]) (oS.R v1) [(cl aW 146 [(ii ag.w),(ii ag.h),(ii ag.most),(pp b3),(pp b6)]),(cl b3 178 [(ii ag.cU.most),(ii ag.cU.next),(.map (some a4)),(ll a5 ag.cU.order n5)]),H4,H5,(cl b6 221 [(ll a7 ag.floor.words n7),(ii ag.floor.count)]),H7] [1,1,1,1,1,1] J J J J Jn J J (IK (A:=[cW]) (A2:=[cW]) (by simp only[ck,List.flatten_cons,List.flatten_append,List.flatten_nil,List.append_nil,List.append_assoc]) (by simp only[ck,List.flatten_cons,List.flatten_append,List.flatten_nil,List.append_nil,List.append_assoc]) (oS.c V1 cF)) ?_
 rintro _ _ ⟨a8,n8,H8,s8,rfl,rfl⟩;refine fz J (an (so [0,1,1,1,1,1,1]) (ao 11 (kR jy.R [] [] J ab8 H (jy.c · (oO s8 1) s8.bV (rO FI 0) LO) (λv2 H=>?_))));rintro _ _ ⟨a9,n9,H9,cy,n10,bX,du,n11,cB,s9,bS,cS,rfl,rfl⟩;refine fz J (an (so [0,1,1,1,1,1,1]) (ha T 0 [12,13,14,15,16,17,18,19] (so [0,1,1,1,1,1,1]) hg pf J (ae (rx T 8 (cb J H (λH=>?_) (λH=>?_))))))
 ·refine rc T 10 ?_
  cases H;refine dj [2,2,2,2,2,2] J ck (bq (bq (p1 T J [6,6,5,0] ⟨none,0,[],none,0,[],cW,ak.nil,ak.nil,cF,J,J⟩ J)))
 refine rc T 11 (dj [2,2,2,2,2,2] J ck (lq [0,4,5,33,34] [0,2,2] (λ(⟨k7,x5,x6,dJ⟩:Nat×dV×Int×Hp)=>(ni.l0 k7 v2 x5 x6=some r/\lr x5 aW dJ,[(35,(ii x6))],[dJ])) J J (fuel,ag,0,cW) [0,2,2,2] ⟨H,cF⟩ J J ?_));rintro k7 ⟨x5,x6,dJ⟩ ⟨Z4,dP⟩;rw[ni.l0] at Z4;refine rc T 6 (cd J Z4 (λZ4=>?_) (λZ4=>?_))
 ·refine rc T 6 ?_;obtain⟨c6,Z4⟩:=az Z4;obtain⟨Vu,UQ,zW⟩:=bS.r.addr c6.1 c6.2;refine ix T J zW c6 (br J (fO T (cs:=[(ii (rd v2.2.1 x6).Id),(ii (rd v2.2.1 x6).To)]) J J J J J J (hJ (k:=jw) (oO bS 1) zW c6 J)) (nc T J (λBx=>sg T 4 J (ro T 2 (mq Z4 [0,4,5,8,33,34,35] [0,2,0,0,0] (λiZ (⟨x8,x9,aN,qk⟩:Int×Int×Int×Nat)=>((x8,x9,aN)=iZ,[(9,(pp qk))],[(cl qk 67 [(ii x8),(ii x9),(ii aN)])])) J J (λiZ Z7 _=>?_) ?_)))))
  ·obtain⟨IF,a21,lj,a22,n22,mv,Zc,a24,n24,qX,jQ,iO,lX,FE⟩:=(λx=>x) dP;refine bP 3 (congrArg some FE) (fz J (ks [0,4,5,8,33,34,35] J (fz J (rz [] mix (bO bN) (λhg pf=>ha T 10 [0,1,2] sz hg pf J (av 3 sz hg pf J (aw T J J J J (aF (j:=4) J J)) (ha T 8 [4] sz hg pf J (av 5 sz hg pf J (aw T J J J J (aF (j:=3) J J)) (gy 6 10 ?_ ?_)))))))))
   ·refine kh [5,5,5] J BN Z7 (ox.c · jQ iO) (λv12 Z7=>an sz (ha T 3 [7,8,9] sz hg pf J (ao 10 (nw T J (λkN=>an (so [0,0,0,0,0,0,0,0,0,0]) (ao 11 (sf T 10 J (an (so [0,0,0,0,0,0,0,0,0,0]) (ha T 0 [12] (so [0,0,0,0,0,0,0,0,0,0]) hg pf J (ae (rx T 1 (dj [4,4,4,4,4,4] J FE (am (_,_,_,_) [0,4,0,0,0,0] (oi Z7) J J)))))))))))))
   refine nw T J (λkO=>an (so [0,0,0,0,0,0,0,0,0,0]) (ao 6 (kh [5,5,5] J BN Z7 (ox.c · jQ iO) (λfv Z7=>an (so [0,0,0,0,0,0,0,0,0,0]) (ha T 2 [7,8,9] (so [0,0,0,0,0,0,0,0,0,0]) hg pf J (ao 11 (sf T 10 J (an (so [0,0,0,0,0,0,0,0,0,0]) (ha T 0 [12] (so [0,0,0,0,0,0,0,0,0,0]) hg pf J (ae (rx T 1 (dj [4,4,4,4,4,4] J FE (am (_,_,_,_) [0,4,0,0,0,0] (oi Z7) J J)))))))))))))
  rintro _ ⟨x8,x9,aN,qk⟩ rfl Z4;refine rc T 4 (lf T 4 J (ro T 1 (lf T 5 J (ro T 3 (cb J Z4 (λZ4=>?_) (λZ4=>?_))))))
  ·refine rc T 3 (lm T 5 J (kr (pI.R aW) [] [1] J MO Z4 (pI.c (u:=(aD.mk x8 x9 aN)) · dP) (λbY Z4=>?_)));rintro _ _ ⟨EJ,vF,rfl,rfl⟩;refine fz J (ro T 11 (ar (_,_,_) [0,0,0,2] ⟨Z4,vF⟩ J J))
  refine rc T 3 ?_;obtain⟨zJ,Bo,qZ,a31,n31,Bh,wx,a33,n33,H_,pr,y_,vG,Jb⟩:=(λx=>x) dP;refine bP 1 (congrArg some Jb) (fz J (fz J (rz [8] mix (bO bN) (λhg pf=>ha T 6 [0,1,2] sz hg pf J (av 3 sz hg pf J (aw T J J J J (aF (j:=5) J J)) (ha T 4 [4] sz hg pf J (av 5 sz hg pf J (aw T J J J J (aF (j:=4) J J)) (ha T 2 [6] sz hg pf J (av 7 sz hg pf J (aw T J J J J (aF (j:=3) J J)) (ao 8 (kR (wG.R wx) [] [9,9] J ab9 Z4 (wG.c · vG) (λcx Z4=>?_))))))))))));rintro _ _ ⟨EW,n34,uo,xp,rfl,rfl⟩;refine fz J (an sl (ae (rx T 1 (ke [0,4,5,8,33,34,35] [0,0,0,0,1,1,1,1,1,1] J J (fz J (rz [8] mix (bO bN) (λhg pf=>ha T 6 [0,1,2] sz hg pf J (av 3 sz hg pf J (aw T J J J J (aF (j:=4) J J)) (ha T 4 [4] sz hg pf J (av 5 sz hg pf J (aw T J J J J (aF (j:=3) J J)) (ha T 2 [6] sz hg pf J (av 7 sz hg pf J (aw T J J J J (aF (j:=3) J J)) (ao 8 (kR (xI.R zJ) [] [5,5,5] J ab_ Z4 (xI.c · pr y_) (λd_ Z4=>?_)))))))))))))));rintro _ _ ⟨a35,Ia,zG,n36,zy,Ks,CF,rfl,rfl⟩;refine fz J (an sl (ae (rx T 7 (gi [4,6,6,6,4,4] J (ar (_,_,_) [0,0,0,1] ⟨Z4,(show lr (dV.mk x5.w x5.h x5.most d_.2 cx.2) aW (List.flatten [(cl aW 146 [(ii x5.w),(ii x5.h),(ii x5.most),(pp zJ),(pp wx)]),(cl zJ 178 [(ii d_.2.most),(ii d_.2.next),(.map (some a35)),(ll zG d_.2.order n36)]),Ia,zy,(cl wx 221 [(ll EW cx.2.words n34),(ii cx.2.count)]),uo]) from⟨zJ,a35,Ia,zG,n36,zy,wx,EW,n34,uo,Ks,CF,xp,J⟩)⟩ J J)))))
 refine rc T 15 ?_
 cases Z4;exact p1 T J [1,1,1,0] ⟨cy,n10,bX,du,n11,cB,dJ,bS,cS,dP,J,J⟩ J
def zS.f:Option (List aD):=some []
def zS.R (r:(List aD)) (u:Value) (G:List Hp):Prop:= ∃(a0:Option Addr) (n0:Nat) (H0:Hp),ak gP 67 r a0 n0 H0/\u=(ll a0 r n0)/\G=[H0]
theorem zS.c (H:zS.f=some r):
 QR 54 [(.pointer none)] [] [] F (zS.R r):=by
 unfold zS.f at H;refine aB Tryz.func54 J J (λW=>rc T 12 (mY J (rc T 7 ?_)))
 cases H;refine bq (p1 T J [1,0] ⟨none,0,[],ak.nil,J,J⟩ J)
def zU.f:Option (List Int):=some []
def zU.R (r:(List Int)) (u:Value) (G:List Hp):Prop:= ∃(a0:Option Addr) (n0:Nat) (H0:Hp),ak (Fl.int .u32) 65 r a0 n0 H0/\u=(ll a0 r n0)/\G=[H0]
theorem zU.c (H:zU.f=some r):
 QR 63 [(.pointer none)] [] [] F (zU.R r):=by
 unfold zU.f at H;refine aB Tryz.func63 J J (λW=>rc T 12 (mY J (rc T 7 ?_)))
 cases H;refine bq (p1 T J [1,0] ⟨none,0,[],ak.nil,J,J⟩ J)
def uL.f (ag:dV):Option (List Int):=(wH.f ag.floor).bind λv1=>some v1
def uL.R (r:(List Int)) (u:Value) (G:List Hp):Prop:= ∃(a0:Option Addr) (n0:Nat) (H0:Hp),ak (Fl.int .u32) 65 r a0 n0 H0/\u=(ll a0 r n0)/\G=[H0]
theorem uL.c (H:uL.f ag=some r) (cF:lr ag aW cW):
 QR 63 [(pp aW)] [cW] [cW] F (uL.R r):=by
 unfold uL.f at H;refine aB Tryz.func63 J J (λW=>rc T 12 (eD J (rc T 3 ?_)));obtain⟨b3,a4,H4,a5,n5,H5,b6,a7,n7,H7,s4,s5,s7,ck⟩:=(λx=>x) cF;refine bP 0 (congrArg some ck) (fz J (rc T 4 (lf T 1 J (kr wH.R [5,5] [5,5] J adN H (wH.c · s7) (λv1 H=>?_)))));rintro _ _ ⟨a8,n8,H8,s8,rfl,rfl⟩;refine fz J (ro T 4 ?_)
 cases H;refine dj [1,1,1,1,2,2] J ck (p1 T J [1,1,0] ⟨a8,n8,H8,s8,J,J⟩ J)
end
noncomputable section
def jf.f (g:bw) (cell:Int):Option Int:=(if cell<0 then(some true) else(some (decide (cell≥(List.length g.m.C:Int))))).bind λx1=>if x1=true then(some 0) else(if(0<=cell/\cell<(List.length g.m.C:Int)) then(some (aa (rd g.m.C cell))) else none)
theorem jf.c (H:jf.f g cell=some r) (fB:iE g eY fY):
 QU 141 [(pp eY),(ii cell)] [fY] F (ii r):=by
 unfold jf.f at H;refine aB Tryz.func141 J J (λW=>rc T 6 (mq H [0,1] [1,0] (λz2 (x1:Bool)=>(x1=z2,[(20,(bb x1))],[])) J J (λz2 Z1 _=>?_) ?_))
 ·obtain⟨a3,n3,H3,a4,n4,H4,s3,s4,ck⟩:=(λx=>x) fB;refine bP 0 (congrArg some ck) (fz J (rc T 8 (ad 11 J Z1 (λZ1=>?_) (λZ1=>?_))))
  ·refine ro T 11 (dj [1,1,1] J ck (am _ [0,0] (oi Z1) J J))
  refine ro T 5 (lf T 1 J (ro T 5 (dj [1,1,1] J ck (am _ [0,0] (oi Z1) J J))))
 rintro _ x1 rfl H;refine cb J H (λH=>?_) (λH=>?_)
 ·refine rc T 7 ?_
  cases H;exact p0 T J [1,0] J
 refine rc T 3 ?_;obtain⟨a6,n6,H6,a7,n7,H7,s6,s7,rn⟩:=(λx=>x) fB;refine bP 1 (congrArg some rn) (fz J (rc T 5 (lf T 1 J (ro T 1 ?_))));obtain⟨c4,H⟩:=az H;obtain⟨q8,o8,e8⟩:=s6.r.addr c4.1 c4.2;refine ix T J e8 c4 (le T 0 (oO s6 2) e8 c4 J J (ro T 5 ?_))
 cases H;refine dj [1,1,1] J rn (p0 T J [1,0] J)
def FC.f:Option Int:=some 0
theorem FC.c (H:FC.f=some r):
 QU 136 [(.pointer none)] [] F (ii r):=by
 unfold FC.f at H;refine aB Tryz.func136 J J (λW=>rc T 12 (mY J (rc T 7 ?_)))
 cases H;exact p0 T J [0] J
def lS.l0:Nat->aJ->Int->(List Int)->(Int×Int)->List Int->Int->Option (Option bw)
 |0,_,_,_,_,_,_=>none
 |k8+1,m,bK,v2,v3,x6,x7=>if x7<(List.length (List.replicate (Int.toNat (aa (v3.1*v3.2))) (0:Int)):Int) then(if(0<=x7/\x7<(List.length x6:Int)) then(lS.l0 k8 m bK v2 v3 (List.set x6 (Int.toNat x7) (aa (bK+1))) (aa (x7+1))) else none) else(some (some (bw.mk (aJ.mk m.W m.H v2) (aa (bK+1)) x6)))
def lS.f (m:aJ) (bK:Int):Option (Option bw):=(yb.f m).bind λv1=>if(((!v1)||(decide (bK<0)))||(decide (bK>4611686018427387904)))=true then(some none) else((nL.f m.C).bind λv2=>(p9.f m.W m.H).bind λv3=>if(0<=(aa (v3.1*v3.2))/\(aa (v3.1*v3.2))<=1099511627776) then(lS.l0 fuel m bK v2 v3 (List.replicate (Int.toNat (aa (v3.1*v3.2))) (0:Int)) 0) else none)
def lS.R (r:(Option bw)) (u:Value) (G:List Hp):Prop:= ∃(u0:Value) (G0:List Hp),Xi r u0 G0/\u=u0/\G=G0
theorem lS.c (H:lS.f m bK=some r) (sv:aT (Fl.int .u8) m.C oE F) (uI:List.length m.C<=oo):
 QR 149 [(.agg #[(ii m.W),(ii m.H),(ll oE m.C oo)]),(ii bK)] [] [] F (lS.R r):=by
 unfold lS.f at H;refine aB Tryz.func149 J J (λW=>rc T 2 (nc T J (λb1=>ro T 6 (lm T 1 J (k [] J Sj H (yb.c · (rO sv 0) uI) (λv1 H=>ro T 2 (go T [4,5,6] 12 [1,2] 15 J J J J J J J (ro T 1 (go T [8,9,10] 16 [1,2] 19 J J J J J J J (ro T 2 (cb J H (λH=>?_) (λH=>?_))))))))))))
 ·refine rc T 7 ?_
  cases H;exact p1 T J [0] ⟨_,_,⟨J,J⟩,J,J⟩ J
 refine rc T 5 (lf T 1 J (kr nL.R [] [] J MJ H (nL.c · (rO sv 0) uI) (λv2 H=>?_)));rintro _ _ ⟨a2,n2,H2,s2,rfl,rfl⟩;refine fz J (ro T 1 (sg T 1 J (ro T 5 (lf T 1 J (ro T 1 (lf T 1 J (k [] J FR H (p9.c ·) (λv3 H=>ro T 8 (ks [1,2,5,6] J (fz J (rg [] [0,0,0] mix (bO bN) (λhg pf=>av 0 sz hg pf J (gA T 1 J J J J J J J) (ha T 4 [1,2,3,4,5] sz hg pf J (ao 6 ?_))))))))))))));obtain⟨c5,H⟩:=az H;refine x_ (k:=(Fl.int .i64)) T (0:Int) J J J J J J J J c5 J (λa3 n3 H3 s3=>an (so [0,0,0]) (ha T 2 [7] (so [0,0,0]) hg pf J (ao 8 (nw T J (λb4=>an (so [0,0,0]) (ha T 0 [9] (so [0,0,0]) hg pf J (ae (rx T 7 (lf T 4 J (ro T 5 (lq [7,45] [0,1] (λ(⟨k8,x6,x7,a6,n6,H6⟩:Nat×List Int×Int×Option Addr×Nat×Hp)=>(lS.l0 k8 m bK v2 v3 x6 x7=some r/\ak (Fl.int .i64) 2 x6 a6 n6 H6,[(46,(ii x7))],[(cl b4 167 [(ii m.W),(ii m.H),(ll a2 v2 n2),(ii (aa (bK+1))),(ll a6 x6 n6)]),H6])) J J (fuel,(List.replicate (Int.toNat (aa (v3.1*v3.2))) (0:Int)),0,a3,n3,H3) [0,1,2,1] ⟨H,s3⟩ J J ?_)))))))))));rintro k8 ⟨x6,x7,a6,n6,H6⟩ ⟨Z6,s6⟩;rw[lS.l0] at Z6;refine rc T 6 (cd J Z6 (λZ6=>?_) (λZ6=>?_))
 ·refine rc T 10 (fz J (rz [10] mix (bO bN) (λhg pf=>ha T 8 [0,1,2] sz hg pf J (av 3 sz hg pf J (aw T J J J J (aF (j:=2) J J)) (ha T 3 [4,5,6,7] sz hg pf J (av 8 sz hg pf J (aw T J J J J (aF (j:=2) J J)) ?_))))));obtain⟨c8,Z6⟩:=az Z6;obtain⟨q7,o7,e7⟩:=s6.r.addr c8.1 c8.2;refine av 9 sz hg pf J (cn T J J J J J e7 c8.1 c8.2) (ao 10 (kK (k:=(Fl.int .i64)) T 3 0 (aa (bK+1)) J J J J J J s6 e7 c8 J J J (λH8 s8=>kg [7,8,45,46,49,50,51,53,54,55,56,57,58] [0,0,1] [0,0,1,0] [(52,(ll a6 (List.set x6 (Int.toNat x7) (aa (bK+1))) n6))] [(cl b4 167 [(ii m.W),(ii m.H),(ll a2 v2 n2),(ii (aa (bK+1))),(ll a6 (List.set x6 (Int.toNat x7) (aa (bK+1))) n6)])] J J ⟨(by first |rfl |(simp only[ll,List.length_set];rfl)),trivial⟩ (by first |rfl |(simp only[ll,List.length_set];rfl)) (an sl (ae (rx T 7 ?_))))))
  exact ar (_,_,_,_,_) [0,0,1,0] ⟨Z6,s8⟩ J J
 refine rc T 12 ?_
 cases Z6;refine gi [2,1,1] J (p1 T J [1,0] ⟨_,_,⟨b4,(List.flatten [(cl b4 167 [(ii m.W),(ii m.H),(ll a2 v2 n2),(ii (aa (bK+1))),(ll a6 x6 n6)]),H2,H6]),(show iE (bw.mk (aJ.mk m.W m.H v2) (aa (bK+1)) x6) b4 (List.flatten [(cl b4 167 [(ii m.W),(ii m.H),(ll a2 v2 n2),(ii (aa (bK+1))),(ll a6 x6 n6)]),H2,H6]) from⟨a2,n2,H2,a6,n6,H6,s2,s6,J⟩),J,J⟩,J,J⟩ J)
def iJ.f (g:bw):Option (Int×Int):=some (g.m.W,g.m.H)
theorem iJ.c (H:iJ.f g=some r) (fB:iE g eY fY):
 QU 171 [(pp eY)] [fY] F (.tuple #[(ii r.1),(ii r.2)]):=by
 unfold iJ.f at H;refine aB Tryz.func171 J J (λW=>rc T 13 (eD J (rc T 3 ?_)));obtain⟨a3,n3,H3,a4,n4,H4,s3,s4,ck⟩:=(λx=>x) fB;refine bP 0 (congrArg some ck) (fz J (dA mix ay ?_))
 iterate 4 refine aj T J ?_
 refine aO J J J (aw T J J J J (aF (j:=1) J J)) ?_
 iterate 4 refine aj T J ?_
 refine aO J J J (aw T J J J J (aF (j:=1) J J)) (aj T J (aj T J (cH (rx T 2 ?_))))
 cases H;refine dj [1,1,1] J ck (p0 T J [1,0] J)
def oW.f (g:bw):Option Int:=some g.bK
theorem oW.c (H:oW.f g=some r) (fB:iE g eY fY):
 QU 136 [(pp eY)] [fY] F (ii r):=by
 unfold oW.f at H;refine aB Tryz.func136 J J (λW=>rc T 12 (eD J (rc T 3 ?_)));obtain⟨a3,n3,H3,a4,n4,H4,s3,s4,ck⟩:=(λx=>x) fB;refine bP 0 (congrArg some ck) (fz J (rc T 4 (lf T 1 J (ro T 4 ?_))))
 cases H;refine dj [1,1,1] J ck (p0 T J [1,0] J)
def wJ.f (g:bw) (cell:Int) (cost:Int):Option (Int×bw):=(if cell<0 then(some true) else(some (decide (cell≥(List.length g.m.C:Int))))).bind λx1=>if x1=true then(some (7,g)) else(if((decide (cost<1))||(decide (cost>255)))=true then(some (8,g)) else(if(0<=cell/\cell<(List.length g.m.C:Int)) then((gG.f g.m.W g.m.H cell).bind λv3=>if(0<=v3/\v3<(List.length g.pC:Int)) then(some (0,(bw.mk (aJ.mk g.m.W g.m.H (List.set g.m.C (Int.toNat cell) (bQ cost))) (aa (g.bK+1)) (List.set g.pC (Int.toNat v3) (aa (g.bK+1)))))) else none) else none))
def wJ.R (ZR:Nat) (r:(Int×bw)) (u:Value) (G:List Hp):Prop:= ∃(H0:Hp),iE r.2 ZR H0/\u=(ii r.1)/\G=[H0]
theorem wJ.c (H:wJ.f g cell cost=some r) (fB:iE g eY fY):
 QR 155 [(pp eY),(ii cell),(ii cost)] [fY] [] F (wJ.R eY r):=by
 unfold wJ.f at H;refine aB Tryz.func155 J J (λW=>rc T 14 (eD J (mq H [0,1,2] [1,0] (λz2 (x1:Bool)=>(x1=z2,[(10,(bb x1))],[])) J J (λz2 Z1 _=>?_) ?_)))
 ·obtain⟨a3,n3,H3,a4,n4,H4,s3,s4,ck⟩:=(λx=>x) fB;refine bP 0 (congrArg some ck) (fz J (rc T 4 (ad 13 J Z1 (λZ1=>?_) (λZ1=>?_))))
  ·refine ro T 12 (dj [1,1,1] J ck (am _ [0,0] (oi Z1) J J))
  refine ro T 5 (lf T 1 J (ro T 6 (dj [1,1,1] J ck (am _ [0,0] (oi Z1) J J))))
 rintro _ x1 rfl H;refine cb J H (λH=>?_) (λH=>?_)
 ·refine rc T 8 ?_
  cases H;exact p1 T J [1,0] ⟨fY,fB,J,J⟩ J
 refine rc T 5 (go T [3,4,5] 26 [0,1,2] 29 J J J J J J J (ro T 3 (cb J H (λH=>?_) (λH=>?_))))
 ·refine rc T 8 ?_
  cases H;exact p1 T J [1,0] ⟨fY,fB,J,J⟩ J
 refine rc T 4 ?_;obtain⟨a6,n6,H6,a7,n7,H7,s6,s7,rn⟩:=(λx=>x) fB;refine bP 1 (congrArg some rn) (fz J (rc T 5 (lf T 1 J (ro T 3 ?_))));obtain⟨c5,H⟩:=az H;obtain⟨q8,o8,e8⟩:=s6.r.addr c5.1 c5.2;refine ix T J e8 c5 (aX (kK (k:=(Fl.int .u8)) T 2 0 (bQ cost) J J J J J J s6 e8 c5 J J J (λH9 s9=>kg [0,1] [0,1,1] [0,1,1,0] [] [(cl eY 167 [(ii g.m.W),(ii g.m.H),(ll a6 (List.set g.m.C (Int.toNat cell) (bQ cost)) n6),(ii g.bK),(ll a7 g.pC n7)])] J J trivial (by first |rfl |(simp only[ll,List.length_set];rfl)) (ro T 7 (lf T 3 J (ro T 3 (sg T 3 J (ro T 3 (ks [0,1] J (fz J ?_))))))))))
 refine rz [21] mix (bO bN) (λhg pf=>ha T 19 [0,1,2] sz hg pf J (av 3 sz hg pf J (aw T J J J J (aF (j:=3) J J)) (ha T 14 [4,5,6,7] sz hg pf J (av 8 sz hg pf J (aw T J J J J (aF (j:=3) J J)) (ha T 9 [9,10,11,12] sz hg pf J (av 13 sz hg pf J (aw T J J J J (aF (j:=3) J J)) (ha T 4 [14,16,17,18] sz hg pf J (av 19 sz hg pf J (aw T J J J J (aF (j:=3) J J)) (ao 15 (kh [] J ru H (gG.c ·) (λv3 H=>an sz ?_)))))))))));obtain⟨c7,H⟩:=az H;obtain⟨Kn,Ke,pK⟩:=s7.r.addr c7.1 c7.2;refine av 20 sz hg pf J (cn T J J J J J pK c7.1 c7.2) (ao 21 (kK (k:=(Fl.int .i64)) T 2 0 (aa (g.bK+1)) J J J J J J s7 pK c7 J J J (λcB cS=>kg [0,1,46,47,48,50,51,52,53,54,55,56,57,58,59,60,61,62,63,64,65,66] [0,0,0] [0,0,0,0] [(49,(ll a7 (List.set g.pC (Int.toNat v3) (aa (g.bK+1))) n7))] [(cl eY 167 [(ii g.m.W),(ii g.m.H),(ll a6 (List.set g.m.C (Int.toNat cell) (bQ cost)) n6),(ii (aa (g.bK+1))),(ll a7 (List.set g.pC (Int.toNat v3) (aa (g.bK+1))) n7)])] J J ⟨(by first |rfl |(simp only[ll,List.length_set];rfl)),trivial⟩ (by first |rfl |(simp only[ll,List.length_set];rfl)) (an sl (ae (rx T 7 ?_))))))
 cases H;refine gi [3,1,1] J (p1 T J [1,0] ⟨(List.flatten [(cl eY 167 [(ii g.m.W),(ii g.m.H),(ll a6 (List.set g.m.C (Int.toNat cell) (bQ cost)) n6),(ii (aa (g.bK+1))),(ll a7 (List.set g.pC (Int.toNat v3) (aa (g.bK+1))) n7)]),H9,cB]),(show iE (bw.mk (aJ.mk g.m.W g.m.H (List.set g.m.C (Int.toNat cell) (bQ cost))) (aa (g.bK+1)) (List.set g.pC (Int.toNat v3) (aa (g.bK+1)))) eY (List.flatten [(cl eY 167 [(ii g.m.W),(ii g.m.H),(ll a6 (List.set g.m.C (Int.toNat cell) (bQ cost)) n6),(ii (aa (g.bK+1))),(ll a7 (List.set g.pC (Int.toNat v3) (aa (g.bK+1))) n7)]),H9,cB]) from⟨a6,n6,H9,a7,n7,cB,s9,cS,J⟩),J,J⟩ J)
def lR.l0:Nat->bw->Int->(Int×Int)->(Int×Int)->List Int->Int->Option (aJ×Bool)
 |0,_,_,_,_,_,_=>none
 |k7+1,g,bB,v1,v2,x5,x6=>if x6<v2.2 then((tm.f v1.1 v1.2 bB (aa (x6*v2.1))).bind λv8=>if(0<=v8/\v8<=(aa (v8+v2.1))/\(aa (v8+v2.1))<=(List.length g.m.C:Int)) then(if(List.length x5+List.length (aA g.m.C v8 (aa (v8+v2.1)))<=1099511627776) then(lR.l0 k7 g bB v1 v2 (x5++(aA g.m.C v8 (aa (v8+v2.1)))) (aa (x6+1))) else none) else none) else(some ((aJ.mk v2.1 v2.2 x5),true))
def lR.f (g:bw) (bB:Int):Option (aJ×Bool):=(iJ.f g).bind λv1=>(qR.f v1.1 v1.2 bB).bind λv2=>if(v2.1==0)=true then(some ((aJ.mk 0 0 []),false)) else(lR.l0 fuel g bB v1 v2 [] 0)
def lR.R (r:(aJ×Bool)) (u:Value) (G:List Hp):Prop:= ∃(a0:Option Addr) (n0:Nat) (H0:Hp),ak (Fl.int .u8) 5 r.1.C a0 n0 H0/\u=(.tuple #[(.agg #[(ii r.1.W),(ii r.1.H),(ll a0 r.1.C n0)]),(bb r.2)])/\G=[H0]
theorem lR.c (H:lR.f g bB=some r) (fB:iE g eY fY):
 QR 140 [(pp eY),(ii bB)] [fY] [fY] F (lR.R r):=by
 unfold lR.f at H;refine aB Tryz.func140 J J (λW=>rc T 2 (nc T J (λb2=>ro T 6 (k [0] J tI H (iJ.c · fB) (λv1 H=>ro T 12 (k [] J FN H (qR.c ·) (λv2 H=>ro T 14 (cb J H (λH=>?_) (λH=>?_)))))))))
 ·refine rc T 3 (sg T 2 J (ro T 5 ?_))
  cases H;refine bq (pb T J (.cO (j:=2) [(ii 0),(ii 0),nl] J J J J J J J (.tmp J .nil)) [3,0,0] ⟨(_,_),none,0,[],ak.nil,J,J⟩ J J)
 refine rc T 7 (nc T J (λb4=>sg T 3 J (ro T 10 (bq (lq [0,1,4,6,7,8,10,31] [1,0,0] (λ(⟨k7,x5,x6,a6,n6,H6⟩:Nat×List Int×Int×Option Addr×Nat×Hp)=>(lR.l0 k7 g bB v1 v2 x5 x6=some r/\ak (Fl.int .u8) 5 x5 a6 n6 H6,[(32,(ii x6))],[(cl b4 139 [(ii v2.1),(ii v2.2),(ll a6 x5 n6)]),H6])) J J (fuel,[],0,none,0,[]) [1,0,0,0,0] ⟨H,ak.nil⟩ J J ?_)))));rintro k7 ⟨x5,x6,a6,n6,H6⟩ ⟨Z4,s6⟩;rw[lR.l0] at Z4;refine rc T 6 (cd J Z4 (λZ4=>?_) (λZ4=>?_))
 ·refine rc T 18 (k [] J Je Z4 (tm.c ·) (λv8 Z4=>ro T 3 ?_));obtain⟨a8,n8,H8,a9,n9,H9,s8,s9,rp⟩:=(λx=>x) fB;refine bP 1 (congrArg some rp) (fz J (fz J (rz [12,14] mix (bO bN) (λhg pf=>ha T 14 [0] sz hg pf J (av 1 sz hg pf J (aw T J J J J (aF (j:=2) J J)) (ha T 9 [2,3,4,5] sz hg pf J (av 6 sz hg pf J (aw T J J J J (aF (j:=4) J J)) (ha T 4 [7,8,9,10] sz hg pf J ?_))))))));obtain⟨c7,Z4⟩:=az Z4;refine av 11 sz hg pf J (kt T J J J J J J c7 s8.bV) (ao 12 ?_);obtain⟨c8,Z4⟩:=az Z4;refine dR (k:=(Fl.int .u8)) (xs:=x5) T (g:=3) J J J J J J J J J J s6 (mQ (oO s8 5) c7 s8.bV) c8 J (λcy n10 bX bS=>an sl (hb T 13 sl hg pf J (ao 14 (sf T 2 J (an sl (ae (rx T 7 (dj [4,4,4] J rp (ar (_,_,_,_,_) [0,3,0,0,0] ⟨Z4,bS⟩ J J)))))))))
 refine rc T 7 (lm T 3 J (sg T 2 J (ro T 4 ?_)))
 cases Z4;exact pb T J (.cO (j:=2) [(ii v2.1),(ii v2.2),(ll a6 x5 n6)] J J J J J J J (.tmp J .nil)) [4,1,0] ⟨(_,_),a6,n6,H6,s6,J,J⟩ J J
def pO.f (g:bw) (bB:Int):Option Int:=(if bB<0 then(some true) else(some (decide (bB≥(List.length g.pC:Int))))).bind λx1=>if x1=true then(some 0) else(if(0<=bB/\bB<(List.length g.pC:Int)) then(some (rd g.pC bB)) else none)
theorem pO.c (H:pO.f g bB=some r) (fB:iE g eY fY):
 QU 137 [(pp eY),(ii bB)] [fY] F (ii r):=by
 unfold pO.f at H;refine aB Tryz.func137 J J (λW=>rc T 6 (mq H [0,1] [1,0] (λz2 (x1:Bool)=>(x1=z2,[(19,(bb x1))],[])) J J (λz2 Z1 _=>?_) ?_))
 ·obtain⟨a3,n3,H3,a4,n4,H4,s3,s4,ck⟩:=(λx=>x) fB;refine bP 0 (congrArg some ck) (fz J (rc T 8 (ad 11 J Z1 (λZ1=>?_) (λZ1=>?_))))
  ·refine ro T 10 (dj [1,1,1] J ck (am _ [0,0] (oi Z1) J J))
  refine ro T 4 (lf T 1 J (ro T 5 (dj [1,1,1] J ck (am _ [0,0] (oi Z1) J J))))
 rintro _ x1 rfl H;refine cb J H (λH=>?_) (λH=>?_)
 ·refine rc T 7 ?_
  cases H;exact p0 T J [1,0] J
 refine rc T 3 ?_;obtain⟨a6,n6,H6,a7,n7,H7,s6,s7,rn⟩:=(λx=>x) fB;refine bP 1 (congrArg some rn) (fz J (rc T 4 (lf T 1 J (ro T 1 ?_))));obtain⟨c4,H⟩:=az H;obtain⟨q8,o8,e8⟩:=s7.r.addr c4.1 c4.2;refine ix T J e8 c4 (le T 0 (oO s7 3) e8 c4 J J (ro T 4 ?_))
 cases H;refine dj [1,1,1] J rn (p0 T J [1,0] J)
def z7.f:Option aJ:=some (aJ.mk 0 0 [])
def z7.R (r:aJ) (u:Value) (G:List Hp):Prop:= ∃(a0:Option Addr) (n0:Nat) (H0:Hp),ak (Fl.int .u8) 5 r.C a0 n0 H0/\u=(.agg #[(ii r.W),(ii r.H),(ll a0 r.C n0)])/\G=[H0]
theorem z7.c (H:z7.f=some r):
 QR 74 [(.pointer none)] [] [] F (z7.R r):=by
 unfold z7.f at H;refine aB Tryz.func74 J J (λW=>rc T 2 (nc T J (λb1=>ro T 9 (mY J (rc T 3 (sg T 1 J (ro T 4 ?_)))))))
 cases H;refine bq (pb T J (.cO (j:=1) [(ii 0),(ii 0),nl] J J J J J J J .nil) [2,0] ⟨(_,_),none,0,[],ak.nil,J,J⟩ J J)
def wK.f (g:bw):Option aJ:=(nL.f g.m.C).bind λv1=>some (aJ.mk g.m.W g.m.H v1)
def wK.R (r:aJ) (u:Value) (G:List Hp):Prop:= ∃(a0:Option Addr) (n0:Nat) (H0:Hp),ak (Fl.int .u8) 5 r.C a0 n0 H0/\u=(.agg #[(ii r.W),(ii r.H),(ll a0 r.C n0)])/\G=[H0]
theorem wK.c (H:wK.f g=some r) (fB:iE g eY fY):
 QR 74 [(pp eY)] [fY] [fY] F (wK.R r):=by
 unfold wK.f at H;refine aB Tryz.func74 J J (λW=>rc T 2 (nc T J (λb2=>ro T 9 (eD J (rc T 3 ?_)))));obtain⟨a4,n4,H4,a5,n5,H5,s4,s5,dp⟩:=(λx=>x) fB;refine bP 0 (congrArg some dp) (fz J (ks [0,2] J (fz J (rg [17] [0,0,0,0,0] mix (bO bN) (λhg pf=>ha T 14 [0,1,2,3] sz hg pf J (av 4 sz hg pf J (aw T J J J J (aF (j:=2) J J)) (ha T 9 [5,6,7,8] sz hg pf J (av 9 sz hg pf J (aw T J J J J (aF (j:=2) J J)) (ha T 4 [10,11,12,13] sz hg pf J (av 14 sz hg pf J (aw T J J J J (aF (j:=2) J J)) (ao 15 (kR nL.R [] [] J MJ H (nL.c · (oO s4 3) s4.bV) (λv1 H=>?_)))))))))))));rintro _ _ ⟨a6,n6,H6,s6,rfl,rfl⟩;refine fz J (an (so [0,0,0,0,0]) (ha T 1 [16] (so [0,0,0,0,0]) hg pf J (ao 17 (sf T 1 J (an sl (ae (rx T 1 (rc T 1 ?_))))))))
 cases H;refine dj [2,2,2] J dp (pb T J (.cO (j:=1) [(ii g.m.W),(ii g.m.H),(ll a6 v1 n6)] J J J J J J J .nil) [2,2,0] ⟨(_,_),a6,n6,H6,s6,J,J⟩ J J)
end
noncomputable section
def yg.f:Option (List Int):=some [0,1,2,3]
theorem yg.c (H:yg.f=some r):
 QU 205 [] [] F (.agg #[(ii (rd r 0)),(ii (rd r 1)),(ii (rd r 2)),(ii (rd r 3))]):=by
 unfold yg.f at H;refine aB Tryz.func205 J J (λW=>rc T 2 (nc T J (λb1=>ro T 4 (br J (I0 T J J J J J J) (sg T 1 J (ro T 3 ?_))))))
 cases H;exact pb T J (.cO (j:=1) [(ii 0),(ii 1),(ii 2),(ii 3)] J J J J J J J .nil) [0] () J J
def ff.l3:Nat->Int->Int->List Int->Int->Option (List Int)
 |0,_,_,_,_=>none
 |JR+1,tw,th,dQ,dy=>if dy<th then(if(List.length dQ+1<=1099511627776) then(ff.l3 JR tw th (dQ++[(aa (0+(aa (dy*tw))))]) (aa (dy+1))) else none) else(some dQ)
def ff.l2:Nat->Int->Int->List Int->Int->Option (List Int)
 |0,_,_,_,_=>none
 |lE+1,tw,th,aU,bd=>if bd<th then(if(List.length aU+1<=1099511627776) then(ff.l2 lE tw th (aU++[(aa ((aa (tw-1))+(aa (bd*tw))))]) (aa (bd+1))) else none) else(some aU)
def ff.l1:Nat->Int->List Int->Int->Option (List Int)
 |0,_,_,_=>none
 |wS+1,tw,x8,x9=>if x9<tw then(if(List.length x8+1<=1099511627776) then(ff.l1 wS tw (x8++[(aa (0+x9))]) (aa (x9+1))) else none) else(some x8)
def ff.l0:Nat->Int->Int->List Int->Int->Option (List Int)
 |0,_,_,_,_=>none
 |k5+1,tw,th,x3,x4=>if x4<tw then(if(List.length x3+1<=1099511627776) then(ff.l0 k5 tw th (x3++[(aa ((aa ((aa (th-1))*tw))+x4))]) (aa (x4+1))) else none) else(some x3)
def ff.f (tw:Int) (th:Int) (side:Int):Option (List Int):=if(side==2)=true then(ff.l0 fuel tw th [] 0) else(if(side==0)=true then(ff.l1 fuel tw [] 0) else(if(side==1)=true then(ff.l2 fuel tw th [] 0) else(if(side==3)=true then(ff.l3 fuel tw th [] 0) else(some []))))
def ff.R (r:(List Int)) (u:Value) (G:List Hp):Prop:= ∃(a0:Option Addr) (n0:Nat) (H0:Hp),ak (Fl.int .i64) 3 r a0 n0 H0/\u=(ll a0 r n0)/\G=[H0]
theorem ff.c (H:ff.f tw th side=some r):
 QR 233 [(ii tw),(ii th),(ii side)] [] [] F (ff.R r):=by
 unfold ff.f at H;refine aB Tryz.func233 J J (λW=>rc T 38 (cb J H (λH=>?_) (λH=>?_)))
 ·refine rc T 22 (bq (lq [8,24] [0] (λ(⟨k5,x3,x4,a2,n2,H2⟩:Nat×List Int×Int×Option Addr×Nat×Hp)=>(ff.l0 k5 tw th x3 x4=some r/\ak (Fl.int .i64) 3 x3 a2 n2 H2,[(7,(ll a2 x3 n2)),(25,(ii x4))],[H2])) J J (fuel,[],0,none,0,[]) [0,0] ⟨H,ak.nil⟩ J J ?_));rintro k5 ⟨x3,x4,a2,n2,H2⟩ ⟨Z2,s2⟩;rw[ff.l0] at Z2;refine rc T 6 (cd J Z2 (λZ2=>?_) (λZ2=>?_))
  ·refine rc T 15 (aX (cV (k:=(Fl.int .i64)) T [(aa ((aa ((aa (th-1))*tw))+x4))] J J J J J J J J J (λa3 H3 s3=>?_)));obtain⟨c4,Z2⟩:=az Z2;refine aX (dR (k:=(Fl.int .i64)) (xs:=x3) T (g:=1) J J J J J J J J J J s2 (oO s3 2) c4 J (λa4 n4 H4 s4=>ro T 9 (ar (_,_,_,_,_) [0,0] ⟨Z2,s4⟩ J J)))
  refine rc T 19 ?_
  cases Z2;exact p1 T J [1,0] ⟨a2,n2,H2,s2,J,J⟩ J
 refine rc T 9 (cb J H (λH=>?_) (λH=>?_))
 ·refine rc T 15 (bq (lq [8,24] [0] (λ(⟨wS,x8,x9,a6,n6,H6⟩:Nat×List Int×Int×Option Addr×Nat×Hp)=>(ff.l1 wS tw x8 x9=some r/\ak (Fl.int .i64) 3 x8 a6 n6 H6,[(7,(ll a6 x8 n6)),(25,(ii x9))],[H6])) J J (fuel,[],0,none,0,[]) [0,0] ⟨H,ak.nil⟩ J J ?_));rintro wS ⟨x8,x9,a6,n6,H6⟩ ⟨Z6,s6⟩;rw[ff.l1] at Z6;refine rc T 6 (cd J Z6 (λZ6=>?_) (λZ6=>?_))
  ·refine rc T 15 (aX (cV (k:=(Fl.int .i64)) T [(aa (0+x9))] J J J J J J J J J (λa7 H7 s7=>?_)));obtain⟨c8,Z6⟩:=az Z6;refine aX (dR (k:=(Fl.int .i64)) (xs:=x8) T (g:=1) J J J J J J J J J J s6 (oO s7 2) c8 J (λa8 n8 H8 s8=>ro T 9 (ar (_,_,_,_,_) [0,0] ⟨Z6,s8⟩ J J)))
  refine rc T 19 ?_
  cases Z6;exact p1 T J [1,0] ⟨a6,n6,H6,s6,J,J⟩ J
 refine rc T 9 (cb J H (λH=>?_) (λH=>?_))
 ·refine rc T 24 (bq (lq [0,8,37] [0] (λ(⟨lE,aU,bd,cy,n10,bX⟩:Nat×List Int×Int×Option Addr×Nat×Hp)=>(ff.l2 lE tw th aU bd=some r/\ak (Fl.int .i64) 3 aU cy n10 bX,[(7,(ll cy aU n10)),(38,(ii bd))],[bX])) J J (fuel,[],0,none,0,[]) [0,0] ⟨H,ak.nil⟩ J J ?_));rintro lE ⟨aU,bd,cy,n10,bX⟩ ⟨lK,bS⟩;rw[ff.l2] at lK;refine rc T 6 (cd J lK (λlK=>?_) (λlK=>?_))
  ·refine rc T 17 (aX (cV (k:=(Fl.int .i64)) T [(aa ((aa (tw-1))+(aa (bd*tw))))] J J J J J J J J J (λdu cB cS=>?_)));obtain⟨gY,lK⟩:=az lK;refine aX (dR (k:=(Fl.int .i64)) (xs:=aU) T (g:=1) J J J J J J J J J J bS (oO cS 2) gY J (λa12 n12 dt dw=>ro T 9 (ar (_,_,_,_,_) [0,0] ⟨lK,dw⟩ J J)))
  refine rc T 15 ?_
  cases lK;exact p1 T J [1,0] ⟨cy,n10,bX,bS,J,J⟩ J
 refine rc T 8 (cb J H (λH=>?_) (λH=>?_))
 ·refine rc T 18 (bq (lq [0,8,37] [0] (λ(⟨JR,dQ,dy,iG,n14,fG⟩:Nat×List Int×Int×Option Addr×Nat×Hp)=>(ff.l3 JR tw th dQ dy=some r/\ak (Fl.int .i64) 3 dQ iG n14 fG,[(7,(ll iG dQ n14)),(38,(ii dy))],[fG])) J J (fuel,[],0,none,0,[]) [0,0] ⟨H,ak.nil⟩ J J ?_));rintro JR ⟨dQ,dy,iG,n14,fG⟩ ⟨cj,fp⟩;rw[ff.l3] at cj;refine rc T 6 (cd J cj (λcj=>?_) (λcj=>?_))
  ·refine rc T 17 (aX (cV (k:=(Fl.int .i64)) T [(aa (0+(aa (dy*tw))))] J J J J J J J J J (λjV dJ dP=>?_)));obtain⟨pH,cj⟩:=az cj;refine aX (dR (k:=(Fl.int .i64)) (xs:=dQ) T (g:=1) J J J J J J J J J J fp (oO dP 2) pH J (λjW n16 fX fR=>ro T 9 (ar (_,_,_,_,_) [0,0] ⟨cj,fR⟩ J J)))
  refine rc T 15 ?_
  cases cj;exact p1 T J [1,0] ⟨iG,n14,fG,fp,J,J⟩ J
 refine rc T 20 ?_
 cases H;refine bq (p1 T J [1,0] ⟨none,0,[],ak.nil,J,J⟩ J)
def yf.f (w:Int) (h:Int) (cell:Int) (side:Int):Option Int:=(l8.f w h cell side).bind λv1=>(if v1<0 then(some true) else((gG.f w h v1).bind λv4=>(gG.f w h cell).bind λv5=>some (v4==v5))).bind λx2=>if x2=true then(some (-1)) else(some v1)
theorem yf.c (H:yf.f w h cell side=some r):
 QU 206 [(ii w),(ii h),(ii cell),(ii side)] [] F (ii r):=by
 unfold yf.f at H;refine aB Tryz.func206 J J (λW=>rc T 11 (k [] J Ab H (l8.c ·) (λv1 H=>ro T 4 (mq H [9] [0] (λz3 (x2:Bool)=>(x2=z3,[(27,(bb x2))],[])) J J (λz3 Z2 _=>?_) ?_))))
 ·refine rc T 4 (ad 17 J Z2 (λZ2=>?_) (λZ2=>?_))
  ·refine ro T 12 (am _ [0] (oi Z2) J J)
  refine ro T 3 (k [] J ru Z2 (gG.c ·) (λv4 Z2=>ro T 3 (k [] J ru Z2 (gG.c ·) (λv5 Z2=>ro T 4 (am _ [0] (oi Z2) J J)))))
 rintro _ x2 rfl H;refine cb J H (λH=>?_) (λH=>?_)
 ·refine rc T 7 ?_
  cases H;exact p0 T J [0] J
 refine rc T 9 ?_
 cases H;exact p0 T J [0] J
def gB.l2:Nat->Int->Int->Int->List Bool->List Int->Int->Option (List Int)
 |0,_,_,_,_,_,_=>none
 |pd+1,w,h,bB,x5,bU,dz=>if dz<(List.length x5:Int) then(if(0<=dz/\dz<(List.length x5:Int)) then(if(rd x5 dz)=true then((tm.f w h bB dz).bind λv25=>if(List.length bU+1<=1099511627776) then(gB.l2 pd w h bB x5 (bU++[v25]) (aa (dz+1))) else none) else(gB.l2 pd w h bB x5 bU (aa (dz+1)))) else none) else(some bU)
def gB.l1:Nat->(List Int)->List Bool->Int->Option (List Bool)
 |0,_,_,_=>none
 |JQ+1,v10,c_,dQ=>if dQ<(List.length v10:Int) then(if(0<=dQ/\dQ<(List.length v10:Int)) then(if(0<=(rd v10 dQ)/\(rd v10 dQ)<(List.length c_:Int)) then(gB.l1 JQ v10 (List.set c_ (Int.toNat (rd v10 dQ)) true) (aa (dQ+1))) else none) else none) else(some c_)
def gB.l0:Nat->Int->Int->Int->(Int×Int)->(List Int)->List Bool->Int->Option (List Int)
 |0,_,_,_,_,_,_,_=>none
 |k7+1,w,h,bB,v1,v2,x5,x6=>if x6<4 then((if(0<=x6/\x6<(List.length [(rd v2 0),(rd v2 1),(rd v2 2),(rd v2 3)]:Int)) then((ff.f v1.1 v1.2 (rd [(rd v2 0),(rd v2 1),(rd v2 2),(rd v2 3)] x6)).bind λv10=>(if((List.length v10:Int)==0)=true then(some true) else(if(0<=(0:Int)/\(0:Int)<(List.length v10:Int)) then((tm.f w h bB (rd v10 0)).bind λfv=>(yf.f w h fv (rd [(rd v2 0),(rd v2 1),(rd v2 2),(rd v2 3)] x6)).bind λbY=>some (decide (bY<0))) else none)).bind λbg=>if bg=true then(some x5) else(gB.l1 fuel v10 x5 0)) else none).bind λx8=>gB.l0 k7 w h bB v1 v2 x8 (aa (x6+1))) else(gB.l2 fuel w h bB x5 [] 0)
def gB.f (w:Int) (h:Int) (bB:Int):Option (List Int):=(qR.f w h bB).bind λv1=>if(0<=(aa (v1.1*v1.2))/\(aa (v1.1*v1.2))<=1099511627776) then((yg.f).bind λv2=>gB.l0 fuel w h bB v1 v2 (List.replicate (Int.toNat (aa (v1.1*v1.2))) false) 0) else none
def gB.R (r:(List Int)) (u:Value) (G:List Hp):Prop:= ∃(a0:Option Addr) (n0:Nat) (H0:Hp),ak (Fl.int .i64) 3 r a0 n0 H0/\u=(ll a0 r n0)/\G=[H0]
theorem gB.c (H:gB.f w h bB=some r):
 QR 203 [(ii w),(ii h),(ii bB)] [] [] F (gB.R r):=by
 unfold gB.f at H;refine aB Tryz.func203 J J (λW=>rc T 10 (k [] J FN H (qR.c ·) (λv1 H=>ro T 12 ?_)));obtain⟨c2,H⟩:=az H;refine aX (x_ (k:=Fl.bool) T false J J J J J J J J c2 J (λa1 n1 H1 s1=>ro T 6 (k [] J SB H (yg.c ·) (λv2 H=>ro T 4 (lq [0,1,2,7,8,29] [0] (λ(⟨k7,x5,x6,a3,n3,H3⟩:Nat×List Bool×Int×Option Addr×Nat×Hp)=>(gB.l0 k7 w h bB v1 v2 x5 x6=some r/\ak Fl.bool 4 x5 a3 n3 H3,[(9,(ll a3 x5 n3)),(30,(ii x6))],[H3])) J J (fuel,(List.replicate (Int.toNat (aa (v1.1*v1.2))) false),0,a1,n1,H1) [0,0] ⟨H,s1⟩ J J ?_)))));rintro k7 ⟨x5,x6,a3,n3,H3⟩ ⟨Z4,s3⟩;rw[gB.l0] at Z4;refine rc T 6 (cd J Z4 (λZ4=>?_) (λZ4=>?_))
 ·refine rc T 2 (mq Z4 [0,1,2,7,8,29,30] [0] (λz9 (⟨x8,a4,n4,H4⟩:List Bool×Option Addr×Nat×Hp)=>(x8=z9/\ak Fl.bool 4 x8 a4 n4 H4,[(9,(ll a4 x8 n4))],[H4])) J J (λz9 Z6 _=>?_) ?_)
  ·refine rc T 3 ?_;obtain⟨c7,Z6⟩:=az Z6;refine br J (Rs T (Fl.int .i64) [(rd v2 0),(rd v2 1),(rd v2 2),(rd v2 3)] J J J J J J J J J c7 J) (ro T 8 (kr ff.R [] [] J acM Z6 (ff.c ·) (λv10 Z6=>?_)));rintro _ _ ⟨a5,n5,H5,s5,rfl,rfl⟩;refine fz J (ro T 4 (mq Z6 [0,1,2,7,8,9,12,29,30] [0,0,0] (λz12 (bg:Bool)=>(bg=z12,[(53,(bb bg))],[])) J J (λz12 Z9 _=>?_) ?_))
   ·refine rc T 5 (ab 40 J Z9 (λZ9=>?_) (λZ9=>?_))
    ·refine ro T 15 (am _ [0,0,0] (oi Z9) J J)
    refine ro T 6 ?_;obtain⟨eh,Z9⟩:=az Z9;obtain⟨q6,o6,e6⟩:=s5.r.addr eh.1 eh.2;refine ix T J e6 eh (le T 0 (oO s5 2) e6 eh J J (k [] J Je Z9 (tm.c ·) (λfv Z9=>ro T 1 (k [] J SC Z9 (yf.c ·) (λbY Z9=>ro T 4 (am _ [0,0,0] (oi Z9) J J))))))
   rintro _ bg rfl Z6;refine cb J Z6 (λZ6=>?_) (λZ6=>?_)
   ·refine rc T 4 (am (_,_,_,_) [0,0] ⟨oi Z6,s3⟩ J J)
   refine rc T 10 (lq [0,1,2,7,8,29,30,54,55] [0,1] (λ(⟨JQ,c_,dQ,a8,n8,H8⟩:Nat×List Bool×Int×Option Addr×Nat×Hp)=>(gB.l1 JQ v10 c_ dQ=some z9/\ak Fl.bool 4 c_ a8 n8 H8,[(9,(ll a8 c_ n8)),(56,(ii dQ))],[H8])) J J (fuel,x5,0,a3,n3,H3) [0,1,0] ⟨Z6,s3⟩ J J ?_);rintro JQ ⟨c_,dQ,a8,n8,H8⟩ ⟨cQ,s8⟩;rw[gB.l1] at cQ;refine rc T 6 (cd J cQ (λcQ=>?_) (λcQ=>?_))
   ·refine rc T 6 ?_;obtain⟨lz,cQ⟩:=az cQ;obtain⟨q9,o9,e9⟩:=s5.r.addr lz.1 lz.2;refine ix T J e9 lz (le T 0 (oO s5 1) e9 lz J J (ro T 6 ?_));obtain⟨lA,cQ⟩:=az cQ;obtain⟨Kn,Ke,pK⟩:=s8.r.addr lA.1 lA.2;refine ix T J pK lA (aX (kK (k:=Fl.bool) T 2 0 true J J J J J J s8 pK lA J J J (λcB cS=>kf [0,1,2,7,8,29,30,54,55,56] [0,0,0] [(9,(ll a8 (List.set c_ (Int.toNat (rd v10 dQ)) true) n8))] J J ⟨(by first |rfl |(simp only[ll,List.length_set];rfl)),trivial⟩ (ro T 8 ?_))))
    exact ar (_,_,_,_,_) [0,0,0] ⟨cQ,cS⟩ J J
   refine rc T 6 (am (_,_,_,_) [0,1] ⟨oi cQ,s8⟩ J J)
  rintro _ ⟨x8,a4,n4,H4⟩ ⟨rfl,s4⟩ Z4;refine rc T 5 (ar (_,_,_,_,_) [0,0] ⟨Z4,s4⟩ J J)
 refine rc T 19 (bq (lq [0,1,2,65,66] [0,0] (λ(⟨pd,bU,dz,dD,n13,ei⟩:Nat×List Int×Int×Option Addr×Nat×Hp)=>(gB.l2 pd w h bB x5 bU dz=some r/\ak (Fl.int .i64) 3 bU dD n13 ei,[(15,(ll dD bU n13)),(67,(ii dz))],[ei])) J J (fuel,[],0,none,0,[]) [0,0,0] ⟨Z4,ak.nil⟩ J J ?_));rintro pd ⟨bU,dz,dD,n13,ei⟩ ⟨eQ,cz⟩;rw[gB.l2] at eQ;refine rc T 6 (cd J eQ (λeQ=>?_) (λeQ=>?_))
 ·refine rc T 7 ?_;obtain⟨lN,eQ⟩:=az eQ;obtain⟨q14,o14,BG⟩:=s3.r.addr lN.1 lN.2;refine ix T J BG lN (le T 0 (oO s3 1) BG lN J J (ro T 9 (cb J eQ (λeQ=>?_) (λeQ=>?_))))
  ·refine rc T 6 (k [] J Je eQ (tm.c ·) (λv25 eQ=>aX (cV (k:=(Fl.int .i64)) T [v25] J J J J J J J J J (λjV dJ dP=>?_))));obtain⟨LK,eQ⟩:=az eQ;refine aX (dR (k:=(Fl.int .i64)) (xs:=bU) T (g:=2) J J J J J J J J J J cz (oO dP 3) LK J (λjW n16 fX fR=>ro T 9 (ar (_,_,_,_,_) [0,0,0] ⟨eQ,fR⟩ J J)))
  refine rc T 8 (ar (_,_,_,_,_) [0,0,0] ⟨eQ,cz⟩ J J)
 refine rc T 12 ?_
 cases eQ;exact p1 T J [2,0] ⟨dD,n13,ei,cz,J,J⟩ J
def tx.f (g:bw) (cell:Int):Option Bool:=(jf.f g cell).bind λv1=>some ((decide (v1>0))&&(decide (v1<255)))
theorem tx.c (H:tx.f g cell=some r) (fB:iE g eY fY):
 QU 204 [(pp eY),(ii cell)] [fY] F (bb r):=by
 unfold tx.f at H;refine aB Tryz.func204 J J (λW=>rc T 9 (k [0] J uZ H (jf.c · fB) (λv1 H=>ro T 8 (ga T [3,4,5] 11 [] 14 J J J J J J J (ro T 4 ?_)))))
 cases H;exact p0 T J [0,0] J
def jY.l0:Nat->bw->(List Int)->List Int->Int->Option (List Int)
 |0,_,_,_,_=>none
 |k7+1,g,v2,x5,x6=>if x6<(List.length v2:Int) then(if(0<=x6/\x6<(List.length v2:Int)) then((tx.f g (rd v2 x6)).bind λv8=>if v8=true then(if(List.length x5+1<=1099511627776) then(jY.l0 k7 g v2 (x5++[(rd v2 x6)]) (aa (x6+1))) else none) else(jY.l0 k7 g v2 x5 (aa (x6+1)))) else none) else(some x5)
def jY.f (g:bw) (bB:Int):Option (List Int):=(iJ.f g).bind λv1=>(gB.f v1.1 v1.2 bB).bind λv2=>jY.l0 fuel g v2 [] 0
def jY.R (r:(List Int)) (u:Value) (G:List Hp):Prop:= ∃(a0:Option Addr) (n0:Nat) (H0:Hp),ak (Fl.int .i64) 3 r a0 n0 H0/\u=(ll a0 r n0)/\G=[H0]
theorem jY.c (H:jY.f g bB=some r) (fB:iE g eY fY):
 QR 175 [(pp eY),(ii bB)] [fY] [fY] F (jY.R r):=by
 unfold jY.f at H;refine aB Tryz.func175 J J (λW=>rc T 8 (k [0] J tI H (iJ.c · fB) (λv1 H=>ro T 18 (kr gB.R [] [] J acv H (gB.c ·) (λv2 H=>?_)))));rintro _ _ ⟨a2,n2,H2,s2,rfl,rfl⟩;refine fz J (ro T 5 (bq (lq [0,18,19] [1,0,0] (λ(⟨k7,x5,x6,a4,n4,H4⟩:Nat×List Int×Int×Option Addr×Nat×Hp)=>(jY.l0 k7 g v2 x5 x6=some r/\ak (Fl.int .i64) 3 x5 a4 n4 H4,[(7,(ll a4 x5 n4)),(20,(ii x6))],[H4])) J J (fuel,[],0,none,0,[]) [1,0,0,0] ⟨H,ak.nil⟩ J J ?_)));rintro k7 ⟨x5,x6,a4,n4,H4⟩ ⟨Z3,s4⟩;rw[jY.l0] at Z3;refine rc T 6 (cd J Z3 (λZ3=>?_) (λZ3=>?_))
 ·refine rc T 6 ?_;obtain⟨c5,Z3⟩:=az Z3;obtain⟨q5,o5,e5⟩:=s2.r.addr c5.1 c5.2;refine ix T J e5 c5 (le T 0 (oO s2 2) e5 c5 J J (ro T 7 (k [1] J MS Z3 (tx.c · fB) (λv8 Z3=>ro T 2 (cb J Z3 (λZ3=>?_) (λZ3=>?_))))))
  ·refine rc T 3 (aX (cV (k:=(Fl.int .i64)) T [(rd v2 x6)] J J J J J J J J J (λa6 H6 s6=>?_)));obtain⟨c8,Z3⟩:=az Z3;refine aX (dR (k:=(Fl.int .i64)) (xs:=x5) T (g:=3) J J J J J J J J J J s4 (oO s6 4) c8 J (λa7 n7 H7 s7=>ro T 9 (ar (_,_,_,_,_) [0,0,0,0] ⟨Z3,s7⟩ J J)))
  refine rc T 8 (ar (_,_,_,_,_) [0,0,0,0] ⟨Z3,s4⟩ J J)
 refine rc T 12 ?_
 cases Z3;exact p1 T J [3,1,0] ⟨a4,n4,H4,s4,J,J⟩ J
def na.l0:Nat->bw->Int->(Int×Int)->(List Int)->List dU->Int->Option (List dU)
 |0,_,_,_,_,_,_=>none
 |k8+1,g,cell,v1,v3,x6,x7=>if x7<4 then(if(0<=x7/\x7<(List.length [(rd v3 0),(rd v3 1),(rd v3 2),(rd v3 3)]:Int)) then((yf.f v1.1 v1.2 cell (rd [(rd v3 0),(rd v3 1),(rd v3 2),(rd v3 3)] x7)).bind λv9=>(if v9≥0 then((tx.f g v9).bind λv12=>some v12) else(some false)).bind λaN=>if aN=true then((jf.f g v9).bind λfv=>if(List.length x6+1<=1099511627776) then(na.l0 k8 g cell v1 v3 (x6++[(dU.mk v9 fv)]) (aa (x7+1))) else none) else(na.l0 k8 g cell v1 v3 x6 (aa (x7+1)))) else none) else(some x6)
def na.f (g:bw) (cell:Int):Option (List dU):=(iJ.f g).bind λv1=>(tx.f g cell).bind λv2=>if(!v2)=true then(some []) else((yg.f).bind λv3=>na.l0 fuel g cell v1 v3 [] 0)
def na.R (r:(List dU)) (u:Value) (G:List Hp):Prop:= ∃(a0:Option Addr) (n0:Nat) (H0:Hp),ak pe 283 r a0 n0 H0/\u=(ll a0 r n0)/\G=[H0]
theorem na.c (H:na.f g cell=some r) (fB:iE g eY fY):
 QR 176 [(pp eY),(ii cell)] [fY] [fY] F (na.R r):=by
 unfold na.f at H;refine aB Tryz.func176 J J (λW=>rc T 8 (k [0] J tI H (iJ.c · fB) (λv1 H=>ro T 12 (k [0] J MS H (tx.c · fB) (λv2 H=>ro T 3 (cb J H (λH=>?_) (λH=>?_)))))))
 ·refine rc T 7 ?_
  cases H;refine bq (p1 T J [2,0,0] ⟨none,0,[],ak.nil,J,J⟩ J)
 refine rc T 10 (k [] J SB H (yg.c ·) (λv3 H=>ro T 4 (bq (lq [0,1,5,6,20] [1,0] (λ(⟨k8,x6,x7,a4,n4,H4⟩:Nat×List dU×Int×Option Addr×Nat×Hp)=>(na.l0 k8 g cell v1 v3 x6 x7=some r/\ak pe 283 x6 a4 n4 H4,[(7,(ll a4 x6 n4)),(21,(ii x7))],[H4])) J J (fuel,[],0,none,0,[]) [1,0,0] ⟨H,ak.nil⟩ J J ?_))));rintro k8 ⟨x6,x7,a4,n4,H4⟩ ⟨Z5,s4⟩;rw[na.l0] at Z5;refine rc T 6 (cd J Z5 (λZ5=>?_) (λZ5=>?_))
 ·refine rc T 6 ?_;obtain⟨c7,Z5⟩:=az Z5;refine br J (Rs T (Fl.int .i64) [(rd v3 0),(rd v3 1),(rd v3 2),(rd v3 3)] J J J J J J J J J c7 J) (ro T 9 (k [] J SC Z5 (yf.c ·) (λv9 Z5=>ro T 3 (mq Z5 [0,1,5,6,7,10,20,21] [0,0,0] (λiZ (aN:Bool)=>(aN=iZ,[(35,(bb aN))],[])) J J (λiZ Z9 _=>?_) ?_))))
  ·refine rc T 4 (ad 31 J Z9 (λZ9=>?_) (λZ9=>?_))
   ·refine ro T 2 (k [1] J MS Z9 (tx.c · fB) (λv12 Z9=>ro T 3 (am _ [0,0,0] (oi Z9) J J)))
   refine ro T 6 (am _ [0,0,0] (oi Z9) J J)
  rintro _ aN rfl Z5;refine cb J Z5 (λZ5=>?_) (λZ5=>?_)
  ·refine rc T 5 (k [1] J uZ Z5 (jf.c · fB) (λfv Z5=>ro T 1 (aX (cV (k:=pe) T [(dU.mk v9 fv)] J J J J J J J J J (λa5 H5 s5=>?_)))));obtain⟨oL,Z5⟩:=az Z5;refine aX (dR (k:=pe) (xs:=x6) T (g:=2) J J J J J J J J J J s4 (oO s5 3) oL J (λa6 n6 H6 s6=>ro T 9 (ar (_,_,_,_,_) [0,0,0] ⟨Z5,s6⟩ J J)))
  refine rc T 8 (ar (_,_,_,_,_) [0,0,0] ⟨Z5,s4⟩ J J)
 refine rc T 12 ?_
 cases Z5;exact p1 T J [2,1,0] ⟨a4,n4,H4,s4,J,J⟩ J
end
end Go.Proofs.YthodkonhneebbaaGreatDoor
