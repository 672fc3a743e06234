/- What the functions of some packages compute, each as a function of plain Lean, with its contract. No condition. -/
import Derived.Test.YthodkonhneebbaaGreatDoorKST
import Derived.Test.YthodkonhneebbaaGreatDoorKS6
import Derived.Test.YthodkonhneebbaaGreatDoorKS5
namespace Go.Proofs.YthodkonhneebbaaGreatDoor
open Go.Hx
open Int renaming tmod->fC,tdiv->di,toNat->ax
open List renaming length->aa,set->aD,replicate->cy,flatten_cons->vQ,flatten_append->vP,flatten_nil->vR,append_nil->tv,append_assoc->uR
set_option maxRecDepth 100000
set_option linter.unusedSimpArgs false
set_option linter.unusedVariables false
set_option maxHeartbeats 4000000
set_option autoImplicit true
set_option relaxedAutoImplicit true
noncomputable section
def Aq.f (most:Int):Option (Option fN):=if((decide (most<1))||(decide (most>65536)))=true then(some none) else(some (some (fN.mk most 0 ([]:(List (Int×bD))) [])))
def Aq.R (r:(Option fN)):bj:=λu G=> ∃(u0:Value) (G0:List Hp),Ye r u0 G0/\u=u0/\G=G0
theorem Aq.c (H:Aq.f most=some r):
 QR 152 [(ii most)] [] [] F (Aq.R r):=by
 unfold Aq.f at H;refine aF Tryz.func152 J J (λW=>rc T 11 (go T [3,4,5] 5 [0] 8 J J J J J J J (ro T 2 (cb J H (λH=>?_) (λH=>?_)))))
 ·refine rc T 7 ?_
  cases H;exact p1 T J [0] ⟨_,_,⟨J,J⟩,J,J⟩ J
 refine rc T 5 (aV (vW T (Ky.int .i64 u3) (λx:bD=>Value.agg #[.int .i64 x.Id,.int .i64 x.Cell,.int .i64 x.Goal]) J J J trivial (λa1 H1 s1=>ro T 1 (nc T J (λb2=>ro T 4 ?_)))))
 cases H;refine bz (p1 T J [2,1,1,0] ⟨_,_,⟨b2,a1,H1,none,0,[],s1,aj.nil,J,J⟩,J,J⟩ J)
def yV.f (u:fN):Option Int:=some (aa u.live:Int)
theorem yV.c (H:yV.f u=some r) (jR:db (Ky.int .i64 u3) (λx:bD=>Value.agg #[.int .i64 x.Id,.int .i64 x.Cell,.int .i64 x.Goal]) u.live jc kI) (kC:aj (Fl.int .i64) 3 u.order jH jO jE):
 QU 158 [(pp e_)] [(cl e_ 178 [(ii u.most),(ii u.next),(.map (some jc)),(ll jH u.order jO)]),kI,jE] F (ii r):=by
 unfold yV.f at H;refine aF Tryz.func158 J J (λW=>rc T 12 (eN J (rc T 7 (lf T 0 J (bA J (MY T (Ky.int .i64 u3) (λx:bD=>Value.agg #[.int .i64 x.Id,.int .i64 x.Cell,.int .i64 x.Goal]) J J J (o_ jR (j:=1) J)) (ro T 4 ?_))))))
 cases H;exact p0 T J [0,0,0,0] J
def yS.f (u:fN) (cell:Int) (goal:Int):Option (Int×Bool×fN):=if(aa u.live:Int)≥u.most then(some (0,false,u)) else(if(aa u.order+1<=1099511627776) then(some (u.next,true,(fN.mk u.most (af (u.next+1)) (cQ u.live u.next (bD.mk u.next cell goal)) (u.order++[u.next])))) else none)
def yS.R (e_:Nat) (r:(Int×Bool×fN)):bj:=λu G=> ∃(a0:Nat) (H0:Hp) (a1 n1 H1:_),db (Ky.int .i64 u3) (λx:bD=>Value.agg #[.int .i64 x.Id,.int .i64 x.Cell,.int .i64 x.Goal]) r.2.2.live a0 H0/\aj (Fl.int .i64) 3 r.2.2.order a1 n1 H1/\u=(.tuple #[(ii r.1),(bb r.2.1)])/\G=[(cl e_ 178 [(ii r.2.2.most),(ii r.2.2.next),(.map (some a0)),(ll a1 r.2.2.order n1)]),H0,H1]
theorem yS.c (H:yS.f u cell goal=some r) (jR:db (Ky.int .i64 u3) (λx:bD=>Value.agg #[.int .i64 x.Id,.int .i64 x.Cell,.int .i64 x.Goal]) u.live jc kI) (kC:aj (Fl.int .i64) 3 u.order jH jO jE):
 QR 156 [(pp e_),(ii cell),(ii goal)] [(cl e_ 178 [(ii u.most),(ii u.next),(.map (some jc)),(ll jH u.order jO)]),kI,jE] [] F (yS.R e_ r):=by
 unfold yS.f at H;refine aF Tryz.func156 J J (λW=>rc T 8 (dw mix aB ?_))
 iterate 6 refine au T J ?_
 refine cD T 0 J J J (bf J J J (MY T (Ky.int .i64 u3) (λx:bD=>Value.agg #[.int .i64 x.Id,.int .i64 x.Cell,.int .i64 x.Goal]) J J J (o_ jR (j:=1) J)) (au T J (au T J (au T J (cD T 0 J J J (au T J (au T J (cO (rx T 1 (cd J H (λH=>?_) (λH=>?_)))))))))))
 ·refine rc T 8 ?_
  cases H;exact p1 T J [0,0,0,0] ⟨jc,kI,jH,jO,jE,jR,kC,J,J⟩ J
 refine rc T 7 (lf T 0 J (ro T 8 (lf T 0 J (ro T 3 (sg T 0 J (ro T 7 (lf T 0 J (ro T 5 (aV (qh (g:=1) (m:=u.live) (k:=u.next) (v:=(bD.mk u.next cell goal)) T (Ky.int .i64 u3) (λx:bD=>Value.agg #[.int .i64 x.Id,.int .i64 x.Cell,.int .i64 x.Goal]) J J J J J J J jR (λH4 s4=>ro T 8 (lf T 0 J (ro T 1 (aV (cW (k:=(Fl.int .i64)) T [u.next] J J J J J J J J J (λa5 H5 s5=>?_))))))))))))))))
 obtain⟨c2,H⟩:=az H;refine aV (dQ (k:=(Fl.int .i64)) (xs:=u.order) T (g:=2) J J J J J J J J J J kC (oO s5 4) c2 J (λa6 n6 H6 s6=>ro T 2 (sg T 0 J (ro T 1 (ke [8] [0,0,0,0] J J (rx T 9 ?_))))))
 cases H;exact p1 T J [0,0,0,0] ⟨jc,H4,a6,n6,H6,s4,s6,J,J⟩ J
def qQ.f (u:fN) (ai:Int):Option (bD×Bool):=some ((bD.mk ((aT u.live ai).Id) ((aT u.live ai).Cell) ((aT u.live ai).Goal)),(ck u.live ai))
theorem qQ.c (H:qQ.f u ai=some r) (jR:db (Ky.int .i64 u3) (λx:bD=>Value.agg #[.int .i64 x.Id,.int .i64 x.Cell,.int .i64 x.Goal]) u.live jc kI) (kC:aj (Fl.int .i64) 3 u.order jH jO jE):
 QU 122 [(pp e_),(ii ai)] [(cl e_ 178 [(ii u.most),(ii u.next),(.map (some jc)),(ll jH u.order jO)]),kI,jE] F (.tuple #[(.agg #[(ii r.1.Id),(ii r.1.Cell),(ii r.1.Goal)]),(bb r.2)]):=by
 unfold qQ.f at H;refine aF Tryz.func122 J J (λW=>rc T 2 (nc T J (λb4=>ro T 10 (eN J (rc T 7 (lf T 0 J (ro T 1 (bA J (qu (k:=ai) T (Ky.int .i64 u3) (λx:bD=>Value.agg #[.int .i64 x.Id,.int .i64 x.Cell,.int .i64 x.Goal]) J J J J J (o_ jR (j:=1) J)) (ro T 3 (nc T J (λb5=>sg T 5 J (ro T 5 (lm T 5 J (ro T 1 (sg T 4 J (ro T 2 (ke [4,5] [0,0,0,0,0] J J (rx T 1 (rc T 1 ?_)))))))))))))))))))
 cases H;exact pb T J (.cS (j:=4) [(ii (aT u.live ai).Id),(ii (aT u.live ai).Cell),(ii (aT u.live ai).Goal)] J J J J J J J (.tmp J .nil)) [0,0,0,0] () J J
def mZ.l0:Nat->fN->List Int->Int->Option (List Int)
 |0,_,_,_=>none
 |k5+1,u,x3,x4=>if x4<(aa u.order:Int) then(if(0<=x4/\x4<(aa u.order:Int)) then(if(ck u.live (rd u.order x4))=true then(if(aa x3+1<=1099511627776) then(mZ.l0 k5 u (x3++[(rd u.order x4)]) (af (x4+1))) else none) else(mZ.l0 k5 u x3 (af (x4+1)))) else none) else(some x3)
def mZ.f (u:fN):Option (List Int):=mZ.l0 fuel u [] 0
def mZ.R (r:(List Int)):bj:=λu G=> ∃a0 n0 H0,aj (Fl.int .i64) 3 r a0 n0 H0/\u=(ll a0 r n0)/\G=[H0]
theorem mZ.c (H:mZ.f u=some r) (jR:db (Ky.int .i64 u3) (λx:bD=>Value.agg #[.int .i64 x.Id,.int .i64 x.Cell,.int .i64 x.Goal]) u.live jc kI) (kC:aj (Fl.int .i64) 3 u.order jH jO jE):
 QR 109 [(pp e_)] [(cl e_ 178 [(ii u.most),(ii u.next),(.map (some jc)),(ll jH u.order jO)]),kI,jE] [(cl e_ 178 [(ii u.most),(ii u.next),(.map (some jc)),(ll jH u.order jO)]),kI,jE] F (mZ.R r):=by
 unfold mZ.f at H;refine aF Tryz.func109 J J (λW=>rc T 16 (lf T 0 J (ro T 5 (bz (lq [0,11,12] [3,0,0,0] (λ(⟨k5,x3,x4,a5,n5,H5⟩:Nat×List Int×Int×Option Addr×Nat×Hp)=>(mZ.l0 k5 u x3 x4=some r/\aj (Fl.int .i64) 3 x3 a5 n5 H5,[(3,(ll a5 x3 n5)),(13,(ii x4))],[H5])) J J (fuel,[],0,none,0,[]) [3,0,0,0,0] ⟨H,aj.nil⟩ J J ?_)))));rintro k5 ⟨x3,x4,a5,n5,H5⟩ ⟨Z1,s5⟩;rw[mZ.l0] at Z1;refine rc T 6 (cd J Z1 (λZ1=>?_) (λZ1=>?_))
 ·refine rc T 6 ?_;obtain⟨c3,Z1⟩:=az Z1;obtain⟨q6,o6,e6⟩:=kC.r.addr c3.1 c3.2;refine ix T J e6 c3 (le T 0 (oO kC 3) e6 c3 J J (ro T 8 (lf T 1 J (ro T 1 (bA J (qu (k:=(rd u.order x4)) T (Ky.int .i64 u3) (λx:bD=>Value.agg #[.int .i64 x.Id,.int .i64 x.Cell,.int .i64 x.Goal]) J J J J J (o_ jR (j:=2) J)) (ro T 3 (nc T J (λb7=>sg T 5 J (ro T 8 (cb J Z1 (λZ1=>?_) (λZ1=>?_)))))))))))
  ·refine rc T 3 (aV (cW (k:=(Fl.int .i64)) T [(rd u.order x4)] J J J J J J J J J (λa8 H8 s8=>?_)));obtain⟨c5,Z1⟩:=az Z1;refine aV (dQ (k:=(Fl.int .i64)) (xs:=x3) T (g:=4) J J J J J J J J J J s5 (oO s8 6) c5 J (λa9 n9 H9 s9=>ro T 9 (ar (_,_,_,_,_) [0,0,0,0,0] ⟨Z1,s9⟩ J J)))
  refine rc T 8 (ar (_,_,_,_,_) [0,0,0,0,0] ⟨Z1,s5⟩ J J)
 refine rc T 12 ?_
 cases Z1;exact p1 T J [4,1,1,1,0] ⟨a5,n5,H5,s5,J,J⟩ J
def yU.f (u:fN) (ai:Int):Option (Bool×fN):=(qQ.f u ai).bind λv1=>if(!v1.2)=true then(some (false,u)) else(if(aa u.order:Int)>(af (2*(aa (f_ u.live ai):Int))) then((mZ.f (fN.mk u.most u.next (f_ u.live ai) u.order)).bind λv2=>some (true,(fN.mk u.most u.next (f_ u.live ai) v2))) else(some (true,(fN.mk u.most u.next (f_ u.live ai) u.order))))
def yU.R (e_:Nat) (r:(Bool×fN)):bj:=λu G=> ∃(a0:Nat) (H0:Hp) (a1 n1 H1:_),db (Ky.int .i64 u3) (λx:bD=>Value.agg #[.int .i64 x.Id,.int .i64 x.Cell,.int .i64 x.Goal]) r.2.live a0 H0/\aj (Fl.int .i64) 3 r.2.order a1 n1 H1/\u=(bb r.1)/\G=[(cl e_ 178 [(ii r.2.most),(ii r.2.next),(.map (some a0)),(ll a1 r.2.order n1)]),H0,H1]
theorem yU.c (H:yU.f u ai=some r) (jR:db (Ky.int .i64 u3) (λx:bD=>Value.agg #[.int .i64 x.Id,.int .i64 x.Cell,.int .i64 x.Goal]) u.live jc kI) (kC:aj (Fl.int .i64) 3 u.order jH jO jE):
 QR 159 [(pp e_),(ii ai)] [(cl e_ 178 [(ii u.most),(ii u.next),(.map (some jc)),(ll jH u.order jO)]),kI,jE] [] F (yU.R e_ r):=by
 unfold yU.f at H;refine aF Tryz.func159 J J (λW=>rc T 9 (k [0,0,0] J Ct H (qQ.c · jR kC) (λv1 H=>ro T 3 (nc T J (λb4=>sg T 4 J (ro T 10 (cb J H (λH=>?_) (λH=>?_))))))))
 ·refine rc T 7 ?_
  cases H;exact p1 T J [0,0,0,0] ⟨jc,kI,jH,jO,jE,jR,kC,J,J⟩ J
 refine rc T 7 (lf T 0 J (ro T 1 (aV (DZ (g:=1) (m:=u.live) (k:=ai) T (Ky.int .i64 u3) (λx:bD=>Value.agg #[.int .i64 x.Id,.int .i64 x.Cell,.int .i64 x.Goal]) J J J J J J J J jR (λH5 s5=>ro T 4 (dw mix aB (au T J (au T J (au T J (cD T 0 J J J ?_))))))))))
 iterate 4 refine au T J ?_
 refine cD T 0 J J J (bf J J J (MY T (Ky.int .i64 u3) (λx:bD=>Value.agg #[.int .i64 x.Id,.int .i64 x.Cell,.int .i64 x.Goal]) J J J (o_ s5 (j:=1) J)) (au T J (au T J (cO (rx T 1 (cd J H (λH=>?_) (λH=>?_)))))))
 ·refine rc T 3 (kr mZ.R [0,0,0] [0,0,0] J SI H (mZ.c (u:=(fN.mk u.most u.next (f_ u.live ai) u.order)) · s5 kC) (λv2 H=>?_))
  rintro _ _ ⟨a6,n6,H6,s6,rfl,rfl⟩;refine fz J (ro T 2 (sg T 3 J (ro T 1 (ke [] [0,1,1,1] J J (rx T 7 ?_)))))
  cases H;exact p1 T J [2,2,1,0] ⟨jc,H5,a6,n6,H6,s5,s6,J,J⟩ J
 refine rc T 8 ?_
 cases H;exact p1 T J [0,0,0,0] ⟨jc,H5,jH,jO,jE,s5,kC,J,J⟩ J
def BM.f (x:bD) (ai:Int):Option bD:=some (bD.mk x.Id x.Cell ai)
def BM.R (zn:Nat) (r:bD) (u:Value) (G:List Hp):Prop:=u=(.tuple #[])/\G=[(cl zn 67 [(ii r.Id),(ii r.Cell),(ii r.Goal)])]
theorem BM.c (H:BM.f x ai=some r):
 QR 162 [(pp zn),(pp uV)] [(cl zn 67 [(ii x.Id),(ii x.Cell),(ii x.Goal)]),(cl uV 3 [(ii ai)])] [(cl uV 3 [(ii ai)])] F (BM.R zn r):=by
 unfold BM.f at H;refine aF Tryz.func162 J J (λW=>rc T 2 (lf T 1 J (ro T 2 (sg T 0 J (ro T 1 (jm ?_))))))
 cases H;exact p1 T J [0,0,0] ⟨J,J⟩ J
def Au.f (u:fN) (ai:Int) (zZ:Int):Option (Bool×fN):=(qQ.f u ai).bind λv1=>if v1.2=true then((BM.f v1.1 zZ).bind λv2=>some (v1.2,(fN.mk u.most u.next (cQ u.live ai v2) u.order))) else(some (v1.2,u))
def Au.R (e_:Nat) (r:(Bool×fN)):bj:=λu G=> ∃(a0:Nat) (H0:Hp) (a1 n1 H1:_),db (Ky.int .i64 u3) (λx:bD=>Value.agg #[.int .i64 x.Id,.int .i64 x.Cell,.int .i64 x.Goal]) r.2.live a0 H0/\aj (Fl.int .i64) 3 r.2.order a1 n1 H1/\u=(bb r.1)/\G=[(cl e_ 178 [(ii r.2.most),(ii r.2.next),(.map (some a0)),(ll a1 r.2.order n1)]),H0,H1]
theorem Au.c (H:Au.f u ai zZ=some r) (jR:db (Ky.int .i64 u3) (λx:bD=>Value.agg #[.int .i64 x.Id,.int .i64 x.Cell,.int .i64 x.Goal]) u.live jc kI) (kC:aj (Fl.int .i64) 3 u.order jH jO jE):
 QR 161 [(pp e_),(ii ai),(.func (.func 162) #[] #[(pp FZ)])] [(cl e_ 178 [(ii u.most),(ii u.next),(.map (some jc)),(ll jH u.order jO)]),kI,jE,(cl FZ 3 [(ii zZ)])] [(cl FZ 3 [(ii zZ)])] F (Au.R e_ r):=by
 unfold Au.f at H;refine aF Tryz.func161 J J (λW=>rc T 9 (k [0,0,0] J Ct H (qQ.c · jR kC) (λv1 H=>ro T 3 (nc T J (λb5=>sg T 5 J (ro T 9 (cb J H (λH=>?_) (λH=>?_))))))))
 ·refine rc T 3 (kr (BM.R b5) [3] [5,3] J acr H (BM.c ·) (λv2 H=>?_));rintro _ _ ⟨rfl,rfl⟩;refine fz J (ro T 2 (ks [0,1,7,8] J (fz J (rz [6] mix (bH bG) (λhg pf=>ha T 4 [0,1,2] sz hg pf J (al T 3 0 sz hg pf J J J (ha T 2 [4] sz hg pf J (av 5 sz hg pf J (gA T 4 J J J J J J J) (ao 6 (qh (g:=1) (m:=u.live) (k:=ai) (v:=v2) T (Ky.int .i64 u3) (λx:bD=>Value.agg #[.int .i64 x.Id,.int .i64 x.Cell,.int .i64 x.Goal]) J J J J J J J jR (λH6 s6=>an sl (ae (rx T 8 ?_)))))))))))))
  cases H;exact p1 T J [0,0,0,2,0] ⟨jc,H6,jH,jO,jE,s6,kC,J,J⟩ J
 refine rc T 9 ?_
 cases H;exact p1 T J [0,0,0,0,0] ⟨jc,kI,jH,jO,jE,jR,kC,J,J⟩ J
def yT.f (u:fN) (ai:Int) (goal:Int):Option (Bool×fN):=(Au.f u ai goal).bind λv1=>some (v1.1,v1.2)
def yT.R (e_:Nat) (r:(Bool×fN)):bj:=λu G=> ∃(a0:Nat) (H0:Hp) (a1 n1 H1:_),db (Ky.int .i64 u3) (λx:bD=>Value.agg #[.int .i64 x.Id,.int .i64 x.Cell,.int .i64 x.Goal]) r.2.live a0 H0/\aj (Fl.int .i64) 3 r.2.order a1 n1 H1/\u=(bb r.1)/\G=[(cl e_ 178 [(ii r.2.most),(ii r.2.next),(.map (some a0)),(ll a1 r.2.order n1)]),H0,H1]
theorem yT.c (H:yT.f u ai goal=some r) (jR:db (Ky.int .i64 u3) (λx:bD=>Value.agg #[.int .i64 x.Id,.int .i64 x.Cell,.int .i64 x.Goal]) u.live jc kI) (kC:aj (Fl.int .i64) 3 u.order jH jO jE):
 QR 126 [(pp e_),(ii ai),(ii goal)] [(cl e_ 178 [(ii u.most),(ii u.next),(.map (some jc)),(ll jH u.order jO)]),kI,jE] [] F (yT.R e_ r):=by
 unfold yT.f at H;refine aF Tryz.func126 J J (λW=>rc T 2 (nc T J (λb4=>ro T 8 (kr (Au.R e_) [4] [0,0,0,1] J SZ H (Au.c · jR kC) (λv1 H=>?_)))));rintro _ _ ⟨a5,H5,a6,n6,H6,s5,s6,rfl,rfl⟩;refine fz J (ro T 4 ?_)
 cases H;exact p1 T J [1,1,1,0] ⟨a5,H5,a6,n6,H6,s5,s6,J,J⟩ J
def pk.l0:Nat->fN->(List Int)->List bD->Int->Option (List bD)
 |0,_,_,_,_=>none
 |k6+1,u,v1,x4,x5=>if x5<(aa v1:Int) then(if(0<=x5/\x5<(aa v1:Int)) then(if(aa x4+1<=1099511627776) then(pk.l0 k6 u v1 (x4++[(bD.mk ((aT u.live (rd v1 x5)).Id) ((aT u.live (rd v1 x5)).Cell) ((aT u.live (rd v1 x5)).Goal))]) (af (x5+1))) else none) else none) else(some x4)
def pk.f (u:fN):Option (List bD):=(mZ.f u).bind λv1=>pk.l0 fuel u v1 [] 0
def pk.R (r:(List bD)):bj:=λu G=> ∃a0 n0 H0,aj l6 67 r a0 n0 H0/\u=(ll a0 r n0)/\G=[H0]
theorem pk.c (H:pk.f u=some r) (jR:db (Ky.int .i64 u3) (λx:bD=>Value.agg #[.int .i64 x.Id,.int .i64 x.Cell,.int .i64 x.Goal]) u.live jc kI) (kC:aj (Fl.int .i64) 3 u.order jH jO jE):
 QR 81 [(pp e_)] [(cl e_ 178 [(ii u.most),(ii u.next),(.map (some jc)),(ll jH u.order jO)]),kI,jE] [(cl e_ 178 [(ii u.most),(ii u.next),(.map (some jc)),(ll jH u.order jO)]),kI,jE] F (pk.R r):=by
 unfold pk.f at H;refine aF Tryz.func81 J J (λW=>rc T 12 (eN J (rc T 11 (kr mZ.R [0,0,0] [0,0,0] J SI H (mZ.c · jR kC) (λv1 H=>?_)))));rintro _ _ ⟨a4,n4,H4,s4,rfl,rfl⟩;refine fz J (ro T 5 (bz (lq [0,9,10] [0,1,1,1,0] (λ(⟨k6,x4,x5,a6,n6,H6⟩:Nat×List bD×Int×Option Addr×Nat×Hp)=>(pk.l0 k6 u v1 x4 x5=some r/\aj l6 67 x4 a6 n6 H6,[(3,(ll a6 x4 n6)),(11,(ii x5))],[H6])) J J (fuel,[],0,none,0,[]) [0,1,1,1,0,0] ⟨H,aj.nil⟩ J J ?_)));rintro k6 ⟨x4,x5,a6,n6,H6⟩ ⟨Z2,s6⟩;rw[pk.l0] at Z2;refine rc T 6 (cd J Z2 (λZ2=>?_) (λZ2=>?_))
 ·refine rc T 6 ?_;obtain⟨c4,Z2⟩:=az Z2;obtain⟨q7,o7,e7⟩:=s4.r.addr c4.1 c4.2;refine ix T J e7 c4 (le T 0 (oO s4 4) e7 c4 J J (ro T 8 (lf T 1 J (ro T 1 (bA J (qu (k:=(rd v1 x5)) T (Ky.int .i64 u3) (λx:bD=>Value.agg #[.int .i64 x.Id,.int .i64 x.Cell,.int .i64 x.Goal]) J J J J J (o_ jR (j:=2) J)) (aV (cW (k:=l6) T [(bD.mk ((aT u.live (rd v1 x5)).Id) ((aT u.live (rd v1 x5)).Cell) ((aT u.live (rd v1 x5)).Goal))] J J J J J J J J J (λa8 H8 s8=>?_))))))));obtain⟨c5,Z2⟩:=az Z2;refine aV (dQ (k:=l6) (xs:=x4) T (g:=5) J J J J J J J J J J s6 (oO s8 6) c5 J (λa9 n9 H9 s9=>ro T 9 (ar (_,_,_,_,_) [0,0,0,0,0,0] ⟨Z2,s9⟩ J J)))
 refine rc T 12 ?_
 cases Z2;exact p1 T J [5,1,1,1,0] ⟨a6,n6,H6,s6,J,J⟩ J
def BN.f (x:bD) (ai:Int):Option bD:=some (bD.mk x.Id ai x.Goal)
def BN.R (zn:Nat) (r:bD) (u:Value) (G:List Hp):Prop:=u=(.tuple #[])/\G=[(cl zn 67 [(ii r.Id),(ii r.Cell),(ii r.Goal)])]
theorem BN.c (H:BN.f x ai=some r):
 QR 200 [(pp zn),(pp uV)] [(cl zn 67 [(ii x.Id),(ii x.Cell),(ii x.Goal)]),(cl uV 3 [(ii ai)])] [(cl uV 3 [(ii ai)])] F (BN.R zn r):=by
 unfold BN.f at H;refine aF Tryz.func200 J J (λW=>rc T 2 (lf T 1 J (ro T 2 (sg T 0 J (ro T 1 (jm ?_))))))
 cases H;exact p1 T J [0,0,0] ⟨J,J⟩ J
def Av.f (u:fN) (ai:Int) (zZ:Int):Option (Bool×fN):=(qQ.f u ai).bind λv1=>if v1.2=true then((BN.f v1.1 zZ).bind λv2=>some (v1.2,(fN.mk u.most u.next (cQ u.live ai v2) u.order))) else(some (v1.2,u))
def Av.R (e_:Nat) (r:(Bool×fN)):bj:=λu G=> ∃(a0:Nat) (H0:Hp) (a1 n1 H1:_),db (Ky.int .i64 u3) (λx:bD=>Value.agg #[.int .i64 x.Id,.int .i64 x.Cell,.int .i64 x.Goal]) r.2.live a0 H0/\aj (Fl.int .i64) 3 r.2.order a1 n1 H1/\u=(bb r.1)/\G=[(cl e_ 178 [(ii r.2.most),(ii r.2.next),(.map (some a0)),(ll a1 r.2.order n1)]),H0,H1]
theorem Av.c (H:Av.f u ai zZ=some r) (jR:db (Ky.int .i64 u3) (λx:bD=>Value.agg #[.int .i64 x.Id,.int .i64 x.Cell,.int .i64 x.Goal]) u.live jc kI) (kC:aj (Fl.int .i64) 3 u.order jH jO jE):
 QR 161 [(pp e_),(ii ai),(.func (.func 200) #[] #[(pp FZ)])] [(cl e_ 178 [(ii u.most),(ii u.next),(.map (some jc)),(ll jH u.order jO)]),kI,jE,(cl FZ 3 [(ii zZ)])] [(cl FZ 3 [(ii zZ)])] F (Av.R e_ r):=by
 unfold Av.f at H;refine aF Tryz.func161 J J (λW=>rc T 9 (k [0,0,0] J Ct H (qQ.c · jR kC) (λv1 H=>ro T 3 (nc T J (λb5=>sg T 5 J (ro T 9 (cb J H (λH=>?_) (λH=>?_))))))))
 ·refine rc T 3 (kr (BN.R b5) [3] [5,3] J acQ H (BN.c ·) (λv2 H=>?_));rintro _ _ ⟨rfl,rfl⟩;refine fz J (ro T 2 (ks [0,1,7,8] J (fz J (rz [6] mix (bH bG) (λhg pf=>ha T 4 [0,1,2] sz hg pf J (al T 3 0 sz hg pf J J J (ha T 2 [4] sz hg pf J (av 5 sz hg pf J (gA T 4 J J J J J J J) (ao 6 (qh (g:=1) (m:=u.live) (k:=ai) (v:=v2) T (Ky.int .i64 u3) (λx:bD=>Value.agg #[.int .i64 x.Id,.int .i64 x.Cell,.int .i64 x.Goal]) J J J J J J J jR (λH6 s6=>an sl (ae (rx T 8 ?_)))))))))))))
  cases H;exact p1 T J [0,0,0,2,0] ⟨jc,H6,jH,jO,jE,s6,kC,J,J⟩ J
 refine rc T 9 ?_
 cases H;exact p1 T J [0,0,0,0,0] ⟨jc,kI,jH,jO,jE,jR,kC,J,J⟩ J
def yW.f (u:fN) (ai:Int) (cell:Int):Option (Bool×fN):=(Av.f u ai cell).bind λv1=>some (v1.1,v1.2)
def yW.R (e_:Nat) (r:(Bool×fN)):bj:=λu G=> ∃(a0:Nat) (H0:Hp) (a1 n1 H1:_),db (Ky.int .i64 u3) (λx:bD=>Value.agg #[.int .i64 x.Id,.int .i64 x.Cell,.int .i64 x.Goal]) r.2.live a0 H0/\aj (Fl.int .i64) 3 r.2.order a1 n1 H1/\u=(bb r.1)/\G=[(cl e_ 178 [(ii r.2.most),(ii r.2.next),(.map (some a0)),(ll a1 r.2.order n1)]),H0,H1]
theorem yW.c (H:yW.f u ai cell=some r) (jR:db (Ky.int .i64 u3) (λx:bD=>Value.agg #[.int .i64 x.Id,.int .i64 x.Cell,.int .i64 x.Goal]) u.live jc kI) (kC:aj (Fl.int .i64) 3 u.order jH jO jE):
 QR 168 [(pp e_),(ii ai),(ii cell)] [(cl e_ 178 [(ii u.most),(ii u.next),(.map (some jc)),(ll jH u.order jO)]),kI,jE] [] F (yW.R e_ r):=by
 unfold yW.f at H;refine aF Tryz.func168 J J (λW=>rc T 2 (nc T J (λb4=>ro T 8 (kr (Av.R e_) [4] [0,0,0,1] J SZ H (Av.c · jR kC) (λv1 H=>?_)))));rintro _ _ ⟨a5,H5,a6,n6,H6,s5,s6,rfl,rfl⟩;refine fz J (ro T 4 ?_)
 cases H;exact p1 T J [1,1,1,0] ⟨a5,H5,a6,n6,H6,s5,s6,J,J⟩ J
end
noncomputable section
def xG.f (w:Int) (h:Int) (most:Int):Option (Option fA):=(oE.f w h).bind λv1=>if(((!v1)||(decide (most<1)))||(decide (most>65536)))=true then(some none) else((Aq.f most).bind λv2=>dM v2 ((u_.f (af (w*h))).bind λv3=>dM v3 (none) (λrW=>none)) (λtm=>(u_.f (af (w*h))).bind λv4=>dM v4 (none) (λxk=>some (some (fA.mk w h most tm xk)))))
def xG.R (r:(Option fA)):bj:=λu G=> ∃(u0:Value) (G0:List Hp),X5 r u0 G0/\u=u0/\G=G0
theorem xG.c (H:xG.f w h most=some r):
 QR 116 [(ii w),(ii h),(ii most)] [] [] F (xG.R r):=by
 unfold xG.f at H;refine aF Tryz.func116 J J (λW=>rc T 10 (k [] J Cw H (oE.c ·) (λv1 H=>ro T 2 (go T [5,6,7] 11 [0,1,2] 14 J J J J J J J (ro T 1 (go T [9,10,11] 15 [0,1,2] 18 J J J J J J J (ro T 2 (cb J H (λH=>?_) (λH=>?_)))))))))
 ·refine rc T 7 ?_
  cases H;exact p1 T J [0] ⟨_,_,⟨J,J⟩,J,J⟩ J
 refine rc T 8 (kr Aq.R [] [] J acn H (Aq.c ·) (λv2 H=>?_));rintro _ _ ⟨_,_,O4,rfl,rfl⟩;rcases v2 with _ |tm
 ·replace H:=fj J H;obtain⟨rfl,rfl⟩:=O4;refine ro T 3 (kr u_.R [] [] J SV H (u_.c ·) (λv3 H=>?_));rintro _ _ ⟨_,_,O6,rfl,rfl⟩;rcases v3 with _ |rW
  ·replace H:=fj J H;obtain⟨rfl,rfl⟩:=O6;refine ro T 1 (nc T J (λb6=>ro T 4 ?_))
   cases H
  replace H:=fk J H;obtain⟨b4,a5,n5,H5,s5,rfl,rfl⟩:=O6;refine ro T 1 (nc T J (λb7=>ro T 4 ?_))
  cases H
 replace H:=fk J H;obtain⟨b1,a2,H2,a3,n3,H3,s2,s3,rfl,rfl⟩:=O4;refine ro T 3 (kr u_.R [] [] J SV H (u_.c ·) (λv4 H=>?_));rintro _ _ ⟨_,_,O8,rfl,rfl⟩;rcases v4 with _ |xk
 ·replace H:=fj J H;obtain⟨rfl,rfl⟩:=O8;refine ro T 1 (nc T J (λgh=>ro T 4 ?_))
  cases H
 replace H:=fk J H;obtain⟨b8,a9,n9,H9,s9,rfl,rfl⟩:=O8;refine ro T 1 (nc T J (λiN=>ro T 4 ?_))
 cases H;refine gL [6,1,1,1,1,1] J (p1 T J [1,0] ⟨_,_,⟨iN,(List.flatten [(cl iN 146 [(ii w),(ii h),(ii most),(pp b1),(pp b8)]),(cl b1 178 [(ii tm.most),(ii tm.next),(.map (some a2)),(ll a3 tm.order n3)]),H2,H3,(cl b8 221 [(ll a9 xk.words n9),(ii xk.count)]),H9]),(show l_ (fA.mk w h most tm xk) iN (List.flatten [(cl iN 146 [(ii w),(ii h),(ii most),(pp b1),(pp b8)]),(cl b1 178 [(ii tm.most),(ii tm.next),(.map (some a2)),(ll a3 tm.order n3)]),H2,H3,(cl b8 221 [(ll a9 xk.words n9),(ii xk.count)]),H9]) from⟨b1,a2,H2,a3,n3,H3,b8,a9,n9,H9,s2,s3,s9,J⟩),J,J⟩,J,J⟩ J)
def D9.f (ag:fA) (cell:Int):Option Int:=(rm.f ag.floor cell).bind λv1=>some v1
theorem D9.c (H:D9.f ag cell=some r) (cZ:l_ ag aW du):
 QU 119 [(pp aW),(ii cell)] [du] F (ii r):=by
 unfold D9.f at H;refine aF Tryz.func119 J J (λW=>rc T 12 (eN J (rc T 3 ?_)));obtain⟨b3,a4,H4,a5,n5,H5,b6,a7,n7,H7,s4,s5,s7,cz⟩:=(λx=>x) cZ;refine bU 0 (congrArg some cz) (fz J (rc T 4 (lf T 1 J (ro T 1 (k [5,5] J Gu H (rm.c · s7) (λv1 H=>ro T 4 ?_))))))
 cases H;refine dD [1,1,1,1,1,1] J cz (p0 T J [1,0] J)
def vZ.f (ag:fA) (cell:Int):Option Bool:=(gG.f ag.w ag.h cell).bind λv1=>some (decide (v1≥0))
theorem vZ.c (H:vZ.f ag cell=some r) (cZ:l_ ag aW du):
 QU 123 [(pp aW),(ii cell)] [du] F (bb r):=by
 unfold vZ.f at H;refine aF Tryz.func123 J J (λW=>rc T 6 ?_);obtain⟨b3,a4,H4,a5,n5,H5,b6,a7,n7,H7,s4,s5,s7,cz⟩:=(λx=>x) cZ;refine bU 0 (congrArg some cz) (fz J (dw mix aB (au T J (au T J (au T J (cD T 1 J J J (au T J (au T J (au T J (cD T 1 J J J (au T J ?_)))))))))));obtain⟨v1,V1,H⟩:=gx H;refine uU J J J J J J sF J (gG.c V1) (au T J (au T J (cO (rx T 2 ?_))))
 cases H;refine dD [1,1,1,1,1,1] J cz (p0 T J [1,0] J)
def zt.f (ag:fA) (ai:Int) (cell:Int) (goal:Int):Option Int:=if(ai==0)=true then(((vZ.f ag cell).bind λv3=>if(!v3)=true then(some true) else((vZ.f ag goal).bind λv4=>some (!v4))).bind λx1=>if x1=true then(some 7) else((rm.f ag.floor cell).bind λv5=>if(v5 !=(-1))=true then(some 10) else((yV.f ag.eY).bind λv6=>if v6≥ag.most then(some 11) else(if(cell==goal)=true then(some 13) else(some 0))))) else(if(ai==1)=true then((rm.f ag.floor cell).bind λv7=>if(v7 !=(-1))=true then(some 10) else((yV.f ag.eY).bind λv8=>if v8≥ag.most then(some 11) else(if(cell==goal)=true then(some 13) else(some 0)))) else(if(ai==2)=true then((yV.f ag.eY).bind λv9=>if v9≥ag.most then(some 11) else(if(cell==goal)=true then(some 13) else(some 0))) else(if(ai==3)=true then(if(cell==goal)=true then(some 13) else(some 0)) else(some 0))))
theorem zt.c (H:zt.f ag ai cell goal=some r) (cZ:l_ ag aW du):
 QU 124 [(pp aW),(ii ai),(ii cell),(ii goal)] [du] F (ii r):=by
 unfold zt.f at H;refine aF Tryz.func124 J J (λW=>rc T 28 (cb J H (λH=>?_) (λH=>?_)))
 ·refine rc T 5 (mq H [0,2,3] [1,0] (λz2 (x1:Bool)=>(x1=z2,[(27,(bb x1))],[])) J J (λz2 Z2 _=>?_) ?_)
  ·refine rc T 3 (k [0] J Nn Z2 (vZ.c · cZ) (λv3 Z2=>ro T 2 (ab 22 J Z2 (λZ2=>?_) (λZ2=>?_))))
   ·refine ro T 7 (am _ [1,0] (oi Z2) J J)
   refine ro T 2 (k [0] J Nn Z2 (vZ.c · cZ) (λv4 Z2=>ro T 4 (am _ [1,0] (oi Z2) J J)))
  rintro _ x1 rfl H;refine cb J H (λH=>?_) (λH=>?_)
  ·refine rc T 14 ?_
   cases H;exact p0 T J [1,0] J
  refine rc T 4 ?_;obtain⟨b3,a4,H4,a5,n5,H5,b6,a7,n7,H7,s4,s5,s7,cz⟩:=(λx=>x) cZ;refine bU 1 (congrArg some cz) (fz J (rc T 4 (lf T 1 J (ro T 1 (k [5,5] J Gu H (rm.c · s7) (λv5 H=>ro T 3 (cb J H (λH=>?_) (λH=>?_))))))))
  ·refine rc T 12 ?_
   cases H;refine dD [1,1,1,1,1,1] J cz (p0 T J [1,0] J)
  refine rc T 4 (dw mix aB (au T J (au T J (au T J (cD T 1 J J J ?_)))));obtain⟨v6,V9,H⟩:=gx H;refine xz [2,2,2] J J J J J J Nq J (yV.c V9 s4 s5) (au T J (au T J (au T J (cD T 1 J J J (au T J (cO (rx T 1 (cd J H (λH=>?_) (λH=>?_)))))))))
  ·refine rc T 10 ?_
   cases H;refine dD [1,1,1,1,1,1] J cz (p0 T J [1,0] J)
  refine rc T 11 (cb J H (λH=>?_) (λH=>?_))
  ·refine rc T 9 ?_
   cases H;refine dD [1,1,1,1,1,1] J cz (p0 T J [1,0] J)
  refine rc T 11 ?_
  cases H;refine dD [1,1,1,1,1,1] J cz (p0 T J [1,0] J)
 refine rc T 9 (cb J H (λH=>?_) (λH=>?_))
 ·refine rc T 8 ?_;obtain⟨b9,cC,bT,dj,n11,cH,lv,dh,n13,dI,bL,cX,cY,Gn⟩:=(λx=>x) cZ;refine bU 0 (congrArg some Gn) (fz J (rc T 4 (lf T 1 J (ro T 1 (k [5,5] J Gu H (rm.c · cY) (λv7 H=>ro T 3 (cb J H (λH=>?_) (λH=>?_))))))))
  ·refine rc T 12 ?_
   cases H;refine dD [1,1,1,1,1,1] J Gn (p0 T J [1,0] J)
  refine rc T 4 (dw mix aB (au T J (au T J (au T J (cD T 1 J J J ?_)))));obtain⟨v8,IZ,H⟩:=gx H;refine xz [2,2,2] J J J J J J Nq J (yV.c IZ bL cX) (au T J (au T J (au T J (cD T 1 J J J (au T J (cO (rx T 1 (cd J H (λH=>?_) (λH=>?_)))))))))
  ·refine rc T 10 ?_
   cases H;refine dD [1,1,1,1,1,1] J Gn (p0 T J [1,0] J)
  refine rc T 11 (cb J H (λH=>?_) (λH=>?_))
  ·refine rc T 9 ?_
   cases H;refine dD [1,1,1,1,1,1] J Gn (p0 T J [1,0] J)
  refine rc T 11 ?_
  cases H;refine dD [1,1,1,1,1,1] J Gn (p0 T J [1,0] J)
 refine rc T 9 (cb J H (λH=>?_) (λH=>?_))
 ·refine rc T 10 ?_;obtain⟨oP,iu,ft,a17,n17,eU,qi,ma,n19,kH,eB,fL,gP,Eg⟩:=(λx=>x) cZ;refine bU 0 (congrArg some Eg) (fz J (dw mix aB (au T J (au T J (au T J (cD T 1 J J J ?_))))));obtain⟨v9,I0,H⟩:=gx H;refine xz [2,2,2] J J J J J J Nq J (yV.c I0 eB fL) (au T J (au T J (au T J (cD T 1 J J J (au T J (cO (rx T 1 (cd J H (λH=>?_) (λH=>?_)))))))))
  ·refine rc T 10 ?_
   cases H;refine dD [1,1,1,1,1,1] J Eg (p0 T J [1,0] J)
  refine rc T 11 (cb J H (λH=>?_) (λH=>?_))
  ·refine rc T 9 ?_
   cases H;refine dD [1,1,1,1,1,1] J Eg (p0 T J [1,0] J)
  refine rc T 11 ?_
  cases H;refine dD [1,1,1,1,1,1] J Eg (p0 T J [1,0] J)
 refine rc T 8 (cb J H (λH=>?_) (λH=>?_))
 ·refine rc T 18 (cb J H (λH=>?_) (λH=>?_))
  ·refine rc T 9 ?_
   cases H;exact p0 T J [0,0] J
  refine rc T 11 ?_
  cases H;exact p0 T J [0,0] J
 refine rc T 19 ?_
 cases H;exact p0 T J [0,0] J
def xF.f (ag:fA) (cell:Int) (goal:Int):Option (Int×Int×fA):=(zt.f ag 0 cell goal).bind λv1=>if(v1 !=0)=true then(some ((-1),v1,ag)) else((yS.f ag.eY cell goal).bind λv2=>(tS.f ag.floor cell v2.1).bind λv3=>some (v2.1,0,(fA.mk ag.w ag.h ag.most v2.2.2 v3.2)))
def xF.R (nU:Nat) (r:(Int×Int×fA)):bj:=λu G=> ∃(H0:Hp),l_ r.2.2 nU H0/\u=(.tuple #[(ii r.1),(ii r.2.1)])/\G=[H0]
theorem xF.c (H:xF.f ag cell goal=some r) (cZ:l_ ag aW du):
 QR 121 [(pp aW),(ii cell),(ii goal)] [du] [] F (xF.R aW r):=by
 unfold xF.f at H;refine aF Tryz.func121 J J (λW=>rc T 13 (eN J (rc T 8 (k [0] J SK H (zt.c · cZ) (λv1 H=>ro T 9 (cb J H (λH=>?_) (λH=>?_)))))))
 ·refine rc T 9 ?_
  cases H;exact p1 T J [0,0] ⟨du,cZ,J,J⟩ J
 refine rc T 3 ?_;obtain⟨b3,a4,H4,a5,n5,H5,b6,a7,n7,H7,s4,s5,s7,cz⟩:=(λx=>x) cZ;refine bU 0 (congrArg some cz) (fz J (rc T 4 (lf T 1 J (ro T 2 (kr (yS.R b3) [] [2,2,2] J acp H (yS.c · s4 s5) (λv2 H=>?_))))));rintro _ _ ⟨a8,H8,a9,n9,H9,s8,s9,rfl,rfl⟩;refine fz J (ro T 11 (lf T 1 J (ro T 2 (kr (tS.R b6) [] [2,2] J SX H (tS.c · s7) (λv3 H=>?_)))));rintro _ _ ⟨cC,n10,bT,bL,rfl,rfl⟩;refine fz J (ro T 10 ?_)
 cases H;refine gL [1,1,1,1,1,1] J (p1 T J [1,0] ⟨(List.flatten [(cl aW 146 [(ii ag.w),(ii ag.h),(ii ag.most),(pp b3),(pp b6)]),(cl b3 178 [(ii v2.2.2.most),(ii v2.2.2.next),(.map (some a8)),(ll a9 v2.2.2.order n9)]),H8,H9,(cl b6 221 [(ll cC v3.2.words n10),(ii v3.2.count)]),bT]),(show l_ (fA.mk ag.w ag.h ag.most v2.2.2 v3.2) aW (List.flatten [(cl aW 146 [(ii ag.w),(ii ag.h),(ii ag.most),(pp b3),(pp b6)]),(cl b3 178 [(ii v2.2.2.most),(ii v2.2.2.next),(.map (some a8)),(ll a9 v2.2.2.order n9)]),H8,H9,(cl b6 221 [(ll cC v3.2.words n10),(ii v3.2.count)]),bT]) from⟨b3,a8,H8,a9,n9,H9,b6,cC,n10,bT,s8,s9,bL,J⟩),J,J⟩ J)
def F7.f (ai:Int) (goal:Int):Option Int:=some 1
theorem F7.c (H:F7.f ai goal=some r):
 QU 89 [(.pointer none),(ii ai),(ii goal)] [] F (ii r):=by
 unfold F7.f at H;refine aF Tryz.func89 J J (λW=>rc T 12 (nS J (rc T 7 ?_)))
 cases H;exact p0 T J [0] J
def ql.f (ag:fA) (u:bD):Option fA:=(yU.f ag.eY u.Id).bind λv1=>(tU.f ag.floor u.Cell).bind λv2=>some (fA.mk ag.w ag.h ag.most v1.2 v2.2)
def ql.R (nU:Nat) (r:fA):bj:=λu G=> ∃(H0:Hp),l_ r nU H0/\u=(.tuple #[])/\G=[H0]
theorem ql.c (H:ql.f ag u=some r) (cZ:l_ ag aW du):
 QR 125 [(pp aW),(.agg #[(ii u.Id),(ii u.Cell),(ii u.Goal)])] [du] [] F (ql.R aW r):=by
 unfold ql.f at H;refine aF Tryz.func125 J J (λW=>rc T 2 (nc T J (λb2=>ro T 3 ?_)));obtain⟨b4,a5,H5,a6,n6,H6,b7,a8,n8,H8,s5,s6,s8,dx⟩:=(λx=>x) cZ;refine bU 0 (congrArg some dx) (fz J (ks [0,3] J (fz J (rz [6] mix (bH bG) (λhg pf=>ha T 4 [0,1,2] sz hg pf J (al T 3 2 sz hg pf J J J (ha T 2 [4] sz hg pf J (al T 5 1 sz hg pf J J J (ao 6 (kR (yU.R b4) [] [3,3,3] J acq H (yU.c · s5 s6) (λv1 H=>?_)))))))))));rintro _ _ ⟨a9,H9,cC,n10,bT,s9,bL,rfl,rfl⟩;refine fz J (an sl (ae (rx T 1 (ks [0,3] J (fz J (rz [6] mix (bH bG) (λhg pf=>ha T 4 [0,1,2] sz hg pf J (al T 3 2 sz hg pf J J J (ha T 2 [4] sz hg pf J (al T 5 1 sz hg pf J J J (ao 6 (kR (tU.R b7) [] [3,3] J SY H (tU.c · s8) (λv2 H=>?_)))))))))))));rintro _ _ ⟨dj,n11,cH,cX,rfl,rfl⟩;refine fz J (an sl (ae (jm ?_)))
 cases H;refine gL [2,2,2,2,2,2] J (p1 T J [2,0] ⟨(List.flatten [(cl aW 146 [(ii ag.w),(ii ag.h),(ii ag.most),(pp b4),(pp b7)]),(cl b4 178 [(ii v1.2.most),(ii v1.2.next),(.map (some a9)),(ll cC v1.2.order n10)]),H9,bT,(cl b7 221 [(ll dj v2.2.words n11),(ii v2.2.count)]),cH]),(show l_ (fA.mk ag.w ag.h ag.most v1.2 v2.2) aW (List.flatten [(cl aW 146 [(ii ag.w),(ii ag.h),(ii ag.most),(pp b4),(pp b7)]),(cl b4 178 [(ii v1.2.most),(ii v1.2.next),(.map (some a9)),(ll cC v1.2.order n10)]),H9,bT,(cl b7 221 [(ll dj v2.2.words n11),(ii v2.2.count)]),cH]) from⟨b4,a9,H9,cC,n10,bT,b7,dj,n11,cH,s9,bL,cX,J⟩),J,J⟩ J)
def xE.f (ag:fA) (ai:Int) (goal:Int):Option (Int×fA):=(qQ.f ag.eY ai).bind λv1=>if(!v1.2)=true then(some (12,ag)) else((vZ.f ag goal).bind λv2=>if(!v2)=true then(some (7,ag)) else((zt.f ag 3 v1.1.Cell goal).bind λv3=>if(v3 !=0)=true then((ql.f ag v1.1).bind λv4=>some (v3,v4)) else((yT.f ag.eY ai goal).bind λv5=>some (0,(fA.mk ag.w ag.h ag.most v5.2 ag.floor)))))
def xE.R (nU:Nat) (r:(Int×fA)):bj:=λu G=> ∃(H0:Hp),l_ r.2 nU H0/\u=(ii r.1)/\G=[H0]
theorem xE.c (H:xE.f ag ai goal=some r) (cZ:l_ ag aW du):
 QR 89 [(pp aW),(ii ai),(ii goal)] [du] [] F (xE.R aW r):=by
 unfold xE.f at H;refine aF Tryz.func89 J J (λW=>rc T 12 (eN J (rc T 3 ?_)));obtain⟨b3,a4,H4,a5,n5,H5,b6,a7,n7,H7,s4,s5,s7,cz⟩:=(λx=>x) cZ;refine bU 0 (congrArg some cz) (fz J (rc T 4 (lf T 1 J (ro T 1 (k [2,2,2] J Ct H (qQ.c · s4 s5) (λv1 H=>ro T 3 (nc T J (λb8=>sg T 7 J (ro T 12 (cb J H (λH=>?_) (λH=>?_)))))))))))
 ·refine rc T 8 ?_
  cases H;refine dD [1,1,1,1,1,1] J cz (p1 T J [2,0] ⟨du,cZ,J,J⟩ J)
 refine rc T 4 ?_;obtain⟨v2,V3,H⟩:=gx H;refine aV (Ja (As:=[(cl aW 146 [(ii ag.w),(ii ag.h),(ii ag.most),(pp b3),(pp b6)]),(cl b3 178 [(ii ag.eY.most),(ii ag.eY.next),(.map (some a4)),(ll a5 ag.eY.order n5)]),H4,H5,(cl b6 221 [(ll a7 ag.floor.words n7),(ii ag.floor.count)]),H7]) [1,1,1,1,1,1] J J J J Nn J J (Jl (A:=[du]) (by simp only[cz,vQ,vP,vR,tv,uR]) (vZ.c V3 cZ)) (ro T 4 (cb J H (λH=>?_) (λH=>?_))))
 ·refine rc T 8 ?_
  cases H;refine dD [1,1,1,1,1,1] J cz (p1 T J [2,0] ⟨du,cZ,J,J⟩ J)
 refine rc T 8 (lf T 7 J (ro T 1 ?_));obtain⟨v3,V5,H⟩:=gx H;refine aV (Ja (As:=[(cl aW 146 [(ii ag.w),(ii ag.h),(ii ag.most),(pp b3),(pp b6)]),(cl b3 178 [(ii ag.eY.most),(ii ag.eY.next),(.map (some a4)),(ll a5 ag.eY.order n5)]),H4,H5,(cl b6 221 [(ll a7 ag.floor.words n7),(ii ag.floor.count)]),H7]) [1,1,1,1,1,1] J J J J SK J J (Jl (A:=[du]) (by simp only[cz,vQ,vP,vR,tv,uR]) (zt.c V5 cZ)) (ro T 9 (cb J H (λH=>?_) (λH=>?_))))
 ·refine rc T 3 (lm T 7 J (dD [1,1,1,1,1,1] J cz (kr (ql.R aW) [] [2] J Np H (ql.c · cZ) (λv4 H=>?_))));rintro _ _ ⟨H9,s9,rfl,rfl⟩;refine fz J (ro T 10 ?_)
  cases H;exact p1 T J [2,0] ⟨H9,s9,J,J⟩ J
 refine rc T 7 (lf T 1 J (ro T 2 (kr (yT.R b3) [] [2,2,2] J acb H (yT.c · s4 s5) (λv5 H=>?_))));rintro _ _ ⟨cC,bT,dj,n11,cH,bL,cX,rfl,rfl⟩;refine fz J (ro T 8 ?_)
 cases H;refine gL [1,4,4,4,1,1] J (p1 T J [2,0] ⟨(List.flatten [(cl aW 146 [(ii ag.w),(ii ag.h),(ii ag.most),(pp b3),(pp b6)]),(cl b3 178 [(ii v5.2.most),(ii v5.2.next),(.map (some cC)),(ll dj v5.2.order n11)]),bT,cH,(cl b6 221 [(ll a7 ag.floor.words n7),(ii ag.floor.count)]),H7]),(show l_ (fA.mk ag.w ag.h ag.most v5.2 ag.floor) aW (List.flatten [(cl aW 146 [(ii ag.w),(ii ag.h),(ii ag.most),(pp b3),(pp b6)]),(cl b3 178 [(ii v5.2.most),(ii v5.2.next),(.map (some cC)),(ll dj v5.2.order n11)]),bT,cH,(cl b6 221 [(ll a7 ag.floor.words n7),(ii ag.floor.count)]),H7]) from⟨b3,cC,bT,dj,n11,cH,b6,a7,n7,H7,bL,cX,s7,J⟩),J,J⟩ J)
def F6.f (ai:Int):Option Int:=some 1
theorem F6.c (H:F6.f ai=some r):
 QU 90 [(.pointer none),(ii ai)] [] F (ii r):=by
 unfold F6.f at H;refine aF Tryz.func90 J J (λW=>rc T 12 (nS J (rc T 7 ?_)))
 cases H;exact p0 T J [0] J
def xD.f (ag:fA) (ai:Int):Option (Int×fA):=(qQ.f ag.eY ai).bind λv1=>if(!v1.2)=true then(some (12,ag)) else((ql.f ag v1.1).bind λv2=>some (0,v2))
def xD.R (nU:Nat) (r:(Int×fA)):bj:=λu G=> ∃(H0:Hp),l_ r.2 nU H0/\u=(ii r.1)/\G=[H0]
theorem xD.c (H:xD.f ag ai=some r) (cZ:l_ ag aW du):
 QR 90 [(pp aW),(ii ai)] [du] [] F (xD.R aW r):=by
 unfold xD.f at H;refine aF Tryz.func90 J J (λW=>rc T 12 (eN J (rc T 3 ?_)));obtain⟨b3,a4,H4,a5,n5,H5,b6,a7,n7,H7,s4,s5,s7,cz⟩:=(λx=>x) cZ;refine bU 0 (congrArg some cz) (fz J (rc T 4 (lf T 1 J (ro T 1 (k [2,2,2] J Ct H (qQ.c · s4 s5) (λv1 H=>ro T 3 (nc T J (λb8=>sg T 7 J (ro T 10 (cb J H (λH=>?_) (λH=>?_)))))))))))
 ·refine rc T 7 ?_
  cases H;refine dD [1,1,1,1,1,1] J cz (p1 T J [2,0] ⟨du,cZ,J,J⟩ J)
 refine rc T 5 (lm T 7 J (dD [1,1,1,1,1,1] J cz (kr (ql.R aW) [] [2] J Np H (ql.c · cZ) (λv2 H=>?_))));rintro _ _ ⟨H9,s9,rfl,rfl⟩;refine fz J (ro T 8 ?_)
 cases H;exact p1 T J [2,0] ⟨H9,s9,J,J⟩ J
def qk.f (ag:fA):Option (List bD):=(pk.f ag.eY).bind λv1=>some v1
def qk.R (r:(List bD)):bj:=λu G=> ∃a0 n0 H0,aj l6 67 r a0 n0 H0/\u=(ll a0 r n0)/\G=[H0]
theorem qk.c (H:qk.f ag=some r) (cZ:l_ ag aW du):
 QR 54 [(pp aW)] [du] [du] F (qk.R r):=by
 unfold qk.f at H;refine aF Tryz.func54 J J (λW=>rc T 12 (eN J (rc T 3 ?_)));obtain⟨b3,a4,H4,a5,n5,H5,b6,a7,n7,H7,s4,s5,s7,cz⟩:=(λx=>x) cZ;refine bU 0 (congrArg some cz) (fz J (rc T 4 (lf T 1 J (kr pk.R [2,2,2] [2,2,2] J ad4 H (pk.c · s4 s5) (λv1 H=>?_)))));rintro _ _ ⟨a8,n8,H8,s8,rfl,rfl⟩;refine fz J (ro T 4 ?_)
 cases H;refine dD [1,4,4,4,1,1] J cz (p1 T J [1,1,0] ⟨a8,n8,H8,s8,J,J⟩ J)
def nV.l0:Nat->((List bD)×(List gv)×(List Int)×Int)->fA->Int->Option ((List gv)×(List Int)×Int×fA)
 |0,_,_,_=>none
 |k7+1,v2,x5,x6=>if x6<(aa v2.2.1:Int) then(if(0<=x6/\x6<(aa v2.2.1:Int)) then(((qQ.f x5.eY ((rd v2.2.1 x6).Id)).bind λv12=>some (v12.1.Id,v12.1.Cell,v12.1.Goal)).bind λ(x8,x9,aL)=>if((rd v2.2.1 x6).To==aL)=true then((ql.f x5 (bD.mk x8 x9 aL)).bind λdT=>nV.l0 k7 v2 dT (af (x6+1))) else((xJ.f x5.floor x9 ((rd v2.2.1 x6).To)).bind λdz=>(yW.f x5.eY ((rd v2.2.1 x6).Id) ((rd v2.2.1 x6).To)).bind λdZ=>nV.l0 k7 v2 (fA.mk x5.w x5.h x5.most dZ.2 dz.2) (af (x6+1)))) else none) else(some (v2.2.1,v2.2.2.1,0,x5))
def nV.f (ag:fA) (hJ:(List Int)):Option ((List gv)×(List Int)×Int×fA):=(qk.f ag).bind λv1=>(j7.f ag.w ag.h v1 hJ).bind λv2=>if(v2.2.2.2 !=0)=true then(some ([],[],v2.2.2.2,ag)) else(nV.l0 fuel v2 ag 0)
def nV.R (nU:Nat) (r:((List gv)×(List Int)×Int×fA)):bj:=λu G=> ∃(a0 n0 H0:_) (a1 n1 H1:_) (H2:Hp),aj jM 94 r.1 a0 n0 H0/\aj (Fl.int .i64) 3 r.2.1 a1 n1 H1/\l_ r.2.2.2 nU H2/\u=(.tuple #[(ll a0 r.1 n0),(ll a1 r.2.1 n1),(ii r.2.2.1)])/\G=[H0,H1,H2]
theorem nV.c (H:nV.f ag hJ=some r) (cZ:l_ ag aW du) (Gs:aO (Fl.int .i64) hJ LY F) (Mr:aa hJ<=OQ):
 QR 129 [(pp aW),(ll LY hJ OQ)] [du] [] F (nV.R aW r):=by
 unfold nV.f at H;refine aF Tryz.func129 J J (λW=>rc T 14 (eN J (rc T 3 ?_)));obtain⟨b3,a4,H4,a5,n5,H5,b6,a7,n7,H7,s4,s5,s7,cz⟩:=(λx=>x) cZ;refine bU 0 (congrArg some cz) (fz J (fz J (rg [] [0,0,0,0,0,0,0] mix (bH bG) (λhg pf=>ha T 17 [0,1,2] sz hg pf J (al T 3 1 sz hg pf J J J (ha T 13 [4,5,6] sz hg pf J (al T 7 1 sz hg pf J J J (ha T 10 [8,10] sz hg pf J (ao 9 ?_)))))))));obtain⟨v1,V1,H⟩:=gx H;refine FP (As:=[(cl aW 146 [(ii ag.w),(ii ag.h),(ii ag.most),(pp b3),(pp b6)]),(cl b3 178 [(ii ag.eY.most),(ii ag.eY.next),(.map (some a4)),(ll a5 ag.eY.order n5)]),H4,H5,(cl b6 221 [(ll a7 ag.floor.words n7),(ii ag.floor.count)]),H7]) (qk.R v1) [(cl aW 146 [(ii ag.w),(ii ag.h),(ii ag.most),(pp b3),(pp b6)]),(cl b3 178 [(ii ag.eY.most),(ii ag.eY.next),(.map (some a4)),(ll a5 ag.eY.order n5)]),H4,H5,(cl b6 221 [(ll a7 ag.floor.words n7),(ii ag.floor.count)]),H7] [1,1,1,1,1,1] J J J J J0 J J (Jm (A:=[du]) (A2:=[du]) (by simp only[cz,vQ,vP,vR,tv,uR]) (by simp only[cz,vQ,vP,vR,tv,uR]) (qk.c V1 cZ)) ?_
 rintro _ _ ⟨a8,n8,H8,s8,rfl,rfl⟩;refine fz J (an (so [0,1,1,1,1,1,1]) (ao 11 (kR j7.R [] [] J acu H (j7.c · (oO s8 1) s8.bZ (rO Gs 0) Mr) (λv2 H=>?_))));rintro _ _ ⟨a9,n9,H9,cC,n10,bT,dj,n11,cH,s9,bL,cX,rfl,rfl⟩;refine fz J (an (so [0,1,1,1,1,1,1]) (ha T 0 [12,13,14,15,16,17,18,19] (so [0,1,1,1,1,1,1]) hg pf J (ae (rx T 8 (cb J H (λH=>?_) (λH=>?_))))))
 ·refine rc T 10 ?_
  cases H;refine dD [2,2,2,2,2,2] J cz (bz (bz (p1 T J [6,6,5,0] ⟨none,0,[],none,0,[],du,aj.nil,aj.nil,cZ,J,J⟩ J)))
 refine rc T 11 (dD [2,2,2,2,2,2] J cz (lq [0,4,5,33,34] [0,2,2] (λ(⟨k7,x5,x6,dP⟩:Nat×fA×Int×Hp)=>(nV.l0 k7 v2 x5 x6=some r/\l_ x5 aW dP,[(35,(ii x6))],[dP])) J J (fuel,ag,0,du) [0,2,2,2] ⟨H,cZ⟩ J J ?_));rintro k7 ⟨x5,x6,dP⟩ ⟨Z4,dS⟩;rw[nV.l0] at Z4;refine rc T 6 (cd J Z4 (λZ4=>?_) (λZ4=>?_))
 ·refine rc T 6 ?_;obtain⟨c6,Z4⟩:=az Z4;obtain⟨q16,o16,F9⟩:=bL.r.addr c6.1 c6.2;refine ix T J F9 c6 (bA J (fY T (cs:=[(ii (rd v2.2.1 x6).Id),(ii (rd v2.2.1 x6).To)]) J J J J J J (iy (k:=jM) (oO bL 1) F9 c6 J)) (nc T J (λAR=>sg T 4 J (ro T 2 (mq Z4 [0,4,5,8,33,34,35] [0,2,0,0,0] (λl8 (⟨x8,x9,aL,qi⟩:Int×Int×Int×Nat)=>((x8,x9,aL)=l8,[(9,(pp qi))],[(cl qi 67 [(ii x8),(ii x9),(ii aL)])])) J J (λl8 Z7 _=>?_) ?_)))))
  ·obtain⟨Jg,a21,ln,a22,n22,mz,ZV,a24,n24,qZ,jA,iz,kZ,Gm⟩:=(λx=>x) dS;refine bU 3 (congrArg some Gm) (fz J (ks [0,4,5,8,33,34,35] J (fz J (rz [] mix (bH bG) (λhg pf=>ha T 10 [0,1,2] sz hg pf J (al T 3 4 sz hg pf J J J (ha T 8 [4] sz hg pf J (al T 5 3 sz hg pf J J J (gK 6 10 ?_ ?_)))))))))
   ·refine kh [5,5,5] J Ct Z7 (qQ.c · jA iz) (λv12 Z7=>an sz (ha T 3 [7,8,9] sz hg pf J (ao 10 (nw T J (λlz=>an (so [0,0,0,0,0,0,0,0,0,0]) (ao 11 (sf T 10 J (an (so [0,0,0,0,0,0,0,0,0,0]) (ha T 0 [12] (so [0,0,0,0,0,0,0,0,0,0]) hg pf J (ae (rx T 1 (dD [4,4,4,4,4,4] J Gm (am (_,_,_,_) [0,4,0,0,0,0] (oi Z7) J J)))))))))))))
   refine nw T J (λlA=>an (so [0,0,0,0,0,0,0,0,0,0]) (ao 6 (kh [5,5,5] J Ct Z7 (qQ.c · jA iz) (λlP Z7=>an (so [0,0,0,0,0,0,0,0,0,0]) (ha T 2 [7,8,9] (so [0,0,0,0,0,0,0,0,0,0]) hg pf J (ao 11 (sf T 10 J (an (so [0,0,0,0,0,0,0,0,0,0]) (ha T 0 [12] (so [0,0,0,0,0,0,0,0,0,0]) hg pf J (ae (rx T 1 (dD [4,4,4,4,4,4] J Gm (am (_,_,_,_) [0,4,0,0,0,0] (oi Z7) J J)))))))))))))
  rintro _ ⟨x8,x9,aL,qi⟩ rfl Z4;refine rc T 4 (lf T 4 J (ro T 1 (lf T 5 J (ro T 3 (cb J Z4 (λZ4=>?_) (λZ4=>?_))))))
  ·refine rc T 3 (lm T 5 J (kr (ql.R aW) [] [1] J Np Z4 (ql.c (u:=(bD.mk x8 x9 aL)) · dS) (λdT Z4=>?_)));rintro _ _ ⟨Fq,wV,rfl,rfl⟩;refine fz J (ro T 11 (ar (_,_,_) [0,0,0,2] ⟨Z4,wV⟩ J J))
  refine rc T 3 ?_;obtain⟨AU,B3,rZ,a31,n31,BT,xA,a33,n33,IJ,pW,Ae,wW,JO⟩:=(λx=>x) dS;refine bU 1 (congrArg some JO) (fz J (fz J (rz [8] mix (bH bG) (λhg pf=>ha T 6 [0,1,2] sz hg pf J (al T 3 5 sz hg pf J J J (ha T 4 [4] sz hg pf J (al T 5 4 sz hg pf J J J (ha T 2 [6] sz hg pf J (al T 7 3 sz hg pf J J J (ao 8 (kR (xJ.R xA) [] [9,9] J acv Z4 (xJ.c · wW) (λdz Z4=>?_))))))))))));rintro _ _ ⟨FD,n34,vI,yH,rfl,rfl⟩;refine fz J (an sl (ae (rx T 1 (ke [0,4,5,8,33,34,35] [0,0,0,0,1,1,1,1,1,1] J J (fz J (rz [8] mix (bH bG) (λhg pf=>ha T 6 [0,1,2] sz hg pf J (al T 3 4 sz hg pf J J J (ha T 4 [4] sz hg pf J (al T 5 3 sz hg pf J J J (ha T 2 [6] sz hg pf J (al T 7 3 sz hg pf J J J (ao 8 (kR (yW.R AU) [] [5,5,5] J acw Z4 (yW.c · pW Ae) (λdZ Z4=>?_)))))))))))))));rintro _ _ ⟨a35,IK,AP,n36,AG,K9,Dn,rfl,rfl⟩;refine fz J (an sl (ae (rx T 7 (gL [4,6,6,6,4,4] J (ar (_,_,_) [0,0,0,1] ⟨Z4,(show l_ (fA.mk x5.w x5.h x5.most dZ.2 dz.2) aW (List.flatten [(cl aW 146 [(ii x5.w),(ii x5.h),(ii x5.most),(pp AU),(pp xA)]),(cl AU 178 [(ii dZ.2.most),(ii dZ.2.next),(.map (some a35)),(ll AP dZ.2.order n36)]),IK,AG,(cl xA 221 [(ll FD dz.2.words n34),(ii dz.2.count)]),vI]) from⟨AU,a35,IK,AP,n36,AG,xA,FD,n34,vI,K9,Dn,yH,J⟩)⟩ J J)))))
 refine rc T 15 ?_
 cases Z4;exact p1 T J [1,1,1,0] ⟨cC,n10,bT,dj,n11,cH,dP,bL,cX,dS,J,J⟩ J
def A3.f:Option (List bD):=some []
def A3.R (r:(List bD)):bj:=λu G=> ∃a0 n0 H0,aj l6 67 r a0 n0 H0/\u=(ll a0 r n0)/\G=[H0]
theorem A3.c (H:A3.f=some r):
 QR 54 [(.pointer none)] [] [] F (A3.R r):=by
 unfold A3.f at H;refine aF Tryz.func54 J J (λW=>rc T 12 (nS J (rc T 7 ?_)))
 cases H;refine bz (p1 T J [1,0] ⟨none,0,[],aj.nil,J,J⟩ J)
end
noncomputable section
def jf.f (g:bx) (cell:Int):Option Int:=(if cell<0 then(some true) else(some (decide (cell≥(aa g.m.C:Int))))).bind λx1=>if x1=true then(some 0) else(if(0<=cell/\cell<(aa g.m.C:Int)) then(some (af (rd g.m.C cell))) else none)
theorem jf.c (H:jf.f g cell=some r) (fU:iL g fq gu):
 QU 141 [(pp fq),(ii cell)] [gu] F (ii r):=by
 unfold jf.f at H;refine aF Tryz.func141 J J (λW=>rc T 6 (mq H [0,1] [1,0] (λz2 (x1:Bool)=>(x1=z2,[(20,(bb x1))],[])) J J (λz2 Z1 _=>?_) ?_))
 ·obtain⟨a3,n3,H3,a4,n4,H4,s3,s4,cz⟩:=(λx=>x) fU;refine bU 0 (congrArg some cz) (fz J (rc T 8 (ad 11 J Z1 (λZ1=>?_) (λZ1=>?_))))
  ·refine ro T 11 (dD [1,1,1] J cz (am _ [0,0] (oi Z1) J J))
  refine ro T 5 (lf T 1 J (ro T 5 (dD [1,1,1] J cz (am _ [0,0] (oi Z1) J J))))
 rintro _ x1 rfl H;refine cb J H (λH=>?_) (λH=>?_)
 ·refine rc T 7 ?_
  cases H;exact p0 T J [1,0] J
 refine rc T 3 ?_;obtain⟨a6,n6,H6,a7,n7,H7,s6,s7,sD⟩:=(λx=>x) fU;refine bU 1 (congrArg some sD) (fz J (rc T 5 (lf T 1 J (ro T 1 ?_))));obtain⟨c4,H⟩:=az H;obtain⟨q8,o8,e8⟩:=s6.r.addr c4.1 c4.2;refine ix T J e8 c4 (le T 0 (oO s6 2) e8 c4 J J (ro T 5 ?_))
 cases H;refine dD [1,1,1] J sD (p0 T J [1,0] J)
def Gk.f:Option Int:=some 0
theorem Gk.c (H:Gk.f=some r):
 QU 136 [(.pointer none)] [] F (ii r):=by
 unfold Gk.f at H;refine aF Tryz.func136 J J (λW=>rc T 12 (nS J (rc T 7 ?_)))
 cases H;exact p0 T J [0] J
def mh.l0:Nat->aG->Int->(List Int)->(Int×Int)->List Int->Int->Option (Option bx)
 |0,_,_,_,_,_,_=>none
 |k8+1,m,bV,v2,v3,x6,x7=>if x7<(aa (cy (ax (af (v3.1*v3.2))) (0:Int)):Int) then(if(0<=x7/\x7<(aa x6:Int)) then(mh.l0 k8 m bV v2 v3 (aD x6 (ax x7) (af (bV+1))) (af (x7+1))) else none) else(some (some (bx.mk (aG.mk m.W m.H v2) (af (bV+1)) x6)))
def mh.f (m:aG) (bV:Int):Option (Option bx):=(zl.f m).bind λv1=>if(((!v1)||(decide (bV<0)))||(decide (bV>4611686018427387904)))=true then(some none) else((oy.f m.C).bind λv2=>(qT.f m.W m.H).bind λv3=>if(0<=(af (v3.1*v3.2))/\(af (v3.1*v3.2))<=1099511627776) then(mh.l0 fuel m bV v2 v3 (cy (ax (af (v3.1*v3.2))) (0:Int)) 0) else none)
def mh.R (r:(Option bx)):bj:=λu G=> ∃(u0:Value) (G0:List Hp),X7 r u0 G0/\u=u0/\G=G0
theorem mh.c (H:mh.f m bV=some r) (hZ:aO (Fl.int .u8) m.C jY F) (nk:aa m.C<=jN):
 QR 149 [(.agg #[(ii m.W),(ii m.H),(ll jY m.C jN)]),(ii bV)] [] [] F (mh.R r):=by
 unfold mh.f at H;refine aF Tryz.func149 J J (λW=>rc T 2 (nc T J (λb1=>ro T 6 (lm T 1 J (k [] J SQ H (zl.c · (rO hZ 0) nk) (λv1 H=>ro T 2 (go T [4,5,6] 12 [1,2] 15 J J J J J J J (ro T 1 (go T [8,9,10] 16 [1,2] 19 J J J J J J J (ro T 2 (cb J H (λH=>?_) (λH=>?_))))))))))))
 ·refine rc T 7 ?_
  cases H;exact p1 T J [0] ⟨_,_,⟨J,J⟩,J,J⟩ J
 refine rc T 5 (lf T 1 J (kr oy.R [] [] J Nh H (oy.c · (rO hZ 0) nk) (λv2 H=>?_)));rintro _ _ ⟨a2,n2,H2,s2,rfl,rfl⟩;refine fz J (ro T 1 (sg T 1 J (ro T 5 (lf T 1 J (ro T 1 (lf T 1 J (k [] J GA H (qT.c ·) (λv3 H=>ro T 8 (ks [1,2,5,6] J (fz J (rg [] [0,0,0] mix (bH bG) (λhg pf=>av 0 sz hg pf J (gA T 1 J J J J J J J) (ha T 4 [1,2,3,4,5] sz hg pf J (ao 6 ?_))))))))))))));obtain⟨c5,H⟩:=az H;refine xy (k:=(Fl.int .i64)) T (0:Int) J J J J J J J J c5 J (λa3 n3 H3 s3=>an (so [0,0,0]) (ha T 2 [7] (so [0,0,0]) hg pf J (ao 8 (nw T J (λb4=>an (so [0,0,0]) (ha T 0 [9] (so [0,0,0]) hg pf J (ae (rx T 7 (lf T 4 J (ro T 5 (lq [7,45] [0,1] (λ(⟨k8,x6,x7,a6,n6,H6⟩:Nat×List Int×Int×Option Addr×Nat×Hp)=>(mh.l0 k8 m bV v2 v3 x6 x7=some r/\aj (Fl.int .i64) 2 x6 a6 n6 H6,[(46,(ii x7))],[(cl b4 167 [(ii m.W),(ii m.H),(ll a2 v2 n2),(ii (af (bV+1))),(ll a6 x6 n6)]),H6])) J J (fuel,(cy (ax (af (v3.1*v3.2))) (0:Int)),0,a3,n3,H3) [0,1,2,1] ⟨H,s3⟩ J J ?_)))))))))));rintro k8 ⟨x6,x7,a6,n6,H6⟩ ⟨Z6,s6⟩;rw[mh.l0] at Z6;refine rc T 6 (cd J Z6 (λZ6=>?_) (λZ6=>?_))
 ·refine rc T 10 (fz J (rz [10] mix (bH bG) (λhg pf=>ha T 8 [0,1,2] sz hg pf J (al T 3 2 sz hg pf J J J (ha T 3 [4,5,6,7] sz hg pf J (al T 8 2 sz hg pf J J J ?_))))));obtain⟨c8,Z6⟩:=az Z6;obtain⟨q7,o7,e7⟩:=s6.r.addr c8.1 c8.2;refine av 9 sz hg pf J (cu T J J J J J e7 c8.1 c8.2) (ao 10 (jZ (k:=(Fl.int .i64)) T 3 0 (af (bV+1)) J J J J J J s6 e7 c8 J J J (λH8 s8=>kg [7,8,45,46,49,50,51,53,54,55,56,57,58] [0,0,1] [0,0,1,0] [(52,(ll a6 (aD x6 (ax x7) (af (bV+1))) n6))] [(cl b4 167 [(ii m.W),(ii m.H),(ll a2 v2 n2),(ii (af (bV+1))),(ll a6 (aD x6 (ax x7) (af (bV+1))) n6)])] J J ⟨dB,trivial⟩ dB (an sl (ae (rx T 7 (ar (_,_,_,_,_) [0,0,1,0] ⟨Z6,s8⟩ J J)))))))
 refine rc T 12 ?_
 cases Z6;refine gL [2,1,1] J (p1 T J [1,0] ⟨_,_,⟨b4,(List.flatten [(cl b4 167 [(ii m.W),(ii m.H),(ll a2 v2 n2),(ii (af (bV+1))),(ll a6 x6 n6)]),H2,H6]),(show iL (bx.mk (aG.mk m.W m.H v2) (af (bV+1)) x6) b4 (List.flatten [(cl b4 167 [(ii m.W),(ii m.H),(ll a2 v2 n2),(ii (af (bV+1))),(ll a6 x6 n6)]),H2,H6]) from⟨a2,n2,H2,a6,n6,H6,s2,s6,J⟩),J,J⟩,J,J⟩ J)
def iQ.f (g:bx):Option (Int×Int):=some (g.m.W,g.m.H)
theorem iQ.c (H:iQ.f g=some r) (fU:iL g fq gu):
 QU 171 [(pp fq)] [gu] F (.tuple #[(ii r.1),(ii r.2)]):=by
 unfold iQ.f at H;refine aF Tryz.func171 J J (λW=>rc T 13 (eN J (rc T 3 ?_)));obtain⟨a3,n3,H3,a4,n4,H4,s3,s4,cz⟩:=(λx=>x) fU;refine bU 0 (congrArg some cz) (fz J (dw mix aB ?_))
 iterate 4 refine au T J ?_
 refine cD T 1 J J J ?_
 iterate 4 refine au T J ?_
 refine cD T 1 J J J (au T J (au T J (cO (rx T 2 ?_))))
 cases H;refine dD [1,1,1] J cz (p0 T J [1,0] J)
def pE.f (g:bx):Option Int:=some g.bV
theorem pE.c (H:pE.f g=some r) (fU:iL g fq gu):
 QU 136 [(pp fq)] [gu] F (ii r):=by
 unfold pE.f at H;refine aF Tryz.func136 J J (λW=>rc T 12 (eN J (rc T 3 ?_)));obtain⟨a3,n3,H3,a4,n4,H4,s3,s4,cz⟩:=(λx=>x) fU;refine bU 0 (congrArg some cz) (fz J (rc T 4 (lf T 1 J (ro T 4 ?_))))
 cases H;refine dD [1,1,1] J cz (p0 T J [1,0] J)
def xK.f (g:bx) (cell:Int) (cost:Int):Option (Int×bx):=(if cell<0 then(some true) else(some (decide (cell≥(aa g.m.C:Int))))).bind λx1=>if x1=true then(some (7,g)) else(if((decide (cost<1))||(decide (cost>255)))=true then(some (8,g)) else(if(0<=cell/\cell<(aa g.m.C:Int)) then((gG.f g.m.W g.m.H cell).bind λv3=>if(0<=v3/\v3<(aa g.qf:Int)) then(some (0,(bx.mk (aG.mk g.m.W g.m.H (aD g.m.C (ax cell) (bQ cost))) (af (g.bV+1)) (aD g.qf (ax v3) (af (g.bV+1)))))) else none) else none))
def xK.R (aaC:Nat) (r:(Int×bx)):bj:=λu G=> ∃(H0:Hp),iL r.2 aaC H0/\u=(ii r.1)/\G=[H0]
theorem xK.c (H:xK.f g cell cost=some r) (fU:iL g fq gu):
 QR 155 [(pp fq),(ii cell),(ii cost)] [gu] [] F (xK.R fq r):=by
 unfold xK.f at H;refine aF Tryz.func155 J J (λW=>rc T 14 (eN J (mq H [0,1,2] [1,0] (λz2 (x1:Bool)=>(x1=z2,[(10,(bb x1))],[])) J J (λz2 Z1 _=>?_) ?_)))
 ·obtain⟨a3,n3,H3,a4,n4,H4,s3,s4,cz⟩:=(λx=>x) fU;refine bU 0 (congrArg some cz) (fz J (rc T 4 (ad 13 J Z1 (λZ1=>?_) (λZ1=>?_))))
  ·refine ro T 12 (dD [1,1,1] J cz (am _ [0,0] (oi Z1) J J))
  refine ro T 5 (lf T 1 J (ro T 6 (dD [1,1,1] J cz (am _ [0,0] (oi Z1) J J))))
 rintro _ x1 rfl H;refine cb J H (λH=>?_) (λH=>?_)
 ·refine rc T 8 ?_
  cases H;exact p1 T J [1,0] ⟨gu,fU,J,J⟩ J
 refine rc T 5 (go T [3,4,5] 26 [0,1,2] 29 J J J J J J J (ro T 3 (cb J H (λH=>?_) (λH=>?_))))
 ·refine rc T 8 ?_
  cases H;exact p1 T J [1,0] ⟨gu,fU,J,J⟩ J
 refine rc T 4 ?_;obtain⟨a6,n6,H6,a7,n7,H7,s6,s7,sD⟩:=(λx=>x) fU;refine bU 1 (congrArg some sD) (fz J (rc T 5 (lf T 1 J (ro T 3 ?_))));obtain⟨c5,H⟩:=az H;obtain⟨q8,o8,e8⟩:=s6.r.addr c5.1 c5.2;refine ix T J e8 c5 (aV (jZ (k:=(Fl.int .u8)) T 2 0 (bQ cost) J J J J J J s6 e8 c5 J J J (λH9 s9=>kg [0,1] [0,1,1] [0,1,1,0] [] [(cl fq 167 [(ii g.m.W),(ii g.m.H),(ll a6 (aD g.m.C (ax cell) (bQ cost)) n6),(ii g.bV),(ll a7 g.qf n7)])] J J trivial dB (ro T 7 (lf T 3 J (ro T 3 (sg T 3 J (ro T 3 (ks [0,1] J (fz J (rz [21] mix (bH bG) (λhg pf=>ha T 19 [0,1,2] sz hg pf J (al T 3 3 sz hg pf J J J (ha T 14 [4,5,6,7] sz hg pf J (al T 8 3 sz hg pf J J J (ha T 9 [9,10,11,12] sz hg pf J (al T 13 3 sz hg pf J J J (ha T 4 [14,16,17,18] sz hg pf J (al T 19 3 sz hg pf J J J (ao 15 (kh [] J sF H (gG.c ·) (λv3 H=>an sz ?_))))))))))))))))))))));obtain⟨c7,H⟩:=az H;obtain⟨K4,KY,qn⟩:=s7.r.addr c7.1 c7.2;refine av 20 sz hg pf J (cu T J J J J J qn c7.1 c7.2) (ao 21 (jZ (k:=(Fl.int .i64)) T 2 0 (af (g.bV+1)) J J J J J J s7 qn c7 J J J (λcH cX=>kg [0,1,46,47,48,50,51,52,53,54,55,56,57,58,59,60,61,62,63,64,65,66] [0,0,0] [0,0,0,0] [(49,(ll a7 (aD g.qf (ax v3) (af (g.bV+1))) n7))] [(cl fq 167 [(ii g.m.W),(ii g.m.H),(ll a6 (aD g.m.C (ax cell) (bQ cost)) n6),(ii (af (g.bV+1))),(ll a7 (aD g.qf (ax v3) (af (g.bV+1))) n7)])] J J ⟨dB,trivial⟩ dB (an sl (ae (rx T 7 ?_))))))
 cases H;refine gL [3,1,1] J (p1 T J [1,0] ⟨(List.flatten [(cl fq 167 [(ii g.m.W),(ii g.m.H),(ll a6 (aD g.m.C (ax cell) (bQ cost)) n6),(ii (af (g.bV+1))),(ll a7 (aD g.qf (ax v3) (af (g.bV+1))) n7)]),H9,cH]),(show iL (bx.mk (aG.mk g.m.W g.m.H (aD g.m.C (ax cell) (bQ cost))) (af (g.bV+1)) (aD g.qf (ax v3) (af (g.bV+1)))) fq (List.flatten [(cl fq 167 [(ii g.m.W),(ii g.m.H),(ll a6 (aD g.m.C (ax cell) (bQ cost)) n6),(ii (af (g.bV+1))),(ll a7 (aD g.qf (ax v3) (af (g.bV+1))) n7)]),H9,cH]) from⟨a6,n6,H9,a7,n7,cH,s9,cX,J⟩),J,J⟩ J)
def mg.l0:Nat->bx->Int->(Int×Int)->(Int×Int)->List Int->Int->Option (aG×Bool)
 |0,_,_,_,_,_,_=>none
 |k7+1,g,bB,v1,v2,x5,x6=>if x6<v2.2 then((uL.f v1.1 v1.2 bB (af (x6*v2.1))).bind λv8=>if(0<=v8/\v8<=(af (v8+v2.1))/\(af (v8+v2.1))<=(aa g.m.C:Int)) then(if(aa x5+aa (aA g.m.C v8 (af (v8+v2.1)))<=1099511627776) then(mg.l0 k7 g bB v1 v2 (x5++(aA g.m.C v8 (af (v8+v2.1)))) (af (x6+1))) else none) else none) else(some ((aG.mk v2.1 v2.2 x5),true))
def mg.f (g:bx) (bB:Int):Option (aG×Bool):=(iQ.f g).bind λv1=>(rS.f v1.1 v1.2 bB).bind λv2=>if(v2.1==0)=true then(some ((aG.mk 0 0 []),false)) else(mg.l0 fuel g bB v1 v2 [] 0)
def mg.R (r:(aG×Bool)):bj:=λu G=> ∃a0 n0 H0,aj (Fl.int .u8) 5 r.1.C a0 n0 H0/\u=(.tuple #[(.agg #[(ii r.1.W),(ii r.1.H),(ll a0 r.1.C n0)]),(bb r.2)])/\G=[H0]
theorem mg.c (H:mg.f g bB=some r) (fU:iL g fq gu):
 QR 140 [(pp fq),(ii bB)] [gu] [gu] F (mg.R r):=by
 unfold mg.f at H;refine aF Tryz.func140 J J (λW=>rc T 2 (nc T J (λb2=>ro T 6 (k [0] J vc H (iQ.c · fU) (λv1 H=>ro T 12 (k [] J Gw H (rS.c ·) (λv2 H=>ro T 14 (cb J H (λH=>?_) (λH=>?_)))))))))
 ·refine rc T 3 (sg T 2 J (ro T 5 ?_))
  cases H;refine bz (pb T J (.cS (j:=2) [(ii 0),(ii 0),nl] J J J J J J J (.tmp J .nil)) [3,0,0] ⟨(_,_),none,0,[],aj.nil,J,J⟩ J J)
 refine rc T 7 (nc T J (λb4=>sg T 3 J (ro T 10 (bz (lq [0,1,4,6,7,8,10,31] [1,0,0] (λ(⟨k7,x5,x6,a6,n6,H6⟩:Nat×List Int×Int×Option Addr×Nat×Hp)=>(mg.l0 k7 g bB v1 v2 x5 x6=some r/\aj (Fl.int .u8) 5 x5 a6 n6 H6,[(32,(ii x6))],[(cl b4 139 [(ii v2.1),(ii v2.2),(ll a6 x5 n6)]),H6])) J J (fuel,[],0,none,0,[]) [1,0,0,0,0] ⟨H,aj.nil⟩ J J ?_)))));rintro k7 ⟨x5,x6,a6,n6,H6⟩ ⟨Z4,s6⟩;rw[mg.l0] at Z4;refine rc T 6 (cd J Z4 (λZ4=>?_) (λZ4=>?_))
 ·refine rc T 18 (k [] J JS Z4 (uL.c ·) (λv8 Z4=>ro T 3 ?_));obtain⟨a8,n8,H8,a9,n9,H9,s8,s9,sE⟩:=(λx=>x) fU;refine bU 1 (congrArg some sE) (fz J (fz J (rz [12,14] mix (bH bG) (λhg pf=>ha T 14 [0] sz hg pf J (al T 1 2 sz hg pf J J J (ha T 9 [2,3,4,5] sz hg pf J (al T 6 4 sz hg pf J J J (ha T 4 [7,8,9,10] sz hg pf J ?_))))))));obtain⟨c7,Z4⟩:=az Z4;refine av 11 sz hg pf J (kS T J J J J J J c7 s8.bZ) (ao 12 ?_);obtain⟨c8,Z4⟩:=az Z4;refine dQ (k:=(Fl.int .u8)) (xs:=x5) T (g:=3) J J J J J J J J J J s6 (nC (oO s8 5) c7 s8.bZ) c8 J (λcC n10 bT bL=>an sl (hb T 13 sl hg pf J (ao 14 (sf T 2 J (an sl (ae (rx T 7 (dD [4,4,4] J sE (ar (_,_,_,_,_) [0,3,0,0,0] ⟨Z4,bL⟩ J J)))))))))
 refine rc T 7 (lm T 3 J (sg T 2 J (ro T 4 ?_)))
 cases Z4;exact pb T J (.cS (j:=2) [(ii v2.1),(ii v2.2),(ll a6 x5 n6)] J J J J J J J (.tmp J .nil)) [4,1,0] ⟨(_,_),a6,n6,H6,s6,J,J⟩ J J
def qv.f (g:bx) (bB:Int):Option Int:=(if bB<0 then(some true) else(some (decide (bB≥(aa g.qf:Int))))).bind λx1=>if x1=true then(some 0) else(if(0<=bB/\bB<(aa g.qf:Int)) then(some (rd g.qf bB)) else none)
theorem qv.c (H:qv.f g bB=some r) (fU:iL g fq gu):
 QU 137 [(pp fq),(ii bB)] [gu] F (ii r):=by
 unfold qv.f at H;refine aF Tryz.func137 J J (λW=>rc T 6 (mq H [0,1] [1,0] (λz2 (x1:Bool)=>(x1=z2,[(19,(bb x1))],[])) J J (λz2 Z1 _=>?_) ?_))
 ·obtain⟨a3,n3,H3,a4,n4,H4,s3,s4,cz⟩:=(λx=>x) fU;refine bU 0 (congrArg some cz) (fz J (rc T 8 (ad 11 J Z1 (λZ1=>?_) (λZ1=>?_))))
  ·refine ro T 10 (dD [1,1,1] J cz (am _ [0,0] (oi Z1) J J))
  refine ro T 4 (lf T 1 J (ro T 5 (dD [1,1,1] J cz (am _ [0,0] (oi Z1) J J))))
 rintro _ x1 rfl H;refine cb J H (λH=>?_) (λH=>?_)
 ·refine rc T 7 ?_
  cases H;exact p0 T J [1,0] J
 refine rc T 3 ?_;obtain⟨a6,n6,H6,a7,n7,H7,s6,s7,sD⟩:=(λx=>x) fU;refine bU 1 (congrArg some sD) (fz J (rc T 4 (lf T 1 J (ro T 1 ?_))));obtain⟨c4,H⟩:=az H;obtain⟨q8,o8,e8⟩:=s7.r.addr c4.1 c4.2;refine ix T J e8 c4 (le T 0 (oO s7 3) e8 c4 J J (ro T 4 ?_))
 cases H;refine dD [1,1,1] J sD (p0 T J [1,0] J)
def A7.f:Option aG:=some (aG.mk 0 0 [])
def A7.R (r:aG):bj:=λu G=> ∃a0 n0 H0,aj (Fl.int .u8) 5 r.C a0 n0 H0/\u=(.agg #[(ii r.W),(ii r.H),(ll a0 r.C n0)])/\G=[H0]
theorem A7.c (H:A7.f=some r):
 QR 74 [(.pointer none)] [] [] F (A7.R r):=by
 unfold A7.f at H;refine aF Tryz.func74 J J (λW=>rc T 2 (nc T J (λb1=>ro T 9 (nS J (rc T 3 (sg T 1 J (ro T 4 ?_)))))))
 cases H;refine bz (pb T J (.cS (j:=1) [(ii 0),(ii 0),nl] J J J J J J J .nil) [2,0] ⟨(_,_),none,0,[],aj.nil,J,J⟩ J J)
def xL.f (g:bx):Option aG:=(oy.f g.m.C).bind λv1=>some (aG.mk g.m.W g.m.H v1)
def xL.R (r:aG):bj:=λu G=> ∃a0 n0 H0,aj (Fl.int .u8) 5 r.C a0 n0 H0/\u=(.agg #[(ii r.W),(ii r.H),(ll a0 r.C n0)])/\G=[H0]
theorem xL.c (H:xL.f g=some r) (fU:iL g fq gu):
 QR 74 [(pp fq)] [gu] [gu] F (xL.R r):=by
 unfold xL.f at H;refine aF Tryz.func74 J J (λW=>rc T 2 (nc T J (λb2=>ro T 9 (eN J (rc T 3 ?_)))));obtain⟨a4,n4,H4,a5,n5,H5,s4,s5,dx⟩:=(λx=>x) fU;refine bU 0 (congrArg some dx) (fz J (ks [0,2] J (fz J (rg [17] [0,0,0,0,0] mix (bH bG) (λhg pf=>ha T 14 [0,1,2,3] sz hg pf J (al T 4 2 sz hg pf J J J (ha T 9 [5,6,7,8] sz hg pf J (al T 9 2 sz hg pf J J J (ha T 4 [10,11,12,13] sz hg pf J (al T 14 2 sz hg pf J J J (ao 15 (kR oy.R [] [] J Nh H (oy.c · (oO s4 3) s4.bZ) (λv1 H=>?_)))))))))))));rintro _ _ ⟨a6,n6,H6,s6,rfl,rfl⟩;refine fz J (an (so [0,0,0,0,0]) (ha T 1 [16] (so [0,0,0,0,0]) hg pf J (ao 17 (sf T 1 J (an sl (ae (rx T 1 (rc T 1 ?_))))))))
 cases H;refine dD [2,2,2] J dx (pb T J (.cS (j:=1) [(ii g.m.W),(ii g.m.H),(ll a6 v1 n6)] J J J J J J J .nil) [2,2,0] ⟨(_,_),a6,n6,H6,s6,J,J⟩ J J)
end
noncomputable section
def zq.f:Option (List Int):=some [0,1,2,3]
theorem zq.c (H:zq.f=some r):
 QU 205 [] [] F (.agg #[(ii (rd r 0)),(ii (rd r 1)),(ii (rd r 2)),(ii (rd r 3))]):=by
 unfold zq.f at H;refine aF Tryz.func205 J J (λW=>rc T 2 (nc T J (λb1=>ro T 4 (bA J (Gf T J J J J J J) (sg T 1 J (ro T 3 ?_))))))
 cases H;exact pb T J (.cS (j:=1) [(ii 0),(ii 1),(ii 2),(ii 3)] J J J J J J J .nil) [0] () J J
def fx.l3:Nat->Int->Int->List Int->Int->Option (List Int)
 |0,_,_,_,_=>none
 |KD+1,tw,th,c_,dA=>if dA<th then(if(aa c_+1<=1099511627776) then(fx.l3 KD tw th (c_++[(af (0+(af (dA*tw))))]) (af (dA+1))) else none) else(some c_)
def fx.l2:Nat->Int->Int->List Int->Int->Option (List Int)
 |0,_,_,_,_=>none
 |lZ+1,tw,th,aP,bh=>if bh<th then(if(aa aP+1<=1099511627776) then(fx.l2 lZ tw th (aP++[(af ((af (tw-1))+(af (bh*tw))))]) (af (bh+1))) else none) else(some aP)
def fx.l1:Nat->Int->List Int->Int->Option (List Int)
 |0,_,_,_=>none
 |yb+1,tw,x8,x9=>if x9<tw then(if(aa x8+1<=1099511627776) then(fx.l1 yb tw (x8++[(af (0+x9))]) (af (x9+1))) else none) else(some x8)
def fx.l0:Nat->Int->Int->List Int->Int->Option (List Int)
 |0,_,_,_,_=>none
 |k5+1,tw,th,x3,x4=>if x4<tw then(if(aa x3+1<=1099511627776) then(fx.l0 k5 tw th (x3++[(af ((af ((af (th-1))*tw))+x4))]) (af (x4+1))) else none) else(some x3)
def fx.f (tw:Int) (th:Int) (side:Int):Option (List Int):=if(side==2)=true then(fx.l0 fuel tw th [] 0) else(if(side==0)=true then(fx.l1 fuel tw [] 0) else(if(side==1)=true then(fx.l2 fuel tw th [] 0) else(if(side==3)=true then(fx.l3 fuel tw th [] 0) else(some []))))
def fx.R (r:(List Int)):bj:=λu G=> ∃a0 n0 H0,aj (Fl.int .i64) 3 r a0 n0 H0/\u=(ll a0 r n0)/\G=[H0]
theorem fx.c (H:fx.f tw th side=some r):
 QR 233 [(ii tw),(ii th),(ii side)] [] [] F (fx.R r):=by
 unfold fx.f at H;refine aF Tryz.func233 J J (λW=>rc T 38 (cb J H (λH=>?_) (λH=>?_)))
 ·refine rc T 22 (bz (lq [8,24] [0] (λ(⟨k5,x3,x4,a2,n2,H2⟩:Nat×List Int×Int×Option Addr×Nat×Hp)=>(fx.l0 k5 tw th x3 x4=some r/\aj (Fl.int .i64) 3 x3 a2 n2 H2,[(7,(ll a2 x3 n2)),(25,(ii x4))],[H2])) J J (fuel,[],0,none,0,[]) [0,0] ⟨H,aj.nil⟩ J J ?_));rintro k5 ⟨x3,x4,a2,n2,H2⟩ ⟨Z2,s2⟩;rw[fx.l0] at Z2;refine rc T 6 (cd J Z2 (λZ2=>?_) (λZ2=>?_))
  ·refine rc T 15 (aV (cW (k:=(Fl.int .i64)) T [(af ((af ((af (th-1))*tw))+x4))] J J J J J J J J J (λa3 H3 s3=>?_)));obtain⟨c4,Z2⟩:=az Z2;refine aV (dQ (k:=(Fl.int .i64)) (xs:=x3) T (g:=1) J J J J J J J J J J s2 (oO s3 2) c4 J (λa4 n4 H4 s4=>ro T 9 (ar (_,_,_,_,_) [0,0] ⟨Z2,s4⟩ J J)))
  refine rc T 19 ?_
  cases Z2;exact p1 T J [1,0] ⟨a2,n2,H2,s2,J,J⟩ J
 refine rc T 9 (cb J H (λH=>?_) (λH=>?_))
 ·refine rc T 15 (bz (lq [8,24] [0] (λ(⟨yb,x8,x9,a6,n6,H6⟩:Nat×List Int×Int×Option Addr×Nat×Hp)=>(fx.l1 yb tw x8 x9=some r/\aj (Fl.int .i64) 3 x8 a6 n6 H6,[(7,(ll a6 x8 n6)),(25,(ii x9))],[H6])) J J (fuel,[],0,none,0,[]) [0,0] ⟨H,aj.nil⟩ J J ?_));rintro yb ⟨x8,x9,a6,n6,H6⟩ ⟨Z6,s6⟩;rw[fx.l1] at Z6;refine rc T 6 (cd J Z6 (λZ6=>?_) (λZ6=>?_))
  ·refine rc T 15 (aV (cW (k:=(Fl.int .i64)) T [(af (0+x9))] J J J J J J J J J (λa7 H7 s7=>?_)));obtain⟨c8,Z6⟩:=az Z6;refine aV (dQ (k:=(Fl.int .i64)) (xs:=x8) T (g:=1) J J J J J J J J J J s6 (oO s7 2) c8 J (λa8 n8 H8 s8=>ro T 9 (ar (_,_,_,_,_) [0,0] ⟨Z6,s8⟩ J J)))
  refine rc T 19 ?_
  cases Z6;exact p1 T J [1,0] ⟨a6,n6,H6,s6,J,J⟩ J
 refine rc T 9 (cb J H (λH=>?_) (λH=>?_))
 ·refine rc T 24 (bz (lq [0,8,37] [0] (λ(⟨lZ,aP,bh,cC,n10,bT⟩:Nat×List Int×Int×Option Addr×Nat×Hp)=>(fx.l2 lZ tw th aP bh=some r/\aj (Fl.int .i64) 3 aP cC n10 bT,[(7,(ll cC aP n10)),(38,(ii bh))],[bT])) J J (fuel,[],0,none,0,[]) [0,0] ⟨H,aj.nil⟩ J J ?_));rintro lZ ⟨aP,bh,cC,n10,bT⟩ ⟨i_,bL⟩;rw[fx.l2] at i_;refine rc T 6 (cd J i_ (λi_=>?_) (λi_=>?_))
  ·refine rc T 17 (aV (cW (k:=(Fl.int .i64)) T [(af ((af (tw-1))+(af (bh*tw))))] J J J J J J J J J (λdj cH cX=>?_)));obtain⟨gy,i_⟩:=az i_;refine aV (dQ (k:=(Fl.int .i64)) (xs:=aP) T (g:=1) J J J J J J J J J J bL (oO cX 2) gy J (λa12 n12 dq dE=>ro T 9 (ar (_,_,_,_,_) [0,0] ⟨i_,dE⟩ J J)))
  refine rc T 15 ?_
  cases i_;exact p1 T J [1,0] ⟨cC,n10,bT,bL,J,J⟩ J
 refine rc T 8 (cb J H (λH=>?_) (λH=>?_))
 ·refine rc T 18 (bz (lq [0,8,37] [0] (λ(⟨KD,c_,dA,gU,n14,fp⟩:Nat×List Int×Int×Option Addr×Nat×Hp)=>(fx.l3 KD tw th c_ dA=some r/\aj (Fl.int .i64) 3 c_ gU n14 fp,[(7,(ll gU c_ n14)),(38,(ii dA))],[fp])) J J (fuel,[],0,none,0,[]) [0,0] ⟨H,aj.nil⟩ J J ?_));rintro KD ⟨c_,dA,gU,n14,fp⟩ ⟨bY,fT⟩;rw[fx.l3] at bY;refine rc T 6 (cd J bY (λbY=>?_) (λbY=>?_))
  ·refine rc T 17 (aV (cW (k:=(Fl.int .i64)) T [(af (0+(af (dA*tw))))] J J J J J J J J J (λjX dP dS=>?_)));obtain⟨qj,bY⟩:=az bY;refine aV (dQ (k:=(Fl.int .i64)) (xs:=c_) T (g:=1) J J J J J J J J J J fT (oO dS 2) qj J (λiu n16 ft eB=>ro T 9 (ar (_,_,_,_,_) [0,0] ⟨bY,eB⟩ J J)))
  refine rc T 15 ?_
  cases bY;exact p1 T J [1,0] ⟨gU,n14,fp,fT,J,J⟩ J
 refine rc T 20 ?_
 cases H;refine bz (p1 T J [1,0] ⟨none,0,[],aj.nil,J,J⟩ J)
def zp.f (w:Int) (h:Int) (cell:Int) (side:Int):Option Int:=(nf.f w h cell side).bind λv1=>(if v1<0 then(some true) else((gG.f w h v1).bind λv4=>(gG.f w h cell).bind λv5=>some (v4==v5))).bind λx2=>if x2=true then(some (-1)) else(some v1)
theorem zp.c (H:zp.f w h cell side=some r):
 QU 206 [(ii w),(ii h),(ii cell),(ii side)] [] F (ii r):=by
 unfold zp.f at H;refine aF Tryz.func206 J J (λW=>rc T 11 (k [] J A9 H (nf.c ·) (λv1 H=>ro T 4 (mq H [9] [0] (λz3 (x2:Bool)=>(x2=z3,[(27,(bb x2))],[])) J J (λz3 Z2 _=>?_) ?_))))
 ·refine rc T 4 (ad 17 J Z2 (λZ2=>?_) (λZ2=>?_))
  ·refine ro T 12 (am _ [0] (oi Z2) J J)
  refine ro T 3 (k [] J sF Z2 (gG.c ·) (λv4 Z2=>ro T 3 (k [] J sF Z2 (gG.c ·) (λv5 Z2=>ro T 4 (am _ [0] (oi Z2) J J)))))
 rintro _ x2 rfl H;refine cb J H (λH=>?_) (λH=>?_)
 ·refine rc T 7 ?_
  cases H;exact p0 T J [0] J
 refine rc T 9 ?_
 cases H;exact p0 T J [0] J
def gV.l2:Nat->Int->Int->Int->List Bool->List Int->Int->Option (List Int)
 |0,_,_,_,_,_,_=>none
 |pM+1,w,h,bB,x5,bI,dL=>if dL<(aa x5:Int) then(if(0<=dL/\dL<(aa x5:Int)) then(if(rd x5 dL)=true then((uL.f w h bB dL).bind λv25=>if(aa bI+1<=1099511627776) then(gV.l2 pM w h bB x5 (bI++[v25]) (af (dL+1))) else none) else(gV.l2 pM w h bB x5 bI (af (dL+1)))) else none) else(some bI)
def gV.l1:Nat->(List Int)->List Bool->Int->Option (List Bool)
 |0,_,_,_=>none
 |KC+1,v10,cM,c_=>if c_<(aa v10:Int) then(if(0<=c_/\c_<(aa v10:Int)) then(if(0<=(rd v10 c_)/\(rd v10 c_)<(aa cM:Int)) then(gV.l1 KC v10 (aD cM (ax (rd v10 c_)) true) (af (c_+1))) else none) else none) else(some cM)
def gV.l0:Nat->Int->Int->Int->(Int×Int)->(List Int)->List Bool->Int->Option (List Int)
 |0,_,_,_,_,_,_,_=>none
 |k7+1,w,h,bB,v1,v2,x5,x6=>if x6<4 then((if(0<=x6/\x6<(aa [(rd v2 0),(rd v2 1),(rd v2 2),(rd v2 3)]:Int)) then((fx.f v1.1 v1.2 (rd [(rd v2 0),(rd v2 1),(rd v2 2),(rd v2 3)] x6)).bind λv10=>(if((aa v10:Int)==0)=true then(some true) else(if(0<=(0:Int)/\(0:Int)<(aa v10:Int)) then((uL.f w h bB (rd v10 0)).bind λlP=>(zp.f w h lP (rd [(rd v2 0),(rd v2 1),(rd v2 2),(rd v2 3)] x6)).bind λdT=>some (decide (dT<0))) else none)).bind λa_=>if a_=true then(some x5) else(gV.l1 fuel v10 x5 0)) else none).bind λx8=>gV.l0 k7 w h bB v1 v2 x8 (af (x6+1))) else(gV.l2 fuel w h bB x5 [] 0)
def gV.f (w:Int) (h:Int) (bB:Int):Option (List Int):=(rS.f w h bB).bind λv1=>if(0<=(af (v1.1*v1.2))/\(af (v1.1*v1.2))<=1099511627776) then((zq.f).bind λv2=>gV.l0 fuel w h bB v1 v2 (cy (ax (af (v1.1*v1.2))) false) 0) else none
def gV.R (r:(List Int)):bj:=λu G=> ∃a0 n0 H0,aj (Fl.int .i64) 3 r a0 n0 H0/\u=(ll a0 r n0)/\G=[H0]
theorem gV.c (H:gV.f w h bB=some r):
 QR 203 [(ii w),(ii h),(ii bB)] [] [] F (gV.R r):=by
 unfold gV.f at H;refine aF Tryz.func203 J J (λW=>rc T 10 (k [] J Gw H (rS.c ·) (λv1 H=>ro T 12 ?_)));obtain⟨c2,H⟩:=az H;refine aV (xy (k:=Fl.bool) T false J J J J J J J J c2 J (λa1 n1 H1 s1=>ro T 6 (k [] J Ta H (zq.c ·) (λv2 H=>ro T 4 (lq [0,1,2,7,8,29] [0] (λ(⟨k7,x5,x6,a3,n3,H3⟩:Nat×List Bool×Int×Option Addr×Nat×Hp)=>(gV.l0 k7 w h bB v1 v2 x5 x6=some r/\aj Fl.bool 4 x5 a3 n3 H3,[(9,(ll a3 x5 n3)),(30,(ii x6))],[H3])) J J (fuel,(cy (ax (af (v1.1*v1.2))) false),0,a1,n1,H1) [0,0] ⟨H,s1⟩ J J ?_)))));rintro k7 ⟨x5,x6,a3,n3,H3⟩ ⟨Z4,s3⟩;rw[gV.l0] at Z4;refine rc T 6 (cd J Z4 (λZ4=>?_) (λZ4=>?_))
 ·refine rc T 2 (mq Z4 [0,1,2,7,8,29,30] [0] (λz9 (⟨x8,a4,n4,H4⟩:List Bool×Option Addr×Nat×Hp)=>(x8=z9/\aj Fl.bool 4 x8 a4 n4 H4,[(9,(ll a4 x8 n4))],[H4])) J J (λz9 Z6 _=>?_) ?_)
  ·refine rc T 3 ?_;obtain⟨c7,Z6⟩:=az Z6;refine bA J (Sa T (Fl.int .i64) [(rd v2 0),(rd v2 1),(rd v2 2),(rd v2 3)] J J J J J J J J J c7 J) (ro T 8 (kr fx.R [] [] J ac9 Z6 (fx.c ·) (λv10 Z6=>?_)));rintro _ _ ⟨a5,n5,H5,s5,rfl,rfl⟩;refine fz J (ro T 4 (mq Z6 [0,1,2,7,8,9,12,29,30] [0,0,0] (λz12 (a_:Bool)=>(a_=z12,[(53,(bb a_))],[])) J J (λz12 Z9 _=>?_) ?_))
   ·refine rc T 5 (ab 40 J Z9 (λZ9=>?_) (λZ9=>?_))
    ·refine ro T 15 (am _ [0,0,0] (oi Z9) J J)
    refine ro T 6 ?_;obtain⟨dK,Z9⟩:=az Z9;obtain⟨q6,o6,e6⟩:=s5.r.addr dK.1 dK.2;refine ix T J e6 dK (le T 0 (oO s5 2) e6 dK J J (k [] J JS Z9 (uL.c ·) (λlP Z9=>ro T 1 (k [] J Tb Z9 (zp.c ·) (λdT Z9=>ro T 4 (am _ [0,0,0] (oi Z9) J J))))))
   rintro _ a_ rfl Z6;refine cb J Z6 (λZ6=>?_) (λZ6=>?_)
   ·refine rc T 4 (am (_,_,_,_) [0,0] ⟨oi Z6,s3⟩ J J)
   refine rc T 10 (lq [0,1,2,7,8,29,30,54,55] [0,1] (λ(⟨KC,cM,c_,a8,n8,H8⟩:Nat×List Bool×Int×Option Addr×Nat×Hp)=>(gV.l1 KC v10 cM c_=some z9/\aj Fl.bool 4 cM a8 n8 H8,[(9,(ll a8 cM n8)),(56,(ii c_))],[H8])) J J (fuel,x5,0,a3,n3,H3) [0,1,0] ⟨Z6,s3⟩ J J ?_);rintro KC ⟨cM,c_,a8,n8,H8⟩ ⟨dC,s8⟩;rw[gV.l1] at dC;refine rc T 6 (cd J dC (λdC=>?_) (λdC=>?_))
   ·refine rc T 6 ?_;obtain⟨lU,dC⟩:=az dC;obtain⟨q9,o9,e9⟩:=s5.r.addr lU.1 lU.2;refine ix T J e9 lU (le T 0 (oO s5 1) e9 lU J J (ro T 6 ?_));obtain⟨lV,dC⟩:=az dC;obtain⟨K4,KY,qn⟩:=s8.r.addr lV.1 lV.2;refine ix T J qn lV (aV (jZ (k:=Fl.bool) T 2 0 true J J J J J J s8 qn lV J J J (λcH cX=>kf [0,1,2,7,8,29,30,54,55,56] [0,0,0] [(9,(ll a8 (aD cM (ax (rd v10 c_)) true) n8))] J J ⟨dB,trivial⟩ (ro T 8 (ar (_,_,_,_,_) [0,0,0] ⟨dC,cX⟩ J J)))))
   refine rc T 6 (am (_,_,_,_) [0,1] ⟨oi dC,s8⟩ J J)
  rintro _ ⟨x8,a4,n4,H4⟩ ⟨rfl,s4⟩ Z4;refine rc T 5 (ar (_,_,_,_,_) [0,0] ⟨Z4,s4⟩ J J)
 refine rc T 19 (bz (lq [0,1,2,65,66] [0,0] (λ(⟨pM,bI,dL,dh,n13,dI⟩:Nat×List Int×Int×Option Addr×Nat×Hp)=>(gV.l2 pM w h bB x5 bI dL=some r/\aj (Fl.int .i64) 3 bI dh n13 dI,[(15,(ll dh bI n13)),(67,(ii dL))],[dI])) J J (fuel,[],0,none,0,[]) [0,0,0] ⟨Z4,aj.nil⟩ J J ?_));rintro pM ⟨bI,dL,dh,n13,dI⟩ ⟨fh,cY⟩;rw[gV.l2] at fh;refine rc T 6 (cd J fh (λfh=>?_) (λfh=>?_))
 ·refine rc T 7 ?_;obtain⟨pB,fh⟩:=az fh;obtain⟨q14,o14,Cj⟩:=s3.r.addr pB.1 pB.2;refine ix T J Cj pB (le T 0 (oO s3 1) Cj pB J J (ro T 9 (cb J fh (λfh=>?_) (λfh=>?_))))
  ·refine rc T 6 (k [] J JS fh (uL.c ·) (λv25 fh=>aV (cW (k:=(Fl.int .i64)) T [v25] J J J J J J J J J (λjX dP dS=>?_))));obtain⟨uZ,fh⟩:=az fh;refine aV (dQ (k:=(Fl.int .i64)) (xs:=bI) T (g:=2) J J J J J J J J J J cY (oO dS 3) uZ J (λiu n16 ft eB=>ro T 9 (ar (_,_,_,_,_) [0,0,0] ⟨fh,eB⟩ J J)))
  refine rc T 8 (ar (_,_,_,_,_) [0,0,0] ⟨fh,cY⟩ J J)
 refine rc T 12 ?_
 cases fh;exact p1 T J [2,0] ⟨dh,n13,dI,cY,J,J⟩ J
def uY.f (g:bx) (cell:Int):Option Bool:=(jf.f g cell).bind λv1=>some ((decide (v1>0))&&(decide (v1<255)))
theorem uY.c (H:uY.f g cell=some r) (fU:iL g fq gu):
 QU 204 [(pp fq),(ii cell)] [gu] F (bb r):=by
 unfold uY.f at H;refine aF Tryz.func204 J J (λW=>rc T 9 (k [0] J wm H (jf.c · fU) (λv1 H=>ro T 8 (ga T [3,4,5] 11 [] 14 J J J J J J J (ro T 4 ?_)))))
 cases H;exact p0 T J [0,0] J
def ko.l0:Nat->bx->(List Int)->List Int->Int->Option (List Int)
 |0,_,_,_,_=>none
 |k7+1,g,v2,x5,x6=>if x6<(aa v2:Int) then(if(0<=x6/\x6<(aa v2:Int)) then((uY.f g (rd v2 x6)).bind λv8=>if v8=true then(if(aa x5+1<=1099511627776) then(ko.l0 k7 g v2 (x5++[(rd v2 x6)]) (af (x6+1))) else none) else(ko.l0 k7 g v2 x5 (af (x6+1)))) else none) else(some x5)
def ko.f (g:bx) (bB:Int):Option (List Int):=(iQ.f g).bind λv1=>(gV.f v1.1 v1.2 bB).bind λv2=>ko.l0 fuel g v2 [] 0
def ko.R (r:(List Int)):bj:=λu G=> ∃a0 n0 H0,aj (Fl.int .i64) 3 r a0 n0 H0/\u=(ll a0 r n0)/\G=[H0]
theorem ko.c (H:ko.f g bB=some r) (fU:iL g fq gu):
 QR 175 [(pp fq),(ii bB)] [gu] [gu] F (ko.R r):=by
 unfold ko.f at H;refine aF Tryz.func175 J J (λW=>rc T 8 (k [0] J vc H (iQ.c · fU) (λv1 H=>ro T 18 (kr gV.R [] [] J acR H (gV.c ·) (λv2 H=>?_)))));rintro _ _ ⟨a2,n2,H2,s2,rfl,rfl⟩;refine fz J (ro T 5 (bz (lq [0,18,19] [1,0,0] (λ(⟨k7,x5,x6,a4,n4,H4⟩:Nat×List Int×Int×Option Addr×Nat×Hp)=>(ko.l0 k7 g v2 x5 x6=some r/\aj (Fl.int .i64) 3 x5 a4 n4 H4,[(7,(ll a4 x5 n4)),(20,(ii x6))],[H4])) J J (fuel,[],0,none,0,[]) [1,0,0,0] ⟨H,aj.nil⟩ J J ?_)));rintro k7 ⟨x5,x6,a4,n4,H4⟩ ⟨Z3,s4⟩;rw[ko.l0] at Z3;refine rc T 6 (cd J Z3 (λZ3=>?_) (λZ3=>?_))
 ·refine rc T 6 ?_;obtain⟨c5,Z3⟩:=az Z3;obtain⟨q5,o5,e5⟩:=s2.r.addr c5.1 c5.2;refine ix T J e5 c5 (le T 0 (oO s2 2) e5 c5 J J (ro T 7 (k [1] J Nt Z3 (uY.c · fU) (λv8 Z3=>ro T 2 (cb J Z3 (λZ3=>?_) (λZ3=>?_))))))
  ·refine rc T 3 (aV (cW (k:=(Fl.int .i64)) T [(rd v2 x6)] J J J J J J J J J (λa6 H6 s6=>?_)));obtain⟨c8,Z3⟩:=az Z3;refine aV (dQ (k:=(Fl.int .i64)) (xs:=x5) T (g:=3) J J J J J J J J J J s4 (oO s6 4) c8 J (λa7 n7 H7 s7=>ro T 9 (ar (_,_,_,_,_) [0,0,0,0] ⟨Z3,s7⟩ J J)))
  refine rc T 8 (ar (_,_,_,_,_) [0,0,0,0] ⟨Z3,s4⟩ J J)
 refine rc T 12 ?_
 cases Z3;exact p1 T J [3,1,0] ⟨a4,n4,H4,s4,J,J⟩ J
def nT.l0:Nat->bx->Int->(Int×Int)->(List Int)->List ez->Int->Option (List ez)
 |0,_,_,_,_,_,_=>none
 |k8+1,g,cell,v1,v3,x6,x7=>if x7<4 then(if(0<=x7/\x7<(aa [(rd v3 0),(rd v3 1),(rd v3 2),(rd v3 3)]:Int)) then((zp.f v1.1 v1.2 cell (rd [(rd v3 0),(rd v3 1),(rd v3 2),(rd v3 3)] x7)).bind λv9=>(if v9≥0 then((uY.f g v9).bind λv12=>some v12) else(some false)).bind λaL=>if aL=true then((jf.f g v9).bind λlP=>if(aa x6+1<=1099511627776) then(nT.l0 k8 g cell v1 v3 (x6++[(ez.mk v9 lP)]) (af (x7+1))) else none) else(nT.l0 k8 g cell v1 v3 x6 (af (x7+1)))) else none) else(some x6)
def nT.f (g:bx) (cell:Int):Option (List ez):=(iQ.f g).bind λv1=>(uY.f g cell).bind λv2=>if(!v2)=true then(some []) else((zq.f).bind λv3=>nT.l0 fuel g cell v1 v3 [] 0)
def nT.R (r:(List ez)):bj:=λu G=> ∃a0 n0 H0,aj pN 283 r a0 n0 H0/\u=(ll a0 r n0)/\G=[H0]
theorem nT.c (H:nT.f g cell=some r) (fU:iL g fq gu):
 QR 176 [(pp fq),(ii cell)] [gu] [gu] F (nT.R r):=by
 unfold nT.f at H;refine aF Tryz.func176 J J (λW=>rc T 8 (k [0] J vc H (iQ.c · fU) (λv1 H=>ro T 12 (k [0] J Nt H (uY.c · fU) (λv2 H=>ro T 3 (cb J H (λH=>?_) (λH=>?_)))))))
 ·refine rc T 7 ?_
  cases H;refine bz (p1 T J [2,0,0] ⟨none,0,[],aj.nil,J,J⟩ J)
 refine rc T 10 (k [] J Ta H (zq.c ·) (λv3 H=>ro T 4 (bz (lq [0,1,5,6,20] [1,0] (λ(⟨k8,x6,x7,a4,n4,H4⟩:Nat×List ez×Int×Option Addr×Nat×Hp)=>(nT.l0 k8 g cell v1 v3 x6 x7=some r/\aj pN 283 x6 a4 n4 H4,[(7,(ll a4 x6 n4)),(21,(ii x7))],[H4])) J J (fuel,[],0,none,0,[]) [1,0,0] ⟨H,aj.nil⟩ J J ?_))));rintro k8 ⟨x6,x7,a4,n4,H4⟩ ⟨Z5,s4⟩;rw[nT.l0] at Z5;refine rc T 6 (cd J Z5 (λZ5=>?_) (λZ5=>?_))
 ·refine rc T 6 ?_;obtain⟨c7,Z5⟩:=az Z5;refine bA J (Sa T (Fl.int .i64) [(rd v3 0),(rd v3 1),(rd v3 2),(rd v3 3)] J J J J J J J J J c7 J) (ro T 9 (k [] J Tb Z5 (zp.c ·) (λv9 Z5=>ro T 3 (mq Z5 [0,1,5,6,7,10,20,21] [0,0,0] (λl8 (aL:Bool)=>(aL=l8,[(35,(bb aL))],[])) J J (λl8 Z9 _=>?_) ?_))))
  ·refine rc T 4 (ad 31 J Z9 (λZ9=>?_) (λZ9=>?_))
   ·refine ro T 2 (k [1] J Nt Z9 (uY.c · fU) (λv12 Z9=>ro T 3 (am _ [0,0,0] (oi Z9) J J)))
   refine ro T 6 (am _ [0,0,0] (oi Z9) J J)
  rintro _ aL rfl Z5;refine cb J Z5 (λZ5=>?_) (λZ5=>?_)
  ·refine rc T 5 (k [1] J wm Z5 (jf.c · fU) (λlP Z5=>ro T 1 (aV (cW (k:=pN) T [(ez.mk v9 lP)] J J J J J J J J J (λa5 H5 s5=>?_)))));obtain⟨jo,Z5⟩:=az Z5;refine aV (dQ (k:=pN) (xs:=x6) T (g:=2) J J J J J J J J J J s4 (oO s5 3) jo J (λa6 n6 H6 s6=>ro T 9 (ar (_,_,_,_,_) [0,0,0] ⟨Z5,s6⟩ J J)))
  refine rc T 8 (ar (_,_,_,_,_) [0,0,0] ⟨Z5,s4⟩ J J)
 refine rc T 12 ?_
 cases Z5;exact p1 T J [2,1,0] ⟨a4,n4,H4,s4,J,J⟩ J
end
noncomputable section
def wv.f:Option (Option eP):=some (some (eP.mk []))
def wv.R (r:(Option eP)):bj:=λu G=> ∃(u0:Value) (G0:List Hp),X8 r u0 G0/\u=u0/\G=G0
theorem wv.c (H:wv.f=some r):
 QR 213 [] [] [] F (wv.R r):=by
 unfold wv.f at H;refine aF Tryz.func213 J J (λW=>rc T 8 (nc T J (λb1=>ro T 4 ?_)))
 cases H;refine bz (p1 T J [1,1,0] ⟨_,_,⟨b1,none,0,[],aj.nil,J,J⟩,J,J⟩ J)
def zF.f (ag:cP) (o:cP):Option Bool:=(if ag.key<o.key then(some true) else(if(ag.key==o.key)=true then(some (decide (ag.item<o.item))) else(some false))).bind λx1=>some x1
theorem zF.c (H:zF.f ag o=some r):
 QU 270 [(.agg #[(ii ag.key),(ii ag.item)]),(.agg #[(ii o.key),(ii o.item)])] [] F (bb r):=by
 unfold zF.f at H;refine aF Tryz.func270 J J (λW=>rc T 2 (nc T J (λb1=>nc T J (λb2=>ro T 3 (mq H [] [0] (λz2 (x1:Bool)=>(x1=z2,[(4,(bb x1))],[])) J J (λz2 Z1 _=>?_) ?_)))))
 ·refine rc T 2 (lf T 1 J (ro T 1 (lf T 2 J (ro T 2 (ad 10 J Z1 (λZ1=>?_) (λZ1=>?_))))))
  ·refine ro T 16 (am _ [0] (oi Z1) J J)
  refine ro T 1 (lf T 1 J (ro T 1 (lf T 2 J (ro T 2 (ab 16 J Z1 (λZ1=>?_) (λZ1=>?_))))))
  ·refine ro T 1 (lf T 1 J (ro T 1 (lf T 2 J (ro T 6 (am _ [0] (oi Z1) J J)))))
  refine ro T 10 (am _ [0] (oi Z1) J J)
 rintro _ x1 rfl H;refine rc T 1 ?_
 cases H;exact p0 T J [0] J
def mP.l0:Nat->List cP->Int->Option eP
 |0,_,_=>none
 |k5+1,x3,x4=>if x4>0 then(if(0<=x4/\x4<(aa x3:Int)) then(if(0<=(af (di (af (x4-1)) 2))/\(af (di (af (x4-1)) 2))<(aa x3:Int)) then((zF.f (rd x3 x4) (rd x3 (af (di (af (x4-1)) 2)))).bind λv6=>if(!v6)=true then(some (eP.mk x3)) else(if(0<=(af (di (af (x4-1)) 2))/\(af (di (af (x4-1)) 2))<(aa (aD x3 (ax x4) (rd x3 (af (di (af (x4-1)) 2)))):Int)) then(mP.l0 k5 (aD (aD x3 (ax x4) (rd x3 (af (di (af (x4-1)) 2)))) (ax (af (di (af (x4-1)) 2))) (rd x3 x4)) (af (di (af (x4-1)) 2))) else none)) else none) else none) else(some (eP.mk x3))
def mP.f (h:eP):Option eP:=mP.l0 fuel h.l (af ((aa h.l:Int)-1))
def mP.R (fD:Nat) (r:eP):bj:=λu G=> ∃a0 n0 H0,aj fR 359 r.l a0 n0 H0/\u=(.tuple #[])/\G=[(cl fD 357 [(ll a0 r.l n0)]),H0]
theorem mP.c (H:mP.f h=some r) (pX:aj fR 359 h.l kL kV r7):
 QR 240 [(pp fD)] [(cl fD 357 [(ll kL h.l kV)]),r7] [] F (mP.R fD r):=by
 unfold mP.f at H;refine aF Tryz.func240 J J (λW=>rc T 5 (lf T 0 J (ro T 6 (lq [0] [2] (λ(⟨k5,x3,x4,a4,n4,H4⟩:Nat×List cP×Int×Option Addr×Nat×Hp)=>(mP.l0 k5 x3 x4=some r/\aj fR 359 x3 a4 n4 H4,[(2,(ii x4))],[(cl fD 357 [(ll a4 x3 n4)]),H4])) J J (fuel,h.l,(af ((aa h.l:Int)-1)),kL,kV,r7) [2,0,0] ⟨H,pX⟩ J J ?_))));rintro k5 ⟨x3,x4,a4,n4,H4⟩ ⟨Z1,s4⟩;rw[mP.l0] at Z1;refine rc T 7 (cd J Z1 (λZ1=>?_) (λZ1=>?_))
 ·refine rc T 13 (dw mix aB (au T J (au T J (au T J (cD T 1 J J J (au T J ?_))))));obtain⟨c3,Z1⟩:=az Z1;obtain⟨q5,o5,e5⟩:=s4.r.addr c3.1 c3.2;refine bf J J J (cu T J J J J J e5 c3.1 c3.2) (bf J J J (fY T (cs:=[(ii (rd x3 x4).key),(ii (rd x3 x4).item)]) J J J J J J (iy (k:=fR) (oO s4 2) e5 c3 J)) (au T J (au T J (au T J (cD T 1 J J J (au T J ?_))))));obtain⟨c4,Z1⟩:=az Z1;refine bf J J J (cu T J J J J J e5 c4.1 c4.2) (bf J J J (fY T (cs:=[(ii (rd x3 (af (di (af (x4-1)) 2))).key),(ii (rd x3 (af (di (af (x4-1)) 2))).item)]) J J J J J J (iy (k:=fR) (oO s4 2) e5 c4 J)) ?_);obtain⟨v6,V5,Z1⟩:=gx Z1;refine uU J J J J J J Tm J (zF.c V5) (au T J (cO (rx T 1 (cb J Z1 (λZ1=>?_) (λZ1=>?_)))))
  ·refine rc T 5 ?_
   cases Z1;exact p1 T J [1,1,0] ⟨a4,n4,H4,s4,J,J⟩ J
  refine rc T 3 (fz J (rz [25,27] mix (bH bG) (λhg pf=>ha T 25 [0,1,2] sz hg pf J (al T 3 1 sz hg pf J J J (ha T 20 [4,5,6,7] sz hg pf J (al T 8 1 sz hg pf J J J (ha T 15 [9,10,11,12] sz hg pf J (al T 13 1 sz hg pf J J J (ha T 13 [14] sz hg pf J (av 15 sz hg pf J (cu T J J J J J e5 c4.1 c4.2) (av 16 sz hg pf J (fY T (cs:=[(ii (rd x3 (af (di (af (x4-1)) 2))).key),(ii (rd x3 (af (di (af (x4-1)) 2))).item)]) J J J J J J (iy (k:=fR) (oO s4 2) e5 c4 J)) (ha T 8 [17,18,19] sz hg pf J (al T 20 1 sz hg pf J J J (ha T 6 [21] sz hg pf J (av 22 sz hg pf J (cu T J J J J J e5 c3.1 c3.2) (av 23 sz hg pf J (fY T (cs:=[(ii (rd x3 x4).key),(ii (rd x3 x4).item)]) J J J J J J (iy (k:=fR) (oO s4 2) e5 c3 J)) (av 24 sz hg pf J (cu T J J J J J e5 c3.1 c3.2) (ao 25 (jZ (k:=fR) T 2 0 (rd x3 (af (di (af (x4-1)) 2))) J J J J J J s4 e5 c3 J J J (λH6 s6=>kg [0,2,3,30,31,32,33,35,36,37,38,40,41,42,43,45,46,47,48,49,50,52,53,54,55] [0,1] [0,1,0] [(34,(ll a4 (aD x3 (ax x4) (rd x3 (af (di (af (x4-1)) 2)))) n4)),(39,(ll a4 (aD x3 (ax x4) (rd x3 (af (di (af (x4-1)) 2)))) n4)),(44,(ll a4 (aD x3 (ax x4) (rd x3 (af (di (af (x4-1)) 2)))) n4)),(51,(ll a4 (aD x3 (ax x4) (rd x3 (af (di (af (x4-1)) 2)))) n4))] [(cl fD 357 [(ll a4 (aD x3 (ax x4) (rd x3 (af (di (af (x4-1)) 2)))) n4)])] J J ⟨dB,dB,dB,dB,trivial⟩ dB (an sl (ao 26 ?_))))))))))))))))))))));obtain⟨c7,Z1⟩:=az Z1;refine lT J (cu T J J J J J e5 c7.1 c7.2) (an sl (ao 27 (jZ (k:=fR) T 1 0 (rd x3 x4) J J J J J J s6 e5 c7 J J J (λH7 s7=>kg [0,2,3,30,31,32,33,35,36,37,38,40,41,42,43,45,46,47,48,49,50,52,53,54,55,56] [0,0] [0,0,0] [(34,(ll a4 (aD (aD x3 (ax x4) (rd x3 (af (di (af (x4-1)) 2)))) (ax (af (di (af (x4-1)) 2))) (rd x3 x4)) n4)),(39,(ll a4 (aD (aD x3 (ax x4) (rd x3 (af (di (af (x4-1)) 2)))) (ax (af (di (af (x4-1)) 2))) (rd x3 x4)) n4)),(44,(ll a4 (aD (aD x3 (ax x4) (rd x3 (af (di (af (x4-1)) 2)))) (ax (af (di (af (x4-1)) 2))) (rd x3 x4)) n4)),(51,(ll a4 (aD (aD x3 (ax x4) (rd x3 (af (di (af (x4-1)) 2)))) (ax (af (di (af (x4-1)) 2))) (rd x3 x4)) n4))] [(cl fD 357 [(ll a4 (aD (aD x3 (ax x4) (rd x3 (af (di (af (x4-1)) 2)))) (ax (af (di (af (x4-1)) 2))) (rd x3 x4)) n4)])] J J ⟨dB,dB,dB,dB,trivial⟩ dB (an sl (ae (rx T 7 (ar (_,_,_,_,_) [0,1,0] ⟨Z1,s7⟩ J J))))))))
 refine rc T 4 (jm ?_)
 cases Z1;exact p1 T J [1,1,0] ⟨a4,n4,H4,s4,J,J⟩ J
def mO.f (h:eP) (key:Int) (item:Int):Option eP:=if(aa h.l+1<=1099511627776) then((mP.f (eP.mk (h.l++[(cP.mk key item)]))).bind λv1=>some v1) else none
def mO.R (fD:Nat) (r:eP):bj:=λu G=> ∃a0 n0 H0,aj fR 359 r.l a0 n0 H0/\u=(.tuple #[])/\G=[(cl fD 357 [(ll a0 r.l n0)]),H0]
theorem mO.c (H:mO.f h key item=some r) (pX:aj fR 359 h.l kL kV r7):
 QR 217 [(pp fD),(ii key),(ii item)] [(cl fD 357 [(ll kL h.l kV)]),r7] [] F (mO.R fD r):=by
 unfold mO.f at H;refine aF Tryz.func217 J J (λW=>rc T 7 (eN J (rc T 8 (lf T 0 J (ro T 3 (aV (cW (k:=fR) T [(cP.mk key item)] J J J J J J J J J (λa3 H3 s3=>?_))))))));obtain⟨c1,H⟩:=az H;refine aV (dQ (k:=fR) (xs:=h.l) T (g:=1) J J J J J J J J J J pX (oO s3 3) c1 J (λa4 n4 H4 s4=>ro T 2 (sg T 0 J (ro T 4 (kr (mP.R fD) [] [0,0] J ade H (mP.c (h:=(eP.mk (h.l++[(cP.mk key item)]))) · s4) (λv1 H=>?_))))));rintro _ _ ⟨a5,n5,H5,s5,rfl,rfl⟩;refine fz J (ro T 1 (jm ?_))
 cases H;exact p1 T J [2,2,0] ⟨a5,n5,H5,s5,J,J⟩ J
def Cy.f (h:eP):Option Int:=some (aa h.l:Int)
theorem Cy.c (H:Cy.f h=some r) (pX:aj fR 359 h.l kL kV r7):
 QU 271 [(pp fD)] [(cl fD 357 [(ll kL h.l kV)]),r7] F (ii r):=by
 unfold Cy.f at H;refine aF Tryz.func271 J J (λW=>rc T 12 (eN J (rc T 7 (lf T 0 J (ro T 5 ?_)))))
 cases H;exact p0 T J [0,0,0] J
def Cz.f (h:eP):Option (Int×Int×Bool):=(Cy.f h).bind λv1=>if(v1==0)=true then(some (0,0,false)) else(if(0<=(0:Int)/\(0:Int)<(aa h.l:Int)) then(some ((rd h.l 0).key,(rd h.l 0).item,true)) else none)
theorem Cz.c (H:Cz.f h=some r) (pX:aj fR 359 h.l kL kV r7):
 QU 241 [(pp fD)] [(cl fD 357 [(ll kL h.l kV)]),r7] F (.tuple #[(ii r.1),(ii r.2.1),(bb r.2.2)]):=by
 unfold Cz.f at H;refine aF Tryz.func241 J J (λW=>rc T 11 (k [0,0] J adt H (Cy.c · pX) (λv1 H=>ro T 3 (cb J H (λH=>?_) (λH=>?_)))))
 ·refine rc T 9 ?_
  cases H;exact p0 T J [0,0,0] J
 refine rc T 3 (dw mix aB (au T J (au T J (au T J (cD T 0 J J J ?_)))));obtain⟨c3,H⟩:=az H;obtain⟨q3,o3,e3⟩:=pX.r.addr c3.1 c3.2;refine bf J J J (cu T J J J J J e3 c3.1 c3.2) (au T J (bf J J J (cw T J J J J (eH (k:=fR) (oO pX 1) e3 c3 0 J)) (au T J (au T J (au T J (cD T 0 J J J (bf J J J (cu T J J J J J e3 c3.1 c3.2) (au T J (bf J J J (cw T J J J J (eH (k:=fR) (oO pX 1) e3 c3 1 J)) (au T J (au T J (au T J (cO (rx T 2 ?_))))))))))))))
 cases H;exact p0 T J [0,0,0] J
def gk.l1:Nat->List cP->Int->Int->Int->Option (Sum eP ((List cP)×Int))
 |0,_,_,_,_=>none
 |pL+1,x3,x4,a_,bl=>(if bl<=(af ((af (2*x4))+2)) then(some (decide (bl<(aa x3:Int)))) else(some false)).bind λbh=>if bh=true then(if(0<=bl/\bl<(aa x3:Int)) then(if(0<=a_/\a_<(aa x3:Int)) then((zF.f (rd x3 bl) (rd x3 a_)).bind λdZ=>if dZ=true then(gk.l1 pL x3 x4 bl (af (bl+1))) else(gk.l1 pL x3 x4 a_ (af (bl+1)))) else none) else none) else(if(a_==x4)=true then(some (Sum.inl (eP.mk x3))) else(if(0<=a_/\a_<(aa x3:Int)) then(if(0<=x4/\x4<(aa x3:Int)) then(if(0<=a_/\a_<(aa (aD x3 (ax x4) (rd x3 a_)):Int)) then(some (Sum.inr ((aD (aD x3 (ax x4) (rd x3 a_)) (ax a_) (rd x3 x4)),a_))) else none) else none) else none))
def gk.l0:Nat->List cP->Int->Option eP
 |0,_,_=>none
 |k5+1,x3,x4=>(gk.l1 fuel x3 x4 x4 (af ((af (2*x4))+1))).bind λzz=>match zz with |Sum.inl q=>some q |Sum.inr (x6,x7)=>gk.l0 k5 x6 x7
def gk.f (h:eP):Option eP:=gk.l0 fuel h.l 0
def gk.R (fD:Nat) (r:eP):bj:=λu G=> ∃a0 n0 H0,aj fR 359 r.l a0 n0 H0/\u=(.tuple #[])/\G=[(cl fD 357 [(ll a0 r.l n0)]),H0]
theorem gk.c (H:gk.f h=some r) (pX:aj fR 359 h.l kL kV r7):
 QR 242 [(pp fD)] [(cl fD 357 [(ll kL h.l kV)]),r7] [] F (gk.R fD r):=by
 unfold gk.f at H;refine aF Tryz.func242 J J (λW=>rc T 6 (lq [0] [2] (λ(⟨k5,x3,x4,a4,n4,H4⟩:Nat×List cP×Int×Option Addr×Nat×Hp)=>(gk.l0 k5 x3 x4=some r/\aj fR 359 x3 a4 n4 H4,[(2,(ii x4))],[(cl fD 357 [(ll a4 x3 n4)]),H4])) J J (fuel,h.l,0,kL,kV,r7) [2,0,0] ⟨H,pX⟩ J J ?_));rintro k5 ⟨x3,x4,a4,n4,H4⟩ ⟨Z1,s4⟩;rw[gk.l0] at Z1;refine mn Z1 [0] [0] (λz8 (⟨x6,x7,a5,n5,H5⟩:List cP×Int×Option Addr×Nat×Hp)=>((Sum.inr (x6,x7))=z8/\aj fR 359 x6 a5 n5 H5,[(2,(ii x7))],[(cl fD 357 [(ll a5 x6 n5)]),H5])) J J (λz8 Z2 Z1=>?_) ?_
 ·refine rc T 17 (lq [0,2] [0,0,0] (λ(⟨pL,a_,bl⟩:Nat×Int×Int)=>(gk.l1 pL x3 x4 a_ bl=some z8,[(3,(ii a_)),(4,(ii bl))],[])) J J (fuel,x4,(af ((af (2*x4))+1))) [0,0,0] Z2 J J ?_);rintro pL ⟨a_,bl⟩ Z3;replace Z3:gk.l1 (pL+1) x3 x4 a_ bl=some z8:=Z3;rw[gk.l1] at Z3;refine rc T 1 (mq Z3 [0,2,3,4] [0,0,0] (λID (bh:Bool)=>(bh=ID,[(22,(bb bh))],[])) J J (λID Z4 _=>?_) ?_)
  ·refine rc T 7 (ad 14 J Z4 (λZ4=>?_) (λZ4=>?_))
   ·refine ro T 4 (lf T 1 J (ro T 5 (am _ [0,0,0] (oi Z4) J J)))
   refine ro T 10 (am _ [0,0,0] (oi Z4) J J)
  rintro _ bh rfl Z3;refine cb J Z3 (λZ3=>?_) (λZ3=>?_)
  ·refine rc T 5 (dw mix aB (au T J (au T J (au T J (cD T 1 J J J (au T J ?_))))));obtain⟨c7,Z3⟩:=az Z3;obtain⟨q6,o6,e6⟩:=s4.r.addr c7.1 c7.2;refine bf J J J (cu T J J J J J e6 c7.1 c7.2) (bf J J J (fY T (cs:=[(ii (rd x3 bl).key),(ii (rd x3 bl).item)]) J J J J J J (iy (k:=fR) (oO s4 2) e6 c7 J)) (au T J (au T J (au T J (cD T 1 J J J (au T J ?_))))));obtain⟨c8,Z3⟩:=az Z3;refine bf J J J (cu T J J J J J e6 c8.1 c8.2) (bf J J J (fY T (cs:=[(ii (rd x3 a_).key),(ii (rd x3 a_).item)]) J J J J J J (iy (k:=fR) (oO s4 2) e6 c8 J)) ?_);obtain⟨dZ,V9,Z3⟩:=gx Z3;refine uU J J J J J J Tm J (zF.c V9) (cO (rx T 1 (cb J Z3 (λZ3=>?_) (λZ3=>?_))))
   ·refine rc T 12 (ar (_,_) [0,0,0] Z3 J J)
   refine rc T 9 (ar (_,_) [0,0,0] Z3 J J)
  refine rc T 13 (cb J Z3 (λZ3=>?_) (λZ3=>?_))
  ·refine rc T 6 ?_;obtain rfl:=Option.some.inj Z3;obtain rfl:=Option.some.inj (show some (eP.mk x3)=some r from Z1)
   exact p1 T J [1,1,0] ⟨a4,n4,H4,s4,J,J⟩ J
  refine rc T 3 (fz J (rz [25,27] mix (bH bG) (λhg pf=>ha T 25 [0,1,2] sz hg pf J (al T 3 1 sz hg pf J J J (ha T 20 [4,5,6,7] sz hg pf J (al T 8 1 sz hg pf J J J (ha T 15 [9,10,11,12] sz hg pf J (al T 13 1 sz hg pf J J J (ha T 13 [14] sz hg pf J ?_)))))))));obtain⟨gy,Z3⟩:=az Z3;obtain⟨q7,o7,e7⟩:=s4.r.addr gy.1 gy.2;refine av 15 sz hg pf J (cu T J J J J J e7 gy.1 gy.2) (av 16 sz hg pf J (fY T (cs:=[(ii (rd x3 a_).key),(ii (rd x3 a_).item)]) J J J J J J (iy (k:=fR) (oO s4 2) e7 gy J)) (ha T 8 [17,18,19] sz hg pf J (al T 20 1 sz hg pf J J J (ha T 6 [21] sz hg pf J ?_))));obtain⟨jn,Z3⟩:=az Z3;refine av 22 sz hg pf J (cu T J J J J J e7 jn.1 jn.2) (av 23 sz hg pf J (fY T (cs:=[(ii (rd x3 x4).key),(ii (rd x3 x4).item)]) J J J J J J (iy (k:=fR) (oO s4 2) e7 jn J)) (av 24 sz hg pf J (cu T J J J J J e7 jn.1 jn.2) (ao 25 (jZ (k:=fR) T 2 0 (rd x3 a_) J J J J J J s4 e7 jn J J J (λH8 s8=>kg [0,2,3,43,44,45,46,48,49,50,51,53,54,55,56,58,59,60,61,62,63,65,66,67,68] [0,1] [0,1,0] [(47,(ll a4 (aD x3 (ax x4) (rd x3 a_)) n4)),(52,(ll a4 (aD x3 (ax x4) (rd x3 a_)) n4)),(57,(ll a4 (aD x3 (ax x4) (rd x3 a_)) n4)),(64,(ll a4 (aD x3 (ax x4) (rd x3 a_)) n4))] [(cl fD 357 [(ll a4 (aD x3 (ax x4) (rd x3 a_)) n4)])] J J ⟨dB,dB,dB,dB,trivial⟩ dB (an sl (ao 26 ?_)))))));obtain⟨jo,Z3⟩:=az Z3;refine lT J (cu T J J J J J e7 jo.1 jo.2) (an sl (ao 27 (jZ (k:=fR) T 1 0 (rd x3 x4) J J J J J J s8 e7 jo J J J (λH9 s9=>kg [0,2,3,43,44,45,46,48,49,50,51,53,54,55,56,58,59,60,61,62,63,65,66,67,68,69] [0,0] [0,0,0] [(47,(ll a4 (aD (aD x3 (ax x4) (rd x3 a_)) (ax a_) (rd x3 x4)) n4)),(52,(ll a4 (aD (aD x3 (ax x4) (rd x3 a_)) (ax a_) (rd x3 x4)) n4)),(57,(ll a4 (aD (aD x3 (ax x4) (rd x3 a_)) (ax a_) (rd x3 x4)) n4)),(64,(ll a4 (aD (aD x3 (ax x4) (rd x3 a_)) (ax a_) (rd x3 x4)) n4))] [(cl fD 357 [(ll a4 (aD (aD x3 (ax x4) (rd x3 a_)) (ax a_) (rd x3 x4)) n4)])] J J ⟨dB,dB,dB,dB,trivial⟩ dB (an sl (ae (rx T 7 (am (_,_,_,_,_) [0,1,0] ⟨oi Z3,s9⟩ J J))))))))
 rintro _ ⟨x6,x7,a5,n5,H5⟩ ⟨rfl,s5⟩ Z1;refine rx T 1 (ar (_,_,_,_,_) [0,0,0] ⟨Z1,s5⟩ J J)
def mN.f (h:eP):Option (Int×Int×Bool×eP):=(Cz.f h).bind λv1=>if v1.2.2=true then(if(0<=(af ((aa h.l:Int)-1))/\(af ((aa h.l:Int)-1))<(aa h.l:Int)) then(if(0<=(0:Int)/\(0:Int)<(aa h.l:Int)) then(if(0<=(0:Int)/\(0:Int)<=(af ((aa h.l:Int)-1))/\(af ((aa h.l:Int)-1))<=(aa (aD h.l (ax 0) (rd h.l (af ((aa h.l:Int)-1)))):Int)) then((gk.f (eP.mk (aA (aD h.l (ax 0) (rd h.l (af ((aa h.l:Int)-1)))) 0 (af ((aa h.l:Int)-1))))).bind λv2=>some (v1.1,v1.2.1,v1.2.2,v2)) else none) else none) else none) else(some (v1.1,v1.2.1,v1.2.2,h))
def mN.R (fD:Nat) (r:(Int×Int×Bool×eP)):bj:=λu G=> ∃a0 n0 H0,aj fR 359 r.2.2.2.l a0 n0 H0/\u=(.tuple #[(ii r.1),(ii r.2.1),(bb r.2.2.1)])/\G=[(cl fD 357 [(ll a0 r.2.2.2.l n0)]),H0]
theorem mN.c (H:mN.f h=some r) (pX:aj fR 359 h.l kL kV r7):
 QR 218 [(pp fD)] [(cl fD 357 [(ll kL h.l kV)]),r7] [] F (mN.R fD r):=by
 unfold mN.f at H;refine aF Tryz.func218 J J (λW=>rc T 10 (k [0,0] J adf H (Cz.c · pX) (λv1 H=>ro T 15 (cb J H (λH=>?_) (λH=>?_)))))
 ·refine rc T 5 (lf T 0 J (ro T 6 (fz J (rz [12] mix (bH bG) (λhg pf=>ha T 10 [0,1,2] sz hg pf J (al T 3 0 sz hg pf J J J (ha T 6 [4,5,6] sz hg pf J (al T 7 0 sz hg pf J J J (ha T 4 [8] sz hg pf J ?_)))))))));obtain⟨c3,H⟩:=az H;obtain⟨q3,o3,e3⟩:=pX.r.addr c3.1 c3.2;refine av 9 sz hg pf J (cu T J J J J J e3 c3.1 c3.2) (av 10 sz hg pf J (fY T (cs:=[(ii (rd h.l (af ((aa h.l:Int)-1))).key),(ii (rd h.l (af ((aa h.l:Int)-1))).item)]) J J J J J J (iy (k:=fR) (oO pX 1) e3 c3 J)) ?_);obtain⟨c4,H⟩:=az H;refine av 11 sz hg pf J (cu T J J J J J e3 c4.1 c4.2) (ao 12 (jZ (k:=fR) T 1 0 (rd h.l (af ((aa h.l:Int)-1))) J J J J J J pX e3 c4 J J J (λH4 s4=>kg [0,2,3,4,5,19,20,21,23,24,25,27,28,29,30] [1,1] [1,1,0] [(22,(ll kL (aD h.l (ax 0) (rd h.l (af ((aa h.l:Int)-1)))) kV)),(26,(ll kL (aD h.l (ax 0) (rd h.l (af ((aa h.l:Int)-1)))) kV))] [(cl fD 357 [(ll kL (aD h.l (ax 0) (rd h.l (af ((aa h.l:Int)-1)))) kV)])] J J ⟨dB,dB,trivial⟩ dB (an sl (ae (rx T 7 (lf T 2 J (ro T 1 ?_))))))));obtain⟨c5,H⟩:=az H;refine bA J (kS T J J J J J J c5 s4.bZ) (ro T 2 (sg T 2 J (ro T 4 (kr (gk.R fD) [] [2,0] J adg H (gk.c (h:=(eP.mk (aA (aD h.l (ax 0) (rd h.l (af ((aa h.l:Int)-1)))) 0 (af ((aa h.l:Int)-1))))) · (aj.pre s4 c5)) (λv2 H=>?_)))));rintro _ _ ⟨a5,n5,H5,s5,rfl,rfl⟩;refine fz J (ro T 1 (ks [2,3,4] J (rx T 12 ?_)))
  cases H;exact p1 T J [1,1,0] ⟨a5,n5,H5,s5,J,J⟩ J
 refine rc T 13 ?_
 cases H;exact p1 T J [0,0,0] ⟨kL,kV,r7,pX,J,J⟩ J
end
noncomputable section
def wT.f (ag:Int):Option (Option eX):=if((decide (ag<0))||(decide (ag>1099511627776)))=true then(some none) else(some (some (eX.mk ag 0 (cy 256 (default:ka)))))
def wT.R (r:(Option eX)):bj:=λu G=> ∃(u0:Value) (G0:List Hp),Ya r u0 G0/\u=u0/\G=G0
theorem wT.c (H:wT.f ag=some r):
 QR 247 [(ii ag)] [] [] F (wT.R r):=by
 unfold wT.f at H;refine aF Tryz.func247 J J (λW=>rc T 11 (go T [3,4,5] 5 [0] 8 J J J J J J J (ro T 2 (cb J H (λH=>?_) (λH=>?_)))))
 ·refine rc T 7 ?_
  cases H;exact p1 T J [0] ⟨_,_,⟨J,J⟩,J,J⟩ J
 refine rc T 6 (aV (Y6 (kd:=Wr) T [(ii ag),(ii 0)] 256 (default:ka) [nl,(ii 0)] J J J J ⟨none,0,[],(aj.nil (k:=(Fl.int .i64)) (E:=3)),J,J⟩ (λb1 H1 s1=>ro T 4 ?_)))
 cases H;exact p1 T J [1,0] ⟨_,_,⟨b1,H1,(And.intro s1 (List.length_replicate ..)),J,J⟩,J,J⟩ J
def wU.f (ag:eX):Option Int:=some ag.len
theorem wU.c (H:wU.f ag=some r) (cZ:kJ ag aW du):
 QU 274 [(pp aW)] [du] F (ii r):=by
 unfold wU.f at H;refine aF Tryz.func274 J J (λW=>rc T 12 (eN J (rc T 7 (lg T J (Bf (j:=0) J cZ.1 J) (ro T 4 ?_)))))
 cases H;exact p0 T J [0,0] J
def yE.f (ag:eX) (key:Int):Option (Bool×eX):=(if ag.len>0 then(some true) else(some ((decide (key<ag.aZ))||(decide (key>1099511627776))))).bind λx1=>if x1=true then(some (false,ag)) else(some (true,(eX.mk key ag.len ag.buckets)))
def yE.R (nU:Nat) (r:(Bool×eX)):bj:=λu G=> ∃(H0:Hp),kJ r.2 nU H0/\u=(bb r.1)/\G=[H0]
theorem yE.c (H:yE.f ag key=some r) (cZ:kJ ag aW du):
 QR 290 [(pp aW),(ii key)] [du] [] F (yE.R aW r):=by
 unfold yE.f at H;refine aF Tryz.func290 J J (λW=>rc T 6 (mq H [0,1] [1,0] (λz2 (x1:Bool)=>(x1=z2,[(25,(bb x1))],[])) J J (λz2 Z1 _=>?_) ?_))
 ·refine rc T 7 (lg T J (Bf (j:=0) J cZ.1 J) (ro T 3 (ad 14 J Z1 (λZ1=>?_) (λZ1=>?_))))
  ·refine ro T 13 (am _ [1,0] (oi Z1) J J)
  refine ro T 4 (lg T J (Bf (j:=0) J cZ.1 J) (ro T 3 (go T [18,19,20] 22 [0,1] 25 J J J J J J J (ro T 2 (am _ [1,0] (oi Z1) J J)))))
 rintro _ x1 rfl H;refine cb J H (λH=>?_) (λH=>?_)
 ·refine rc T 7 ?_
  cases H;exact p1 T J [1,0] ⟨du,cZ,J,J⟩ J
 refine rc T 8 (aV (I' T 1 [(ii key),(ii ag.len)] J J J J J J cZ.1 J J J J (λH2 s2=>ro T 8 ?_)))
 cases H;exact p1 T J [1,0] ⟨H2,(And.intro s2 cZ.2),J,J⟩ J
def Ad.f (b:ka) (item:Int):Option ka:=if(aa b.items+1<=1099511627776) then(some (ka.mk (b.items++[item]) b.gone)) else none
def Ad.R (vX:Nat) (Mq:TypeId) (MB MC:List Value) (r:ka):bj:=λu G=> ∃a0 n0 H0,aj (Fl.int .i64) 3 r.items a0 n0 H0/\u=(.tuple #[])/\G=[[(vX,Obj.cells (MB++(([(ll a0 r.items n0),(ii r.gone)]:List Value)++MC)).toArray Mq (0,0))],H0]
theorem Ad.c (H:Ad.f b item=some r) (Ah:aj (Fl.int .i64) 3 b.items xv uf BU):
 QR 302 [(.pointer (some ⟨vX,aa Dd+0,none⟩)),(ii item)] [[(vX,Obj.cells (Dd++(([(ll xv b.items uf),(ii b.gone)]:List Value)++K2)).toArray IY (0,0))],BU] [] F (Ad.R vX IY Dd K2 r):=by
 unfold Ad.f at H;refine aF Tryz.func302 J J (λW=>rc T 5 (lg T J (CI (j:=0) J 0 J) (ro T 1 (aV (cW (k:=(Fl.int .i64)) T [item] J J J J J J J J J (λa3 H3 s3=>?_))))));obtain⟨c1,H⟩:=az H;refine aV (dQ (k:=(Fl.int .i64)) (xs:=b.items) T (g:=1) J J J J J J J J J J Ah (oO s3 3) c1 J (λa4 n4 H4 s4=>ro T 2 (aV (Jd T 0 0 [(ll a4 (b.items++[item]) n4),(ii b.gone)] J J J J J J J J J J ?_))));refine ro T 1 (jm ?_)
 cases H;exact p1 T J [0,0,0] ⟨a4,n4,H4,s4,J,J⟩ J
def uj.f (ag:eX) (key:Int) (item:Int):Option (Bool×eX):=(if key<ag.aZ then(some true) else(some (decide ((af (key-ag.aZ))≥256)))).bind λx1=>if x1=true then(some (false,ag)) else(if(0<=(fC key 256)/\(fC key 256)<(aa ag.buckets:Int)) then((Ad.f (rd ag.buckets (fC key 256)) item).bind λv3=>some (true,(eX.mk ag.aZ (af (ag.len+1)) (aD ag.buckets (ax (fC key 256)) v3)))) else none)
def uj.R (nU:Nat) (r:(Bool×eX)):bj:=λu G=> ∃(H0:Hp),kJ r.2 nU H0/\u=(bb r.1)/\G=[H0]
theorem uj.c (H:uj.f ag key item=some r) (cZ:kJ ag aW du):
 QR 291 [(pp aW),(ii key),(ii item)] [du] [] F (uj.R aW r):=by
 unfold uj.f at H;refine aF Tryz.func291 J J (λW=>rc T 6 (mq H [0,1,2] [1,0] (λz2 (x1:Bool)=>(x1=z2,[(25,(bb x1))],[])) J J (λz2 Z1 _=>?_) ?_))
 ·refine rc T 8 (lg T J (Bf (j:=0) J cZ.1 J) (ro T 3 (ad 17 J Z1 (λZ1=>?_) (λZ1=>?_))))
  ·refine ro T 10 (am _ [1,0] (oi Z1) J J)
  refine ro T 4 (lg T J (Bf (j:=0) J cZ.1 J) (ro T 5 (am _ [1,0] (oi Z1) J J)))
 rintro _ x1 rfl H;refine cb J H (λH=>?_) (λH=>?_)
 ·refine rc T 7 ?_
  cases H;exact p1 T J [1,0] ⟨du,cZ,J,J⟩ J
 refine rc T 3 ?_;obtain⟨c4,H⟩:=az H;refine L_ (j:=1) J cZ.1 c4 (λp2_ q2_ _ H3 _ o2_ Xx=>?_);obtain⟨a5,n5,H5,s5,rfl,rfl⟩:=o2_;refine bU (As:=[H5]) 3 J (rc T 6 (bA J (JA T J J J J J (by rw[cZ.2] at c4;exact c4) (by rw[xm.at Xx];rfl)) (ro T 1 ?_)))
 refine kr (Ad.R aW 396 p2_ q2_) [] [1,2] J adI H (Ad.c · s5) (λv3 H=>?_);rintro _ _ ⟨a6,n6,H6,s6,rfl,rfl⟩;refine fz J (ro T 1 (gL [3] J (FO (j:=2) (q1:=1) (q2:=3) v3 J Xx J J J J J ⟨a6,n6,H6,s6,J,J⟩ (λH8 s8=>rx T 6 (lg T J (Bf (j:=2) J s8 J) (ro T 3 (aV (I' T 2 [(ii ag.aZ),(ii (af (ag.len+1)))] J J J J J J s8 J J J J (λH9 s9=>ro T 8 ?_)))))))))
 cases H;exact p1 T J [2,0] ⟨H9,(And.intro s9 (Le cZ.2)),J,J⟩ J
def yF.f (b:ka):Option Bool:=some (b.gone==(aa b.items:Int))
theorem yF.c (H:yF.f b=some r) (Ah:aj (Fl.int .i64) 3 b.items xv uf BU):
 QU 292 [(.pointer (some ⟨vX,aa Dd+0,none⟩))] [[(vX,Obj.cells (Dd++(([(ll xv b.items uf),(ii b.gone)]:List Value)++K2)).toArray IY (0,0))],BU] F (bb r):=by
 unfold yF.f at H;refine aF Tryz.func292 J J (λW=>rc T 6 (dw mix aB (au T J (au T J (au T J (bf J J J (cw T J J J J (CI (j:=0) J 1 J)) (au T J (au T J (au T J (bf J J J (cw T J J J J (CI (j:=0) J 0 J)) (au T J (au T J (au T J (cO (rx T 2 ?_)))))))))))))))
 cases H;exact p0 T J [0,0,0] J
def sW.f (b:ka):Option (Int×ka):=if(0<=b.gone/\b.gone<(aa b.items:Int)) then((yF.f (ka.mk b.items (af (b.gone+1)))).bind λv1=>if v1=true then(if(0<=(0:Int)/\(0:Int)<=(0:Int)/\(0:Int)<=(aa b.items:Int)) then(some ((rd b.items b.gone),(ka.mk (aA b.items 0 0) 0))) else none) else(some ((rd b.items b.gone),(ka.mk b.items (af (b.gone+1)))))) else none
def sW.R (vX:Nat) (Mq:TypeId) (MB MC:List Value) (r:(Int×ka)):bj:=λu G=> ∃a0 n0 H0,aj (Fl.int .i64) 3 r.2.items a0 n0 H0/\u=(ii r.1)/\G=[[(vX,Obj.cells (MB++(([(ll a0 r.2.items n0),(ii r.2.gone)]:List Value)++MC)).toArray Mq (0,0))],H0]
theorem sW.c (H:sW.f b=some r) (Ah:aj (Fl.int .i64) 3 b.items xv uf BU):
 QR 293 [(.pointer (some ⟨vX,aa Dd+0,none⟩))] [[(vX,Obj.cells (Dd++(([(ll xv b.items uf),(ii b.gone)]:List Value)++K2)).toArray IY (0,0))],BU] [] F (sW.R vX IY Dd K2 r):=by
 unfold sW.f at H;refine aF Tryz.func293 J J (λW=>rc T 6 (dw mix aB (au T J (au T J (au T J (bf J J J (cw T J J J J (CI (j:=0) J 0 J)) (au T J (au T J (au T J (bf J J J (cw T J J J J (CI (j:=0) J 1 J)) ?_))))))))));obtain⟨c1,H⟩:=az H;obtain⟨q3,o3,e3⟩:=Ah.r.addr c1.1 c1.2;refine bf J J J (cu T J J J J J e3 c1.1 c1.2) (bf J J J (cw T J J J J (eH (k:=(Fl.int .i64)) (oO Ah 1) e3 c1 0 J)) (au T J (cO (rx T 6 (lg T J (CI (j:=0) J 1 J) (ro T 3 (aV (Jd T 0 1 [(ll xv b.items uf),(ii (af (b.gone+1)))] J J J J J J J J J J ?_))))))));refine ro T 6 (k [0,0] J Ts H (yF.c (b:=(ka.mk b.items (af (b.gone+1)))) · Ah) (λv1 H=>ro T 2 (cb J H (λH=>?_) (λH=>?_))))
 ·refine rc T 6 (lg T J (CI (j:=0) J 0 J) ?_);obtain⟨c4,H⟩:=az H;refine bA J (kS T J J J J J J c4 Ah.bZ) (ro T 2 (aV (Jd T 0 0 [(ll (gp xv uf (ax 0) 1) (aA b.items 0 0) (uf-ax 0)),(ii (af (b.gone+1)))] J J J J J J J J J J ?_)));refine ro T 2 (aV (Jd T 0 1 [(ll (gp xv uf (ax 0) 1) (aA b.items 0 0) (uf-ax 0)),(ii 0)] J J J J J J J J J J ?_));refine ro T 9 ?_
  cases H;exact p1 T J [0,0,0] ⟨(gp xv uf (ax 0) 1),(uf-ax 0),BU,(aj.pre Ah c4),J,J⟩ J
 refine rc T 9 ?_
 cases H;exact p1 T J [0,0,0] ⟨xv,uf,BU,Ah,J,J⟩ J
def pd.l0:Nat->eX->Option eX
 |0,_=>none
 |k6+1,x5=>if(0<=(fC x5.aZ 256)/\(fC x5.aZ 256)<(aa x5.buckets:Int)) then((yF.f (rd x5.buckets (fC x5.aZ 256))).bind λv7=>if v7=true then(pd.l0 k6 (eX.mk (af (x5.aZ+1)) x5.len x5.buckets)) else(some x5)) else none
def pd.f (ag:eX):Option (Int×Int×Bool×eX):=(wU.f ag).bind λv1=>if(v1==0)=true then(some (0,0,false,ag)) else((pd.l0 fuel ag).bind λx2=>if(0<=(fC x2.aZ 256)/\(fC x2.aZ 256)<(aa x2.buckets:Int)) then((sW.f (rd x2.buckets (fC x2.aZ 256))).bind λv8=>some (x2.aZ,v8.1,true,(eX.mk x2.aZ (af (x2.len-1)) (aD x2.buckets (ax (fC x2.aZ 256)) v8.2)))) else none)
def pd.R (nU:Nat) (r:(Int×Int×Bool×eX)):bj:=λu G=> ∃(H0:Hp),kJ r.2.2.2 nU H0/\u=(.tuple #[(ii r.1),(ii r.2.1),(bb r.2.2.1)])/\G=[H0]
theorem pd.c (H:pd.f ag=some r) (cZ:kJ ag aW du):
 QR 275 [(pp aW)] [du] [] F (pd.R aW r):=by
 unfold pd.f at H;refine aF Tryz.func275 J J (λW=>rc T 11 (k [0] J NA H (wU.c · cZ) (λv1 H=>ro T 3 (cb J H (λH=>?_) (λH=>?_)))))
 ·refine rc T 9 ?_
  cases H;exact p1 T J [0,0] ⟨du,cZ,J,J⟩ J
 refine rc T 2 (mq H [0] [1] (λz3 (⟨x2,H2⟩:eX×Hp)=>(x2=z3/\kJ x2 aW H2,[],[H2])) J J (λz3 Z3 _=>?_) ?_)
 ·refine rc T 1 (lq [0] [1] (λ(⟨k6,x5,H4⟩:Nat×eX×Hp)=>(pd.l0 k6 x5=some z3/\kJ x5 aW H4,[],[H4])) J J (fuel,ag,du) [1,0] ⟨Z3,cZ⟩ J J ?_);rintro k6 ⟨x5,H4⟩ ⟨Z4,s4⟩;rw[pd.l0] at Z4;refine rc T 2 ?_;obtain⟨c5,Z4⟩:=az Z4;refine L_ (j:=1) J s4.1 c5 (λp5_ q5_ _ H6 _ o5_ P5=>?_);obtain⟨a8,n8,H8,s8,rfl,rfl⟩:=o5_;refine bU (As:=[H8]) 3 J (dw mix aB ?_)
  iterate 4 refine au T J ?_
  refine bf J J J (cw T J J J J (EA (j:=1) J P5 J)) (au T J (au T J (au T J (bf J J J (JA T J J J J J (by rw[s4.2] at c5;exact c5) (by rw[xm.at P5];rfl)) ?_))))
  obtain⟨v7,V6,Z4⟩:=gx Z4;refine xz [1,2] J J J J J J Ts J (yF.c V6 s8) (cO (gL [3] J (Y7 (j:=1) (q1:=2) (q2:=3) J P5 J J J J J ⟨a8,n8,H8,s8,J,J⟩ (λbT bL=>rx T 1 (cb J Z4 (λZ4=>?_) (λZ4=>?_))))))
  ·refine rc T 7 (lg T J (Bf (j:=1) J bL J) (ro T 3 (aV (I' T 1 [(ii (af (x5.aZ+1))),(ii x5.len)] J J J J J J bL J J J J (λcH cX=>ro T 3 (ar (_,_) [0,0] ⟨Z4,(And.intro cX s4.2)⟩ J J))))))
  refine rc T 5 (am (_,_) [0,0] ⟨oi Z4,(And.intro bL s4.2)⟩ J J)
 rintro _ ⟨x2,H2⟩ ⟨rfl,s2⟩ H;refine rc T 5 (lg T J (Bf (j:=1) J s2.1 J) (ro T 3 (aV (I' T 1 [(ii x2.aZ),(ii (af (x2.len-1)))] J J J J J J s2.1 J J J J (λdq dE=>ro T 3 ?_)))));obtain⟨c8,H⟩:=az H;refine L_ (j:=1) J dE c8 (λPa Pd _ fp _ ago yX=>?_);obtain⟨iu,n16,ft,eB,rfl,rfl⟩:=ago;refine bU (As:=[ft]) 3 J (ks [0] J (fz J (rg [] [0,1] mix (bH bG) (λhg pf=>ha T 8 [0,1,2,4,5,6,7,10,11] (so [0,1]) hg pf J (gK 3 8 ?_ ?_)))))
 ·refine lT J (cw T J J J J (EA (j:=1) J yX J)) (an (so [0,1]) (ao 8 (lT J (cw T J J J J (EA (j:=1) J yX J)) (an (so [0,1]) (ha T 5 [9] (so [0,1]) hg pf J (av 12 (so [0,1]) hg pf J (JA T J J J J J (by rw[s2.2] at c8;exact c8) (by rw[xm.at yX];rfl)) (ao 13 ?_)))))))
  refine kR (sW.R aW 396 Pa Pd) [] [1,2] J NC H (sW.c · eB) (λv8 H=>?_);rintro _ _ ⟨a17,n17,eU,fL,rfl,rfl⟩;refine fz J (an (so [0,0]) (ha T 0 [14,15,16] (so [0,0]) hg pf J (ae (gL [3] J (FO (j:=2) (q1:=1) (q2:=3) v8.2 J yX J J J J J ⟨a17,n17,eU,fL,J,J⟩ (λkH gP=>rx T 2 ?_))))))
  cases H;exact p1 T J [2,0] ⟨kH,(And.intro gP (Le s2.2)),J,J⟩ J
 refine lT J (cw T J J J J (EA (j:=1) J yX J)) (an (so [0,1]) (ha T 6 [9] (so [0,1]) hg pf J (av 12 (so [0,1]) hg pf J (JA T J J J J J (by rw[s2.2] at c8;exact c8) (by rw[xm.at yX];rfl)) ?_)))
 refine gK 3 13 ?_ ?_
 ·refine lT J (cw T J J J J (EA (j:=1) J yX J)) (an (so [0,1]) (ao 13 (kR (sW.R aW 396 Pa Pd) [] [1,2] J NC H (sW.c · eB) (λv9 H=>?_))));rintro _ _ ⟨a20,n20,nI,lL,rfl,rfl⟩;refine fz J (an (so [0,0]) (ha T 0 [14,15,16] (so [0,0]) hg pf J (ae (gL [3] J (FO (j:=2) (q1:=1) (q2:=3) v9.2 J yX J J J J J ⟨a20,n20,nI,lL,J,J⟩ (λmz iz=>rx T 2 ?_))))))
  cases H;exact p1 T J [2,0] ⟨mz,(And.intro iz (Le s2.2)),J,J⟩ J
 refine kR (sW.R aW 396 Pa Pd) [] [1,2] J NC H (sW.c · eB) (λv10 H=>?_);rintro _ _ ⟨a23,n23,jC,gD,rfl,rfl⟩;refine fz J (an (so [0,0]) (ao 3 (lT J (cw T J J J J (EA (j:=2) J yX J)) (an (so [0,0]) (ha T 0 [14,15,16] (so [0,0]) hg pf J (ae (gL [3] J (FO (j:=2) (q1:=1) (q2:=3) v10.2 J yX J J J J J ⟨a23,n23,jC,gD,J,J⟩ (λir jQ=>rx T 2 ?_)))))))))
 cases H;exact p1 T J [2,0] ⟨ir,(And.intro jQ (Le s2.2)),J,J⟩ J
end
end Go.Proofs.YthodkonhneebbaaGreatDoor
