/- What the functions of some packages compute, each as a function of plain Lean, with its contract. No condition. -/
import Derived.Test.YthodkonhneebbaaGreatDoorKDT
import Derived.Test.YthodkonhneebbaaGreatDoorKD6
import Derived.Test.YthodkonhneebbaaGreatDoorKD5
namespace Go.Proofs.YthodkonhneebbaaGreatDoor
open Go.Hx
open Int renaming tmod->fy,tdiv->cZ,toNat->ax
open List renaming length->aa,set->aD,replicate->ct,flatten_cons->vC,flatten_append->vB,flatten_nil->vD,append_nil->sY,append_assoc->uz
set_option maxRecDepth 100000
set_option linter.unusedSimpArgs false
set_option linter.unusedVariables false
set_option maxHeartbeats 4000000
set_option autoImplicit true
set_option relaxedAutoImplicit true
noncomputable section
def Ac.f (most:Int):Option (Option fI):=if((decide (most<1))||(decide (most>65536)))=true then(some none) else(some (some (fI.mk most 0 ([]:(List (Int×bB))) [])))
def Ac.R (r:(Option fI)):bk:=λu G=> ∃(u0:Value) (G0:List Hp),XV r u0 G0/\u=u0/\G=G0
theorem Ac.c (H:Ac.f most=some r):
 QR 152 [(ii most)] [] [] F (Ac.R r):=by
 unfold Ac.f at H;refine aG Tryz.func152 J J (λW=>rc T 11 (go T [3,4,5] 5 [0] 8 J J J J J J J (ro T 2 (cb J H (λH=>?_) (λH=>?_)))))
 ·refine rc T 7 ?_
  cases H;exact p1 T J [0] ⟨_,_,⟨J,J⟩,J,J⟩ J
 refine rc T 5 (aV (vK T (Ky.int .i64 u3) (λx:bB=>Value.agg #[.int .i64 x.Id,.int .i64 x.Cell,.int .i64 x.Goal]) J J J trivial (λa1 H1 s1=>ro T 1 (nc T J (λb2=>ro T 4 ?_)))))
 cases H;refine bA (p1 T J [2,1,1,0] ⟨_,_,⟨b2,a1,H1,none,0,[],s1,ak.nil,J,J⟩,J,J⟩ J)
def yF.f (u:fI):Option Int:=some (aa u.live:Int)
theorem yF.c (H:yF.f u=some r) (jH:cU (Ky.int .i64 u3) (λx:bB=>Value.agg #[.int .i64 x.Id,.int .i64 x.Cell,.int .i64 x.Goal]) u.live iX kF) (kz:ak (Fl.int .i64) 3 u.order jz jF jy):
 QU 158 [(pp eX)] [(cl eX 178 [(ii u.most),(ii u.next),(.map (some iX)),(ll jz u.order jF)]),kF,jy] F (ii r):=by
 unfold yF.f at H;refine aG Tryz.func158 J J (λW=>rc T 12 (e_ J (rc T 7 (lf T 0 J (bx J (MC T (Ky.int .i64 u3) (λx:bB=>Value.agg #[.int .i64 x.Id,.int .i64 x.Cell,.int .i64 x.Goal]) J J J (oS jH (j:=1) J)) (ro T 4 ?_))))))
 cases H;exact p0 T J [0,0,0,0] J
def yC.f (u:fI) (cell:Int) (goal:Int):Option (Int×Bool×fI):=if(aa u.live:Int)≥u.most then(some (0,false,u)) else(if(aa u.order+1<=1099511627776) then(some (u.next,true,(fI.mk u.most (af (u.next+1)) (cO u.live u.next (bB.mk u.next cell goal)) (u.order++[u.next])))) else none)
def yC.R (eX:Nat) (r:(Int×Bool×fI)):bk:=λu G=> ∃(a0:Nat) (H0:Hp) (a1 n1 H1:_),cU (Ky.int .i64 u3) (λx:bB=>Value.agg #[.int .i64 x.Id,.int .i64 x.Cell,.int .i64 x.Goal]) r.2.2.live a0 H0/\ak (Fl.int .i64) 3 r.2.2.order a1 n1 H1/\u=(.tuple #[(ii r.1),(bb r.2.1)])/\G=[(cl eX 178 [(ii r.2.2.most),(ii r.2.2.next),(.map (some a0)),(ll a1 r.2.2.order n1)]),H0,H1]
theorem yC.c (H:yC.f u cell goal=some r) (jH:cU (Ky.int .i64 u3) (λx:bB=>Value.agg #[.int .i64 x.Id,.int .i64 x.Cell,.int .i64 x.Goal]) u.live iX kF) (kz:ak (Fl.int .i64) 3 u.order jz jF jy):
 QR 156 [(pp eX),(ii cell),(ii goal)] [(cl eX 178 [(ii u.most),(ii u.next),(.map (some iX)),(ll jz u.order jF)]),kF,jy] [] F (yC.R eX r):=by
 unfold yC.f at H;refine aG Tryz.func156 J J (λW=>rc T 8 (dq mix aA ?_))
 iterate 6 refine au T J ?_
 refine cw T 0 J J J (bg J J J (MC T (Ky.int .i64 u3) (λx:bB=>Value.agg #[.int .i64 x.Id,.int .i64 x.Cell,.int .i64 x.Goal]) J J J (oS jH (j:=1) J)) (au T J (au T J (au T J (cw T 0 J J J (au T J (au T J (cM (rx T 1 (cd J H (λH=>?_) (λH=>?_)))))))))))
 ·refine rc T 8 ?_
  cases H;exact p1 T J [0,0,0,0] ⟨iX,kF,jz,jF,jy,jH,kz,J,J⟩ J
 refine rc T 7 (lf T 0 J (ro T 8 (lf T 0 J (ro T 3 (sg T 0 J (ro T 7 (lf T 0 J (ro T 5 (aV (p_ (g:=1) (m:=u.live) (k:=u.next) (v:=(bB.mk u.next cell goal)) T (Ky.int .i64 u3) (λx:bB=>Value.agg #[.int .i64 x.Id,.int .i64 x.Cell,.int .i64 x.Goal]) J J J J J J J jH (λH4 s4=>ro T 8 (lf T 0 J (ro T 1 (aV (c_ (k:=(Fl.int .i64)) T [u.next] J J J J J J J J J (λa5 H5 s5=>?_))))))))))))))))
 obtain⟨c2,H⟩:=az H;refine aV (eF (k:=(Fl.int .i64)) (xs:=u.order) T (g:=2) J J J J J J J J J J kz (oO s5 4) c2 J (λa6 n6 H6 s6=>ro T 2 (sg T 0 J (ro T 1 (ke [8] [0,0,0,0] J J (rx T 9 ?_))))))
 cases H;exact p1 T J [0,0,0,0] ⟨iX,H4,a6,n6,H6,s4,s6,J,J⟩ J
def qF.f (u:fI) (ai:Int):Option (bB×Bool):=some ((bB.mk ((aT u.live ai).Id) ((aT u.live ai).Cell) ((aT u.live ai).Goal)),(cj u.live ai))
theorem qF.c (H:qF.f u ai=some r) (jH:cU (Ky.int .i64 u3) (λx:bB=>Value.agg #[.int .i64 x.Id,.int .i64 x.Cell,.int .i64 x.Goal]) u.live iX kF) (kz:ak (Fl.int .i64) 3 u.order jz jF jy):
 QU 122 [(pp eX),(ii ai)] [(cl eX 178 [(ii u.most),(ii u.next),(.map (some iX)),(ll jz u.order jF)]),kF,jy] F (.tuple #[(.agg #[(ii r.1.Id),(ii r.1.Cell),(ii r.1.Goal)]),(bb r.2)]):=by
 unfold qF.f at H;refine aG Tryz.func122 J J (λW=>rc T 2 (nc T J (λb4=>ro T 10 (e_ J (rc T 7 (lf T 0 J (ro T 1 (bx J (qi (k:=ai) T (Ky.int .i64 u3) (λx:bB=>Value.agg #[.int .i64 x.Id,.int .i64 x.Cell,.int .i64 x.Goal]) J J J J J (oS jH (j:=1) J)) (ro T 3 (nc T J (λb5=>sg T 5 J (ro T 5 (lm T 5 J (ro T 1 (sg T 4 J (ro T 2 (ke [4,5] [0,0,0,0,0] J J (rx T 1 (rc T 1 ?_)))))))))))))))))))
 cases H;exact pb T J (.cT (j:=4) [(ii (aT u.live ai).Id),(ii (aT u.live ai).Cell),(ii (aT u.live ai).Goal)] J J J J J J J (.tmp J .nil)) [0,0,0,0] () J J
def mW.l0:Nat->fI->List Int->Int->Option (List Int)
 |0,_,_,_=>none
 |k5+1,u,x3,x4=>if x4<(aa u.order:Int) then(if(0<=x4/\x4<(aa u.order:Int)) then(if(cj u.live (rd u.order x4))=true then(if(aa x3+1<=1099511627776) then(mW.l0 k5 u (x3++[(rd u.order x4)]) (af (x4+1))) else none) else(mW.l0 k5 u x3 (af (x4+1)))) else none) else(some x3)
def mW.f (u:fI):Option (List Int):=mW.l0 fuel u [] 0
def mW.R (r:(List Int)):bk:=λu G=> ∃a0 n0 H0,ak (Fl.int .i64) 3 r a0 n0 H0/\u=(ll a0 r n0)/\G=[H0]
theorem mW.c (H:mW.f u=some r) (jH:cU (Ky.int .i64 u3) (λx:bB=>Value.agg #[.int .i64 x.Id,.int .i64 x.Cell,.int .i64 x.Goal]) u.live iX kF) (kz:ak (Fl.int .i64) 3 u.order jz jF jy):
 QR 109 [(pp eX)] [(cl eX 178 [(ii u.most),(ii u.next),(.map (some iX)),(ll jz u.order jF)]),kF,jy] [(cl eX 178 [(ii u.most),(ii u.next),(.map (some iX)),(ll jz u.order jF)]),kF,jy] F (mW.R r):=by
 unfold mW.f at H;refine aG Tryz.func109 J J (λW=>rc T 16 (lf T 0 J (ro T 5 (bA (lq [0,11,12] [3,0,0,0] (λ(⟨k5,x3,x4,a5,n5,H5⟩:Nat×List Int×Int×Option Addr×Nat×Hp)=>(mW.l0 k5 u x3 x4=some r/\ak (Fl.int .i64) 3 x3 a5 n5 H5,[(3,(ll a5 x3 n5)),(13,(ii x4))],[H5])) J J (fuel,[],0,none,0,[]) [3,0,0,0,0] ⟨H,ak.nil⟩ J J ?_)))));rintro k5 ⟨x3,x4,a5,n5,H5⟩ ⟨Z1,s5⟩;rw[mW.l0] at Z1;refine rc T 6 (cd J Z1 (λZ1=>?_) (λZ1=>?_))
 ·refine rc T 6 ?_;obtain⟨c3,Z1⟩:=az Z1;obtain⟨q6,o6,e6⟩:=kz.r.addr c3.1 c3.2;refine ix T J e6 c3 (le T 0 (oO kz 3) e6 c3 J J (ro T 8 (lf T 1 J (ro T 1 (bx J (qi (k:=(rd u.order x4)) T (Ky.int .i64 u3) (λx:bB=>Value.agg #[.int .i64 x.Id,.int .i64 x.Cell,.int .i64 x.Goal]) J J J J J (oS jH (j:=2) J)) (ro T 3 (nc T J (λb7=>sg T 5 J (ro T 8 (cb J Z1 (λZ1=>?_) (λZ1=>?_)))))))))))
  ·refine rc T 3 (aV (c_ (k:=(Fl.int .i64)) T [(rd u.order x4)] J J J J J J J J J (λa8 H8 s8=>?_)));obtain⟨c5,Z1⟩:=az Z1;refine aV (eF (k:=(Fl.int .i64)) (xs:=x3) T (g:=4) J J J J J J J J J J s5 (oO s8 6) c5 J (λa9 n9 H9 s9=>ro T 9 (ar (_,_,_,_,_) [0,0,0,0,0] ⟨Z1,s9⟩ J J)))
  refine rc T 8 (ar (_,_,_,_,_) [0,0,0,0,0] ⟨Z1,s5⟩ J J)
 refine rc T 12 ?_
 cases Z1;exact p1 T J [4,1,1,1,0] ⟨a5,n5,H5,s5,J,J⟩ J
def yE.f (u:fI) (ai:Int):Option (Bool×fI):=(qF.f u ai).bind λv1=>if(!v1.2)=true then(some (false,u)) else(if(aa u.order:Int)>(af (2*(aa (fU u.live ai):Int))) then((mW.f (fI.mk u.most u.next (fU u.live ai) u.order)).bind λv2=>some (true,(fI.mk u.most u.next (fU u.live ai) v2))) else(some (true,(fI.mk u.most u.next (fU u.live ai) u.order))))
def yE.R (eX:Nat) (r:(Bool×fI)):bk:=λu G=> ∃(a0:Nat) (H0:Hp) (a1 n1 H1:_),cU (Ky.int .i64 u3) (λx:bB=>Value.agg #[.int .i64 x.Id,.int .i64 x.Cell,.int .i64 x.Goal]) r.2.live a0 H0/\ak (Fl.int .i64) 3 r.2.order a1 n1 H1/\u=(bb r.1)/\G=[(cl eX 178 [(ii r.2.most),(ii r.2.next),(.map (some a0)),(ll a1 r.2.order n1)]),H0,H1]
theorem yE.c (H:yE.f u ai=some r) (jH:cU (Ky.int .i64 u3) (λx:bB=>Value.agg #[.int .i64 x.Id,.int .i64 x.Cell,.int .i64 x.Goal]) u.live iX kF) (kz:ak (Fl.int .i64) 3 u.order jz jF jy):
 QR 159 [(pp eX),(ii ai)] [(cl eX 178 [(ii u.most),(ii u.next),(.map (some iX)),(ll jz u.order jF)]),kF,jy] [] F (yE.R eX r):=by
 unfold yE.f at H;refine aG Tryz.func159 J J (λW=>rc T 9 (k [0,0,0] J Cg H (qF.c · jH kz) (λv1 H=>ro T 3 (nc T J (λb4=>sg T 4 J (ro T 10 (cb J H (λH=>?_) (λH=>?_))))))))
 ·refine rc T 7 ?_
  cases H;exact p1 T J [0,0,0,0] ⟨iX,kF,jz,jF,jy,jH,kz,J,J⟩ J
 refine rc T 7 (lf T 0 J (ro T 1 (aV (DN (g:=1) (m:=u.live) (k:=ai) T (Ky.int .i64 u3) (λx:bB=>Value.agg #[.int .i64 x.Id,.int .i64 x.Cell,.int .i64 x.Goal]) J J J J J J J J jH (λH5 s5=>ro T 4 (dq mix aA (au T J (au T J (au T J (cw T 0 J J J ?_))))))))))
 iterate 4 refine au T J ?_
 refine cw T 0 J J J (bg J J J (MC T (Ky.int .i64 u3) (λx:bB=>Value.agg #[.int .i64 x.Id,.int .i64 x.Cell,.int .i64 x.Goal]) J J J (oS s5 (j:=1) J)) (au T J (au T J (cM (rx T 1 (cd J H (λH=>?_) (λH=>?_)))))))
 ·refine rc T 3 (kr mW.R [0,0,0] [0,0,0] J Sp H (mW.c (u:=(fI.mk u.most u.next (fU u.live ai) u.order)) · s5 kz) (λv2 H=>?_))
  rintro _ _ ⟨a6,n6,H6,s6,rfl,rfl⟩;refine fz J (ro T 2 (sg T 3 J (ro T 1 (ke [] [0,1,1,1] J J (rx T 7 ?_)))))
  cases H;exact p1 T J [2,2,1,0] ⟨iX,H5,a6,n6,H6,s5,s6,J,J⟩ J
 refine rc T 8 ?_
 cases H;exact p1 T J [0,0,0,0] ⟨iX,H5,jz,jF,jy,s5,kz,J,J⟩ J
def Bx.f (x:bB) (ai:Int):Option bB:=some (bB.mk x.Id x.Cell ai)
def Bx.R (y_:Nat) (r:bB) (u:Value) (G:List Hp):Prop:=u=(.tuple #[])/\G=[(cl y_ 67 [(ii r.Id),(ii r.Cell),(ii r.Goal)])]
theorem Bx.c (H:Bx.f x ai=some r):
 QR 162 [(pp y_),(pp uF)] [(cl y_ 67 [(ii x.Id),(ii x.Cell),(ii x.Goal)]),(cl uF 3 [(ii ai)])] [(cl uF 3 [(ii ai)])] F (Bx.R y_ r):=by
 unfold Bx.f at H;refine aG Tryz.func162 J J (λW=>rc T 2 (lf T 1 J (ro T 2 (sg T 0 J (ro T 1 (jk ?_))))))
 cases H;exact p1 T J [0,0,0] ⟨J,J⟩ J
def Ad.f (u:fI) (ai:Int) (zM:Int):Option (Bool×fI):=(qF.f u ai).bind λv1=>if v1.2=true then((Bx.f v1.1 zM).bind λv2=>some (v1.2,(fI.mk u.most u.next (cO u.live ai v2) u.order))) else(some (v1.2,u))
def Ad.R (eX:Nat) (r:(Bool×fI)):bk:=λu G=> ∃(a0:Nat) (H0:Hp) (a1 n1 H1:_),cU (Ky.int .i64 u3) (λx:bB=>Value.agg #[.int .i64 x.Id,.int .i64 x.Cell,.int .i64 x.Goal]) r.2.live a0 H0/\ak (Fl.int .i64) 3 r.2.order a1 n1 H1/\u=(bb r.1)/\G=[(cl eX 178 [(ii r.2.most),(ii r.2.next),(.map (some a0)),(ll a1 r.2.order n1)]),H0,H1]
theorem Ad.c (H:Ad.f u ai zM=some r) (jH:cU (Ky.int .i64 u3) (λx:bB=>Value.agg #[.int .i64 x.Id,.int .i64 x.Cell,.int .i64 x.Goal]) u.live iX kF) (kz:ak (Fl.int .i64) 3 u.order jz jF jy):
 QR 161 [(pp eX),(ii ai),(.func (.func 162) #[] #[(pp FO)])] [(cl eX 178 [(ii u.most),(ii u.next),(.map (some iX)),(ll jz u.order jF)]),kF,jy,(cl FO 3 [(ii zM)])] [(cl FO 3 [(ii zM)])] F (Ad.R eX r):=by
 unfold Ad.f at H;refine aG Tryz.func161 J J (λW=>rc T 9 (k [0,0,0] J Cg H (qF.c · jH kz) (λv1 H=>ro T 3 (nc T J (λb5=>sg T 5 J (ro T 9 (cb J H (λH=>?_) (λH=>?_))))))))
 ·refine rc T 3 (kr (Bx.R b5) [3] [5,3] J ab1 H (Bx.c ·) (λv2 H=>?_));rintro _ _ ⟨rfl,rfl⟩;refine fz J (ro T 2 (ks [0,1,7,8] J (fz J (rz [6] mix (bR bQ) (λhg pf=>ha T 4 [0,1,2] sz hg pf J (al T 3 0 sz hg pf J J J (ha T 2 [4] sz hg pf J (av 5 sz hg pf J (gA T 4 J J J J J J J) (ao 6 (p_ (g:=1) (m:=u.live) (k:=ai) (v:=v2) T (Ky.int .i64 u3) (λx:bB=>Value.agg #[.int .i64 x.Id,.int .i64 x.Cell,.int .i64 x.Goal]) J J J J J J J jH (λH6 s6=>an sl (ae (rx T 8 ?_)))))))))))))
  cases H;exact p1 T J [0,0,0,2,0] ⟨iX,H6,jz,jF,jy,s6,kz,J,J⟩ J
 refine rc T 9 ?_
 cases H;exact p1 T J [0,0,0,0,0] ⟨iX,kF,jz,jF,jy,jH,kz,J,J⟩ J
def yD.f (u:fI) (ai:Int) (goal:Int):Option (Bool×fI):=(Ad.f u ai goal).bind λv1=>some (v1.1,v1.2)
def yD.R (eX:Nat) (r:(Bool×fI)):bk:=λu G=> ∃(a0:Nat) (H0:Hp) (a1 n1 H1:_),cU (Ky.int .i64 u3) (λx:bB=>Value.agg #[.int .i64 x.Id,.int .i64 x.Cell,.int .i64 x.Goal]) r.2.live a0 H0/\ak (Fl.int .i64) 3 r.2.order a1 n1 H1/\u=(bb r.1)/\G=[(cl eX 178 [(ii r.2.most),(ii r.2.next),(.map (some a0)),(ll a1 r.2.order n1)]),H0,H1]
theorem yD.c (H:yD.f u ai goal=some r) (jH:cU (Ky.int .i64 u3) (λx:bB=>Value.agg #[.int .i64 x.Id,.int .i64 x.Cell,.int .i64 x.Goal]) u.live iX kF) (kz:ak (Fl.int .i64) 3 u.order jz jF jy):
 QR 126 [(pp eX),(ii ai),(ii goal)] [(cl eX 178 [(ii u.most),(ii u.next),(.map (some iX)),(ll jz u.order jF)]),kF,jy] [] F (yD.R eX r):=by
 unfold yD.f at H;refine aG Tryz.func126 J J (λW=>rc T 2 (nc T J (λb4=>ro T 8 (kr (Ad.R eX) [4] [0,0,0,1] J SE H (Ad.c · jH kz) (λv1 H=>?_)))));rintro _ _ ⟨a5,H5,a6,n6,H6,s5,s6,rfl,rfl⟩;refine fz J (ro T 4 ?_)
 cases H;exact p1 T J [1,1,1,0] ⟨a5,H5,a6,n6,H6,s5,s6,J,J⟩ J
def pa.l0:Nat->fI->(List Int)->List bB->Int->Option (List bB)
 |0,_,_,_,_=>none
 |k6+1,u,v1,x4,x5=>if x5<(aa v1:Int) then(if(0<=x5/\x5<(aa v1:Int)) then(if(aa x4+1<=1099511627776) then(pa.l0 k6 u v1 (x4++[(bB.mk ((aT u.live (rd v1 x5)).Id) ((aT u.live (rd v1 x5)).Cell) ((aT u.live (rd v1 x5)).Goal))]) (af (x5+1))) else none) else none) else(some x4)
def pa.f (u:fI):Option (List bB):=(mW.f u).bind λv1=>pa.l0 fuel u v1 [] 0
def pa.R (r:(List bB)):bk:=λu G=> ∃a0 n0 H0,ak lT 67 r a0 n0 H0/\u=(ll a0 r n0)/\G=[H0]
theorem pa.c (H:pa.f u=some r) (jH:cU (Ky.int .i64 u3) (λx:bB=>Value.agg #[.int .i64 x.Id,.int .i64 x.Cell,.int .i64 x.Goal]) u.live iX kF) (kz:ak (Fl.int .i64) 3 u.order jz jF jy):
 QR 81 [(pp eX)] [(cl eX 178 [(ii u.most),(ii u.next),(.map (some iX)),(ll jz u.order jF)]),kF,jy] [(cl eX 178 [(ii u.most),(ii u.next),(.map (some iX)),(ll jz u.order jF)]),kF,jy] F (pa.R r):=by
 unfold pa.f at H;refine aG Tryz.func81 J J (λW=>rc T 12 (e_ J (rc T 11 (kr mW.R [0,0,0] [0,0,0] J Sp H (mW.c · jH kz) (λv1 H=>?_)))));rintro _ _ ⟨a4,n4,H4,s4,rfl,rfl⟩;refine fz J (ro T 5 (bA (lq [0,9,10] [0,1,1,1,0] (λ(⟨k6,x4,x5,a6,n6,H6⟩:Nat×List bB×Int×Option Addr×Nat×Hp)=>(pa.l0 k6 u v1 x4 x5=some r/\ak lT 67 x4 a6 n6 H6,[(3,(ll a6 x4 n6)),(11,(ii x5))],[H6])) J J (fuel,[],0,none,0,[]) [0,1,1,1,0,0] ⟨H,ak.nil⟩ J J ?_)));rintro k6 ⟨x4,x5,a6,n6,H6⟩ ⟨Z2,s6⟩;rw[pa.l0] at Z2;refine rc T 6 (cd J Z2 (λZ2=>?_) (λZ2=>?_))
 ·refine rc T 6 ?_;obtain⟨c4,Z2⟩:=az Z2;obtain⟨q7,o7,e7⟩:=s4.r.addr c4.1 c4.2;refine ix T J e7 c4 (le T 0 (oO s4 4) e7 c4 J J (ro T 8 (lf T 1 J (ro T 1 (bx J (qi (k:=(rd v1 x5)) T (Ky.int .i64 u3) (λx:bB=>Value.agg #[.int .i64 x.Id,.int .i64 x.Cell,.int .i64 x.Goal]) J J J J J (oS jH (j:=2) J)) (aV (c_ (k:=lT) T [(bB.mk ((aT u.live (rd v1 x5)).Id) ((aT u.live (rd v1 x5)).Cell) ((aT u.live (rd v1 x5)).Goal))] J J J J J J J J J (λa8 H8 s8=>?_))))))));obtain⟨c5,Z2⟩:=az Z2;refine aV (eF (k:=lT) (xs:=x4) T (g:=5) J J J J J J J J J J s6 (oO s8 6) c5 J (λa9 n9 H9 s9=>ro T 9 (ar (_,_,_,_,_) [0,0,0,0,0,0] ⟨Z2,s9⟩ J J)))
 refine rc T 12 ?_
 cases Z2;exact p1 T J [5,1,1,1,0] ⟨a6,n6,H6,s6,J,J⟩ J
def Bz.f (x:bB) (ai:Int):Option bB:=some (bB.mk x.Id ai x.Goal)
def Bz.R (y_:Nat) (r:bB) (u:Value) (G:List Hp):Prop:=u=(.tuple #[])/\G=[(cl y_ 67 [(ii r.Id),(ii r.Cell),(ii r.Goal)])]
theorem Bz.c (H:Bz.f x ai=some r):
 QR 200 [(pp y_),(pp uF)] [(cl y_ 67 [(ii x.Id),(ii x.Cell),(ii x.Goal)]),(cl uF 3 [(ii ai)])] [(cl uF 3 [(ii ai)])] F (Bz.R y_ r):=by
 unfold Bz.f at H;refine aG Tryz.func200 J J (λW=>rc T 2 (lf T 1 J (ro T 2 (sg T 0 J (ro T 1 (jk ?_))))))
 cases H;exact p1 T J [0,0,0] ⟨J,J⟩ J
def Ae.f (u:fI) (ai:Int) (zM:Int):Option (Bool×fI):=(qF.f u ai).bind λv1=>if v1.2=true then((Bz.f v1.1 zM).bind λv2=>some (v1.2,(fI.mk u.most u.next (cO u.live ai v2) u.order))) else(some (v1.2,u))
def Ae.R (eX:Nat) (r:(Bool×fI)):bk:=λu G=> ∃(a0:Nat) (H0:Hp) (a1 n1 H1:_),cU (Ky.int .i64 u3) (λx:bB=>Value.agg #[.int .i64 x.Id,.int .i64 x.Cell,.int .i64 x.Goal]) r.2.live a0 H0/\ak (Fl.int .i64) 3 r.2.order a1 n1 H1/\u=(bb r.1)/\G=[(cl eX 178 [(ii r.2.most),(ii r.2.next),(.map (some a0)),(ll a1 r.2.order n1)]),H0,H1]
theorem Ae.c (H:Ae.f u ai zM=some r) (jH:cU (Ky.int .i64 u3) (λx:bB=>Value.agg #[.int .i64 x.Id,.int .i64 x.Cell,.int .i64 x.Goal]) u.live iX kF) (kz:ak (Fl.int .i64) 3 u.order jz jF jy):
 QR 161 [(pp eX),(ii ai),(.func (.func 200) #[] #[(pp FO)])] [(cl eX 178 [(ii u.most),(ii u.next),(.map (some iX)),(ll jz u.order jF)]),kF,jy,(cl FO 3 [(ii zM)])] [(cl FO 3 [(ii zM)])] F (Ae.R eX r):=by
 unfold Ae.f at H;refine aG Tryz.func161 J J (λW=>rc T 9 (k [0,0,0] J Cg H (qF.c · jH kz) (λv1 H=>ro T 3 (nc T J (λb5=>sg T 5 J (ro T 9 (cb J H (λH=>?_) (λH=>?_))))))))
 ·refine rc T 3 (kr (Bz.R b5) [3] [5,3] J acp H (Bz.c ·) (λv2 H=>?_));rintro _ _ ⟨rfl,rfl⟩;refine fz J (ro T 2 (ks [0,1,7,8] J (fz J (rz [6] mix (bR bQ) (λhg pf=>ha T 4 [0,1,2] sz hg pf J (al T 3 0 sz hg pf J J J (ha T 2 [4] sz hg pf J (av 5 sz hg pf J (gA T 4 J J J J J J J) (ao 6 (p_ (g:=1) (m:=u.live) (k:=ai) (v:=v2) T (Ky.int .i64 u3) (λx:bB=>Value.agg #[.int .i64 x.Id,.int .i64 x.Cell,.int .i64 x.Goal]) J J J J J J J jH (λH6 s6=>an sl (ae (rx T 8 ?_)))))))))))))
  cases H;exact p1 T J [0,0,0,2,0] ⟨iX,H6,jz,jF,jy,s6,kz,J,J⟩ J
 refine rc T 9 ?_
 cases H;exact p1 T J [0,0,0,0,0] ⟨iX,kF,jz,jF,jy,jH,kz,J,J⟩ J
def yG.f (u:fI) (ai:Int) (cell:Int):Option (Bool×fI):=(Ae.f u ai cell).bind λv1=>some (v1.1,v1.2)
def yG.R (eX:Nat) (r:(Bool×fI)):bk:=λu G=> ∃(a0:Nat) (H0:Hp) (a1 n1 H1:_),cU (Ky.int .i64 u3) (λx:bB=>Value.agg #[.int .i64 x.Id,.int .i64 x.Cell,.int .i64 x.Goal]) r.2.live a0 H0/\ak (Fl.int .i64) 3 r.2.order a1 n1 H1/\u=(bb r.1)/\G=[(cl eX 178 [(ii r.2.most),(ii r.2.next),(.map (some a0)),(ll a1 r.2.order n1)]),H0,H1]
theorem yG.c (H:yG.f u ai cell=some r) (jH:cU (Ky.int .i64 u3) (λx:bB=>Value.agg #[.int .i64 x.Id,.int .i64 x.Cell,.int .i64 x.Goal]) u.live iX kF) (kz:ak (Fl.int .i64) 3 u.order jz jF jy):
 QR 168 [(pp eX),(ii ai),(ii cell)] [(cl eX 178 [(ii u.most),(ii u.next),(.map (some iX)),(ll jz u.order jF)]),kF,jy] [] F (yG.R eX r):=by
 unfold yG.f at H;refine aG Tryz.func168 J J (λW=>rc T 2 (nc T J (λb4=>ro T 8 (kr (Ae.R eX) [4] [0,0,0,1] J SE H (Ae.c · jH kz) (λv1 H=>?_)))));rintro _ _ ⟨a5,H5,a6,n6,H6,s5,s6,rfl,rfl⟩;refine fz J (ro T 4 ?_)
 cases H;exact p1 T J [1,1,1,0] ⟨a5,H5,a6,n6,H6,s5,s6,J,J⟩ J
end
noncomputable section
def xq.f (w:Int) (h:Int) (most:Int):Option (Option ft):=(oy.f w h).bind λv1=>if(((!v1)||(decide (most<1)))||(decide (most>65536)))=true then(some none) else((Ac.f most).bind λv2=>dF v2 ((uM.f (af (w*h))).bind λv3=>dF v3 (none) (λsQ=>none)) (λsP=>(uM.f (af (w*h))).bind λv4=>dF v4 (none) (λwZ=>some (some (ft.mk w h most sP wZ)))))
def xq.R (r:(Option ft)):bk:=λu G=> ∃(u0:Value) (G0:List Hp),XK r u0 G0/\u=u0/\G=G0
theorem xq.c (H:xq.f w h most=some r):
 QR 116 [(ii w),(ii h),(ii most)] [] [] F (xq.R r):=by
 unfold xq.f at H;refine aG Tryz.func116 J J (λW=>rc T 10 (k [] J Cj H (oy.c ·) (λv1 H=>ro T 2 (go T [5,6,7] 11 [0,1,2] 14 J J J J J J J (ro T 1 (go T [9,10,11] 15 [0,1,2] 18 J J J J J J J (ro T 2 (cb J H (λH=>?_) (λH=>?_)))))))))
 ·refine rc T 7 ?_
  cases H;exact p1 T J [0] ⟨_,_,⟨J,J⟩,J,J⟩ J
 refine rc T 8 (kr Ac.R [] [] J abW H (Ac.c ·) (λv2 H=>?_));rintro _ _ ⟨_,_,O4,rfl,rfl⟩;rcases v2 with _ |sP
 ·replace H:=ff J H;obtain⟨rfl,rfl⟩:=O4;refine ro T 3 (kr uM.R [] [] J SB H (uM.c ·) (λv3 H=>?_));rintro _ _ ⟨_,_,O6,rfl,rfl⟩;rcases v3 with _ |sQ
  ·replace H:=ff J H;obtain⟨rfl,rfl⟩:=O6;refine ro T 1 (nc T J (λb6=>ro T 4 ?_))
   cases H
  replace H:=fg J H;obtain⟨b4,a5,n5,H5,s5,rfl,rfl⟩:=O6;refine ro T 1 (nc T J (λb7=>ro T 4 ?_))
  cases H
 replace H:=fg J H;obtain⟨b1,a2,H2,a3,n3,H3,s2,s3,rfl,rfl⟩:=O4;refine ro T 3 (kr uM.R [] [] J SB H (uM.c ·) (λv4 H=>?_));rintro _ _ ⟨_,_,O8,rfl,rfl⟩;rcases v4 with _ |wZ
 ·replace H:=ff J H;obtain⟨rfl,rfl⟩:=O8;refine ro T 1 (nc T J (λfZ=>ro T 4 ?_))
  cases H
 replace H:=fg J H;obtain⟨b8,a9,n9,H9,s9,rfl,rfl⟩:=O8;refine ro T 1 (nc T J (λjO=>ro T 4 ?_))
 cases H;refine gD [6,1,1,1,1,1] J (p1 T J [1,0] ⟨_,_,⟨jO,(List.flatten [(cl jO 146 [(ii w),(ii h),(ii most),(pp b1),(pp b8)]),(cl b1 178 [(ii sP.most),(ii sP.next),(.map (some a2)),(ll a3 sP.order n3)]),H2,H3,(cl b8 221 [(ll a9 wZ.words n9),(ii wZ.count)]),H9]),(show lY (ft.mk w h most sP wZ) jO (List.flatten [(cl jO 146 [(ii w),(ii h),(ii most),(pp b1),(pp b8)]),(cl b1 178 [(ii sP.most),(ii sP.next),(.map (some a2)),(ll a3 sP.order n3)]),H2,H3,(cl b8 221 [(ll a9 wZ.words n9),(ii wZ.count)]),H9]) from⟨b1,a2,H2,a3,n3,H3,b8,a9,n9,H9,s2,s3,s9,J⟩),J,J⟩,J,J⟩ J)
def DV.f (ag:ft) (cell:Int):Option Int:=(qV.f ag.floor cell).bind λv1=>some v1
theorem DV.c (H:DV.f ag cell=some r) (cS:lY ag aW dp):
 QU 119 [(pp aW),(ii cell)] [dp] F (ii r):=by
 unfold DV.f at H;refine aG Tryz.func119 J J (λW=>rc T 12 (e_ J (rc T 3 ?_)));obtain⟨b3,a4,H4,a5,n5,H5,b6,a7,n7,H7,s4,s5,s7,cI⟩:=(λx=>x) cS;refine bX 0 (congrArg some cI) (fz J (rc T 4 (lf T 1 J (ro T 1 (k [5,5] J Gg H (qV.c · s7) (λv1 H=>ro T 4 ?_))))))
 cases H;refine dz [1,1,1,1,1,1] J cI (p0 T J [1,0] J)
def vO.f (ag:ft) (cell:Int):Option Bool:=(gy.f ag.w ag.h cell).bind λv1=>some (decide (v1≥0))
theorem vO.c (H:vO.f ag cell=some r) (cS:lY ag aW dp):
 QU 123 [(pp aW),(ii cell)] [dp] F (bb r):=by
 unfold vO.f at H;refine aG Tryz.func123 J J (λW=>rc T 6 ?_);obtain⟨b3,a4,H4,a5,n5,H5,b6,a7,n7,H7,s4,s5,s7,cI⟩:=(λx=>x) cS;refine bX 0 (congrArg some cI) (fz J (dq mix aA (au T J (au T J (au T J (cw T 1 J J J (au T J (au T J (au T J (cw T 1 J J J (au T J ?_)))))))))));obtain⟨v1,V1,H⟩:=gu H;refine uD J J J J J J sb J (gy.c V1) (au T J (au T J (cM (rx T 2 ?_))))
 cases H;refine dz [1,1,1,1,1,1] J cI (p0 T J [1,0] J)
def zf.f (ag:ft) (ai:Int) (cell:Int) (goal:Int):Option Int:=if(ai==0)=true then(((vO.f ag cell).bind λv3=>if(!v3)=true then(some true) else((vO.f ag goal).bind λv4=>some (!v4))).bind λx1=>if x1=true then(some 7) else((qV.f ag.floor cell).bind λv5=>if(v5 !=(-1))=true then(some 10) else((yF.f ag.eV).bind λv6=>if v6≥ag.most then(some 11) else(if(cell==goal)=true then(some 13) else(some 0))))) else(if(ai==1)=true then((qV.f ag.floor cell).bind λv7=>if(v7 !=(-1))=true then(some 10) else((yF.f ag.eV).bind λv8=>if v8≥ag.most then(some 11) else(if(cell==goal)=true then(some 13) else(some 0)))) else(if(ai==2)=true then((yF.f ag.eV).bind λv9=>if v9≥ag.most then(some 11) else(if(cell==goal)=true then(some 13) else(some 0))) else(if(ai==3)=true then(if(cell==goal)=true then(some 13) else(some 0)) else(some 0))))
theorem zf.c (H:zf.f ag ai cell goal=some r) (cS:lY ag aW dp):
 QU 124 [(pp aW),(ii ai),(ii cell),(ii goal)] [dp] F (ii r):=by
 unfold zf.f at H;refine aG Tryz.func124 J J (λW=>rc T 28 (cb J H (λH=>?_) (λH=>?_)))
 ·refine rc T 5 (mq H [0,2,3] [1,0] (λz2 (x1:Bool)=>(x1=z2,[(27,(bb x1))],[])) J J (λz2 Z2 _=>?_) ?_)
  ·refine rc T 3 (k [0] J MX Z2 (vO.c · cS) (λv3 Z2=>ro T 2 (ab 22 J Z2 (λZ2=>?_) (λZ2=>?_))))
   ·refine ro T 7 (am _ [1,0] (oi Z2) J J)
   refine ro T 2 (k [0] J MX Z2 (vO.c · cS) (λv4 Z2=>ro T 4 (am _ [1,0] (oi Z2) J J)))
  rintro _ x1 rfl H;refine cb J H (λH=>?_) (λH=>?_)
  ·refine rc T 14 ?_
   cases H;exact p0 T J [1,0] J
  refine rc T 4 ?_;obtain⟨b3,a4,H4,a5,n5,H5,b6,a7,n7,H7,s4,s5,s7,cI⟩:=(λx=>x) cS;refine bX 1 (congrArg some cI) (fz J (rc T 4 (lf T 1 J (ro T 1 (k [5,5] J Gg H (qV.c · s7) (λv5 H=>ro T 3 (cb J H (λH=>?_) (λH=>?_))))))))
  ·refine rc T 12 ?_
   cases H;refine dz [1,1,1,1,1,1] J cI (p0 T J [1,0] J)
  refine rc T 4 (dq mix aA (au T J (au T J (au T J (cw T 1 J J J ?_)))));obtain⟨v6,V9,H⟩:=gu H;refine xi [2,2,2] J J J J J J MZ J (yF.c V9 s4 s5) (au T J (au T J (au T J (cw T 1 J J J (au T J (cM (rx T 1 (cd J H (λH=>?_) (λH=>?_)))))))))
  ·refine rc T 10 ?_
   cases H;refine dz [1,1,1,1,1,1] J cI (p0 T J [1,0] J)
  refine rc T 11 (cb J H (λH=>?_) (λH=>?_))
  ·refine rc T 9 ?_
   cases H;refine dz [1,1,1,1,1,1] J cI (p0 T J [1,0] J)
  refine rc T 11 ?_
  cases H;refine dz [1,1,1,1,1,1] J cI (p0 T J [1,0] J)
 refine rc T 9 (cb J H (λH=>?_) (λH=>?_))
 ·refine rc T 8 ?_;obtain⟨b9,cz,bZ,de,n11,cE,ln,dy,n13,dT,bT,cW,dg,F_⟩:=(λx=>x) cS;refine bX 0 (congrArg some F_) (fz J (rc T 4 (lf T 1 J (ro T 1 (k [5,5] J Gg H (qV.c · dg) (λv7 H=>ro T 3 (cb J H (λH=>?_) (λH=>?_))))))))
  ·refine rc T 12 ?_
   cases H;refine dz [1,1,1,1,1,1] J F_ (p0 T J [1,0] J)
  refine rc T 4 (dq mix aA (au T J (au T J (au T J (cw T 1 J J J ?_)))));obtain⟨v8,P6,H⟩:=gu H;refine xi [2,2,2] J J J J J J MZ J (yF.c P6 bT cW) (au T J (au T J (au T J (cw T 1 J J J (au T J (cM (rx T 1 (cd J H (λH=>?_) (λH=>?_)))))))))
  ·refine rc T 10 ?_
   cases H;refine dz [1,1,1,1,1,1] J F_ (p0 T J [1,0] J)
  refine rc T 11 (cb J H (λH=>?_) (λH=>?_))
  ·refine rc T 9 ?_
   cases H;refine dz [1,1,1,1,1,1] J F_ (p0 T J [1,0] J)
  refine rc T 11 ?_
  cases H;refine dz [1,1,1,1,1,1] J F_ (p0 T J [1,0] J)
 refine rc T 9 (cb J H (λH=>?_) (λH=>?_))
 ·refine rc T 10 ?_;obtain⟨oG,ik,fx,a17,n17,eP,qR,my,n19,lh,eK,fF,hJ,D5⟩:=(λx=>x) cS;refine bX 0 (congrArg some D5) (fz J (dq mix aA (au T J (au T J (au T J (cw T 1 J J J ?_))))));obtain⟨v9,IH,H⟩:=gu H;refine xi [2,2,2] J J J J J J MZ J (yF.c IH eK fF) (au T J (au T J (au T J (cw T 1 J J J (au T J (cM (rx T 1 (cd J H (λH=>?_) (λH=>?_)))))))))
  ·refine rc T 10 ?_
   cases H;refine dz [1,1,1,1,1,1] J D5 (p0 T J [1,0] J)
  refine rc T 11 (cb J H (λH=>?_) (λH=>?_))
  ·refine rc T 9 ?_
   cases H;refine dz [1,1,1,1,1,1] J D5 (p0 T J [1,0] J)
  refine rc T 11 ?_
  cases H;refine dz [1,1,1,1,1,1] J D5 (p0 T J [1,0] J)
 refine rc T 8 (cb J H (λH=>?_) (λH=>?_))
 ·refine rc T 18 (cb J H (λH=>?_) (λH=>?_))
  ·refine rc T 9 ?_
   cases H;exact p0 T J [0,0] J
  refine rc T 11 ?_
  cases H;exact p0 T J [0,0] J
 refine rc T 19 ?_
 cases H;exact p0 T J [0,0] J
def xp.f (ag:ft) (cell:Int) (goal:Int):Option (Int×Int×ft):=(zf.f ag 0 cell goal).bind λv1=>if(v1 !=0)=true then(some ((-1),v1,ag)) else((yC.f ag.eV cell goal).bind λv2=>(tv.f ag.floor cell v2.1).bind λv3=>some (v2.1,0,(ft.mk ag.w ag.h ag.most v2.2.2 v3.2)))
def xp.R (nO:Nat) (r:(Int×Int×ft)):bk:=λu G=> ∃(H0:Hp),lY r.2.2 nO H0/\u=(.tuple #[(ii r.1),(ii r.2.1)])/\G=[H0]
theorem xp.c (H:xp.f ag cell goal=some r) (cS:lY ag aW dp):
 QR 121 [(pp aW),(ii cell),(ii goal)] [dp] [] F (xp.R aW r):=by
 unfold xp.f at H;refine aG Tryz.func121 J J (λW=>rc T 13 (e_ J (rc T 8 (k [0] J Sr H (zf.c · cS) (λv1 H=>ro T 9 (cb J H (λH=>?_) (λH=>?_)))))))
 ·refine rc T 9 ?_
  cases H;exact p1 T J [0,0] ⟨dp,cS,J,J⟩ J
 refine rc T 3 ?_;obtain⟨b3,a4,H4,a5,n5,H5,b6,a7,n7,H7,s4,s5,s7,cI⟩:=(λx=>x) cS;refine bX 0 (congrArg some cI) (fz J (rc T 4 (lf T 1 J (ro T 2 (kr (yC.R b3) [] [2,2,2] J abY H (yC.c · s4 s5) (λv2 H=>?_))))));rintro _ _ ⟨a8,H8,a9,n9,H9,s8,s9,rfl,rfl⟩;refine fz J (ro T 11 (lf T 1 J (ro T 2 (kr (tv.R b6) [] [2,2] J SC H (tv.c · s7) (λv3 H=>?_)))));rintro _ _ ⟨cz,n10,bZ,bT,rfl,rfl⟩;refine fz J (ro T 10 ?_)
 cases H;refine gD [1,1,1,1,1,1] J (p1 T J [1,0] ⟨(List.flatten [(cl aW 146 [(ii ag.w),(ii ag.h),(ii ag.most),(pp b3),(pp b6)]),(cl b3 178 [(ii v2.2.2.most),(ii v2.2.2.next),(.map (some a8)),(ll a9 v2.2.2.order n9)]),H8,H9,(cl b6 221 [(ll cz v3.2.words n10),(ii v3.2.count)]),bZ]),(show lY (ft.mk ag.w ag.h ag.most v2.2.2 v3.2) aW (List.flatten [(cl aW 146 [(ii ag.w),(ii ag.h),(ii ag.most),(pp b3),(pp b6)]),(cl b3 178 [(ii v2.2.2.most),(ii v2.2.2.next),(.map (some a8)),(ll a9 v2.2.2.order n9)]),H8,H9,(cl b6 221 [(ll cz v3.2.words n10),(ii v3.2.count)]),bZ]) from⟨b3,a8,H8,a9,n9,H9,b6,cz,n10,bZ,s8,s9,bT,J⟩),J,J⟩ J)
def FX.f (ai:Int) (goal:Int):Option Int:=some 1
theorem FX.c (H:FX.f ai goal=some r):
 QU 89 [(.pointer none),(ii ai),(ii goal)] [] F (ii r):=by
 unfold FX.f at H;refine aG Tryz.func89 J J (λW=>rc T 12 (nL J (rc T 7 ?_)))
 cases H;exact p0 T J [0] J
def qc.f (ag:ft) (u:bB):Option ft:=(yE.f ag.eV u.Id).bind λv1=>(tz.f ag.floor u.Cell).bind λv2=>some (ft.mk ag.w ag.h ag.most v1.2 v2.2)
def qc.R (nO:Nat) (r:ft):bk:=λu G=> ∃(H0:Hp),lY r nO H0/\u=(.tuple #[])/\G=[H0]
theorem qc.c (H:qc.f ag u=some r) (cS:lY ag aW dp):
 QR 125 [(pp aW),(.agg #[(ii u.Id),(ii u.Cell),(ii u.Goal)])] [dp] [] F (qc.R aW r):=by
 unfold qc.f at H;refine aG Tryz.func125 J J (λW=>rc T 2 (nc T J (λb2=>ro T 3 ?_)));obtain⟨b4,a5,H5,a6,n6,H6,b7,a8,n8,H8,s5,s6,s8,dA⟩:=(λx=>x) cS;refine bX 0 (congrArg some dA) (fz J (ks [0,3] J (fz J (rz [6] mix (bR bQ) (λhg pf=>ha T 4 [0,1,2] sz hg pf J (al T 3 2 sz hg pf J J J (ha T 2 [4] sz hg pf J (al T 5 1 sz hg pf J J J (ao 6 (kR (yE.R b4) [] [3,3,3] J abZ H (yE.c · s5 s6) (λv1 H=>?_)))))))))));rintro _ _ ⟨a9,H9,cz,n10,bZ,s9,bT,rfl,rfl⟩;refine fz J (an sl (ae (rx T 1 (ks [0,3] J (fz J (rz [6] mix (bR bQ) (λhg pf=>ha T 4 [0,1,2] sz hg pf J (al T 3 2 sz hg pf J J J (ha T 2 [4] sz hg pf J (al T 5 1 sz hg pf J J J (ao 6 (kR (tz.R b7) [] [3,3] J SD H (tz.c · s8) (λv2 H=>?_)))))))))))));rintro _ _ ⟨de,n11,cE,cW,rfl,rfl⟩;refine fz J (an sl (ae (jk ?_)))
 cases H;refine gD [2,2,2,2,2,2] J (p1 T J [2,0] ⟨(List.flatten [(cl aW 146 [(ii ag.w),(ii ag.h),(ii ag.most),(pp b4),(pp b7)]),(cl b4 178 [(ii v1.2.most),(ii v1.2.next),(.map (some a9)),(ll cz v1.2.order n10)]),H9,bZ,(cl b7 221 [(ll de v2.2.words n11),(ii v2.2.count)]),cE]),(show lY (ft.mk ag.w ag.h ag.most v1.2 v2.2) aW (List.flatten [(cl aW 146 [(ii ag.w),(ii ag.h),(ii ag.most),(pp b4),(pp b7)]),(cl b4 178 [(ii v1.2.most),(ii v1.2.next),(.map (some a9)),(ll cz v1.2.order n10)]),H9,bZ,(cl b7 221 [(ll de v2.2.words n11),(ii v2.2.count)]),cE]) from⟨b4,a9,H9,cz,n10,bZ,b7,de,n11,cE,s9,bT,cW,J⟩),J,J⟩ J)
def xo.f (ag:ft) (ai:Int) (goal:Int):Option (Int×ft):=(qF.f ag.eV ai).bind λv1=>if(!v1.2)=true then(some (12,ag)) else((vO.f ag goal).bind λv2=>if(!v2)=true then(some (7,ag)) else((zf.f ag 3 v1.1.Cell goal).bind λv3=>if(v3 !=0)=true then((qc.f ag v1.1).bind λv4=>some (v3,v4)) else((yD.f ag.eV ai goal).bind λv5=>some (0,(ft.mk ag.w ag.h ag.most v5.2 ag.floor)))))
def xo.R (nO:Nat) (r:(Int×ft)):bk:=λu G=> ∃(H0:Hp),lY r.2 nO H0/\u=(ii r.1)/\G=[H0]
theorem xo.c (H:xo.f ag ai goal=some r) (cS:lY ag aW dp):
 QR 89 [(pp aW),(ii ai),(ii goal)] [dp] [] F (xo.R aW r):=by
 unfold xo.f at H;refine aG Tryz.func89 J J (λW=>rc T 12 (e_ J (rc T 3 ?_)));obtain⟨b3,a4,H4,a5,n5,H5,b6,a7,n7,H7,s4,s5,s7,cI⟩:=(λx=>x) cS;refine bX 0 (congrArg some cI) (fz J (rc T 4 (lf T 1 J (ro T 1 (k [2,2,2] J Cg H (qF.c · s4 s5) (λv1 H=>ro T 3 (nc T J (λb8=>sg T 7 J (ro T 12 (cb J H (λH=>?_) (λH=>?_)))))))))))
 ·refine rc T 8 ?_
  cases H;refine dz [1,1,1,1,1,1] J cI (p1 T J [2,0] ⟨dp,cS,J,J⟩ J)
 refine rc T 4 ?_;obtain⟨v2,V3,H⟩:=gu H;refine aV (IY (As:=[(cl aW 146 [(ii ag.w),(ii ag.h),(ii ag.most),(pp b3),(pp b6)]),(cl b3 178 [(ii ag.eV.most),(ii ag.eV.next),(.map (some a4)),(ll a5 ag.eV.order n5)]),H4,H5,(cl b6 221 [(ll a7 ag.floor.words n7),(ii ag.floor.count)]),H7]) [1,1,1,1,1,1] J J J J MX J J (I9 (A:=[dp]) (by simp only[cI,vC,vB,vD,sY,uz]) (vO.c V3 cS)) (ro T 4 (cb J H (λH=>?_) (λH=>?_))))
 ·refine rc T 8 ?_
  cases H;refine dz [1,1,1,1,1,1] J cI (p1 T J [2,0] ⟨dp,cS,J,J⟩ J)
 refine rc T 8 (lf T 7 J (ro T 1 ?_));obtain⟨v3,V5,H⟩:=gu H;refine aV (IY (As:=[(cl aW 146 [(ii ag.w),(ii ag.h),(ii ag.most),(pp b3),(pp b6)]),(cl b3 178 [(ii ag.eV.most),(ii ag.eV.next),(.map (some a4)),(ll a5 ag.eV.order n5)]),H4,H5,(cl b6 221 [(ll a7 ag.floor.words n7),(ii ag.floor.count)]),H7]) [1,1,1,1,1,1] J J J J Sr J J (I9 (A:=[dp]) (by simp only[cI,vC,vB,vD,sY,uz]) (zf.c V5 cS)) (ro T 9 (cb J H (λH=>?_) (λH=>?_))))
 ·refine rc T 3 (lm T 7 J (dz [1,1,1,1,1,1] J cI (kr (qc.R aW) [] [2] J MY H (qc.c · cS) (λv4 H=>?_))));rintro _ _ ⟨H9,s9,rfl,rfl⟩;refine fz J (ro T 10 ?_)
  cases H;exact p1 T J [2,0] ⟨H9,s9,J,J⟩ J
 refine rc T 7 (lf T 1 J (ro T 2 (kr (yD.R b3) [] [2,2,2] J abN H (yD.c · s4 s5) (λv5 H=>?_))));rintro _ _ ⟨cz,bZ,de,n11,cE,bT,cW,rfl,rfl⟩;refine fz J (ro T 8 ?_)
 cases H;refine gD [1,4,4,4,1,1] J (p1 T J [2,0] ⟨(List.flatten [(cl aW 146 [(ii ag.w),(ii ag.h),(ii ag.most),(pp b3),(pp b6)]),(cl b3 178 [(ii v5.2.most),(ii v5.2.next),(.map (some cz)),(ll de v5.2.order n11)]),bZ,cE,(cl b6 221 [(ll a7 ag.floor.words n7),(ii ag.floor.count)]),H7]),(show lY (ft.mk ag.w ag.h ag.most v5.2 ag.floor) aW (List.flatten [(cl aW 146 [(ii ag.w),(ii ag.h),(ii ag.most),(pp b3),(pp b6)]),(cl b3 178 [(ii v5.2.most),(ii v5.2.next),(.map (some cz)),(ll de v5.2.order n11)]),bZ,cE,(cl b6 221 [(ll a7 ag.floor.words n7),(ii ag.floor.count)]),H7]) from⟨b3,cz,bZ,de,n11,cE,b6,a7,n7,H7,bT,cW,s7,J⟩),J,J⟩ J)
def FW.f (ai:Int):Option Int:=some 1
theorem FW.c (H:FW.f ai=some r):
 QU 90 [(.pointer none),(ii ai)] [] F (ii r):=by
 unfold FW.f at H;refine aG Tryz.func90 J J (λW=>rc T 12 (nL J (rc T 7 ?_)))
 cases H;exact p0 T J [0] J
def xn.f (ag:ft) (ai:Int):Option (Int×ft):=(qF.f ag.eV ai).bind λv1=>if(!v1.2)=true then(some (12,ag)) else((qc.f ag v1.1).bind λv2=>some (0,v2))
def xn.R (nO:Nat) (r:(Int×ft)):bk:=λu G=> ∃(H0:Hp),lY r.2 nO H0/\u=(ii r.1)/\G=[H0]
theorem xn.c (H:xn.f ag ai=some r) (cS:lY ag aW dp):
 QR 90 [(pp aW),(ii ai)] [dp] [] F (xn.R aW r):=by
 unfold xn.f at H;refine aG Tryz.func90 J J (λW=>rc T 12 (e_ J (rc T 3 ?_)));obtain⟨b3,a4,H4,a5,n5,H5,b6,a7,n7,H7,s4,s5,s7,cI⟩:=(λx=>x) cS;refine bX 0 (congrArg some cI) (fz J (rc T 4 (lf T 1 J (ro T 1 (k [2,2,2] J Cg H (qF.c · s4 s5) (λv1 H=>ro T 3 (nc T J (λb8=>sg T 7 J (ro T 10 (cb J H (λH=>?_) (λH=>?_)))))))))))
 ·refine rc T 7 ?_
  cases H;refine dz [1,1,1,1,1,1] J cI (p1 T J [2,0] ⟨dp,cS,J,J⟩ J)
 refine rc T 5 (lm T 7 J (dz [1,1,1,1,1,1] J cI (kr (qc.R aW) [] [2] J MY H (qc.c · cS) (λv2 H=>?_))));rintro _ _ ⟨H9,s9,rfl,rfl⟩;refine fz J (ro T 8 ?_)
 cases H;exact p1 T J [2,0] ⟨H9,s9,J,J⟩ J
def qa.f (ag:ft):Option (List bB):=(pa.f ag.eV).bind λv1=>some v1
def qa.R (r:(List bB)):bk:=λu G=> ∃a0 n0 H0,ak lT 67 r a0 n0 H0/\u=(ll a0 r n0)/\G=[H0]
theorem qa.c (H:qa.f ag=some r) (cS:lY ag aW dp):
 QR 54 [(pp aW)] [dp] [dp] F (qa.R r):=by
 unfold qa.f at H;refine aG Tryz.func54 J J (λW=>rc T 12 (e_ J (rc T 3 ?_)));obtain⟨b3,a4,H4,a5,n5,H5,b6,a7,n7,H7,s4,s5,s7,cI⟩:=(λx=>x) cS;refine bX 0 (congrArg some cI) (fz J (rc T 4 (lf T 1 J (kr pa.R [2,2,2] [2,2,2] J adC H (pa.c · s4 s5) (λv1 H=>?_)))));rintro _ _ ⟨a8,n8,H8,s8,rfl,rfl⟩;refine fz J (ro T 4 ?_)
 cases H;refine dz [1,4,4,4,1,1] J cI (p1 T J [1,1,0] ⟨a8,n8,H8,s8,J,J⟩ J)
def nQ.l0:Nat->((List bB)×(List fY)×(List Int)×Int)->ft->Int->Option ((List fY)×(List Int)×Int×ft)
 |0,_,_,_=>none
 |k7+1,v2,x5,x6=>if x6<(aa v2.2.1:Int) then(if(0<=x6/\x6<(aa v2.2.1:Int)) then(((qF.f x5.eV ((rd v2.2.1 x6).Id)).bind λv12=>some (v12.1.Id,v12.1.Cell,v12.1.Goal)).bind λ(x8,x9,aK)=>if((rd v2.2.1 x6).To==aK)=true then((qc.f x5 (bB.mk x8 x9 aK)).bind λei=>nQ.l0 k7 v2 ei (af (x6+1))) else((xv.f x5.floor x9 ((rd v2.2.1 x6).To)).bind λdt=>(yG.f x5.eV ((rd v2.2.1 x6).Id) ((rd v2.2.1 x6).To)).bind λdI=>nQ.l0 k7 v2 (ft.mk x5.w x5.h x5.most dI.2 dt.2) (af (x6+1)))) else none) else(some (v2.2.1,v2.2.2.1,0,x5))
def nQ.f (ag:ft) (gW:(List Int)):Option ((List fY)×(List Int)×Int×ft):=(qa.f ag).bind λv1=>(jT.f ag.w ag.h v1 gW).bind λv2=>if(v2.2.2.2 !=0)=true then(some ([],[],v2.2.2.2,ag)) else(nQ.l0 fuel v2 ag 0)
def nQ.R (nO:Nat) (r:((List fY)×(List Int)×Int×ft)):bk:=λu G=> ∃(a0 n0 H0:_) (a1 n1 H1:_) (H2:Hp),ak jE 94 r.1 a0 n0 H0/\ak (Fl.int .i64) 3 r.2.1 a1 n1 H1/\lY r.2.2.2 nO H2/\u=(.tuple #[(ll a0 r.1 n0),(ll a1 r.2.1 n1),(ii r.2.2.1)])/\G=[H0,H1,H2]
theorem nQ.c (H:nQ.f ag gW=some r) (cS:lY ag aW dp) (Ge:aP (Fl.int .i64) gW Lz F) (L3:aa gW<=Oo):
 QR 129 [(pp aW),(ll Lz gW Oo)] [dp] [] F (nQ.R aW r):=by
 unfold nQ.f at H;refine aG Tryz.func129 J J (λW=>rc T 14 (e_ J (rc T 3 ?_)));obtain⟨b3,a4,H4,a5,n5,H5,b6,a7,n7,H7,s4,s5,s7,cI⟩:=(λx=>x) cS;refine bX 0 (congrArg some cI) (fz J (fz J (rg [] [0,0,0,0,0,0,0] mix (bR bQ) (λhg pf=>ha T 17 [0,1,2] sz hg pf J (al T 3 1 sz hg pf J J J (ha T 13 [4,5,6] sz hg pf J (al T 7 1 sz hg pf J J J (ha T 10 [8,10] sz hg pf J (ao 9 ?_)))))))));obtain⟨v1,V1,H⟩:=gu H;refine FF (As:=[(cl aW 146 [(ii ag.w),(ii ag.h),(ii ag.most),(pp b3),(pp b6)]),(cl b3 178 [(ii ag.eV.most),(ii ag.eV.next),(.map (some a4)),(ll a5 ag.eV.order n5)]),H4,H5,(cl b6 221 [(ll a7 ag.floor.words n7),(ii ag.floor.count)]),H7]) (qa.R v1) [(cl aW 146 [(ii ag.w),(ii ag.h),(ii ag.most),(pp b3),(pp b6)]),(cl b3 178 [(ii ag.eV.most),(ii ag.eV.next),(.map (some a4)),(ll a5 ag.eV.order n5)]),H4,H5,(cl b6 221 [(ll a7 ag.floor.words n7),(ii ag.floor.count)]),H7] [1,1,1,1,1,1] J J J J JK J J (I_ (A:=[dp]) (A2:=[dp]) (by simp only[cI,vC,vB,vD,sY,uz]) (by simp only[cI,vC,vB,vD,sY,uz]) (qa.c V1 cS)) ?_
 rintro _ _ ⟨a8,n8,H8,s8,rfl,rfl⟩;refine fz J (an (so [0,1,1,1,1,1,1]) (ao 11 (kR jT.R [] [] J ab3 H (jT.c · (oO s8 1) s8.b_ (rO Ge 0) L3) (λv2 H=>?_))));rintro _ _ ⟨a9,n9,H9,cz,n10,bZ,de,n11,cE,s9,bT,cW,rfl,rfl⟩;refine fz J (an (so [0,1,1,1,1,1,1]) (ha T 0 [12,13,14,15,16,17,18,19] (so [0,1,1,1,1,1,1]) hg pf J (ae (rx T 8 (cb J H (λH=>?_) (λH=>?_))))))
 ·refine rc T 10 ?_
  cases H;refine dz [2,2,2,2,2,2] J cI (bA (bA (p1 T J [6,6,5,0] ⟨none,0,[],none,0,[],dp,ak.nil,ak.nil,cS,J,J⟩ J)))
 refine rc T 11 (dz [2,2,2,2,2,2] J cI (lq [0,4,5,33,34] [0,2,2] (λ(⟨k7,x5,x6,dO⟩:Nat×ft×Int×Hp)=>(nQ.l0 k7 v2 x5 x6=some r/\lY x5 aW dO,[(35,(ii x6))],[dO])) J J (fuel,ag,0,dp) [0,2,2,2] ⟨H,cS⟩ J J ?_));rintro k7 ⟨x5,x6,dO⟩ ⟨Z4,dW⟩;rw[nQ.l0] at Z4;refine rc T 6 (cd J Z4 (λZ4=>?_) (λZ4=>?_))
 ·refine rc T 6 ?_;obtain⟨c6,Z4⟩:=az Z4;obtain⟨q16,o16,FY⟩:=bT.r.addr c6.1 c6.2;refine ix T J FY c6 (bx J (gd T (cs:=[(ii (rd v2.2.1 x6).Id),(ii (rd v2.2.1 x6).To)]) J J J J J J (iu (k:=jE) (oO bT 1) FY c6 J)) (nc T J (λB0=>sg T 4 J (ro T 2 (mq Z4 [0,4,5,8,33,34,35] [0,2,0,0,0] (λlW (⟨x8,x9,aK,qR⟩:Int×Int×Int×Nat)=>((x8,x9,aK)=lW,[(9,(pp qR))],[(cl qR 67 [(ii x8),(ii x9),(ii aK)])])) J J (λlW Z7 _=>?_) ?_)))))
  ·obtain⟨I4,a21,lJ,a22,n22,mr,Zz,a24,n24,rK,j4,iv,mj,F9⟩:=(λx=>x) dW;refine bX 3 (congrArg some F9) (fz J (ks [0,4,5,8,33,34,35] J (fz J (rz [] mix (bR bQ) (λhg pf=>ha T 10 [0,1,2] sz hg pf J (al T 3 4 sz hg pf J J J (ha T 8 [4] sz hg pf J (al T 5 3 sz hg pf J J J (gM 6 10 ?_ ?_)))))))))
   ·refine kh [5,5,5] J Cg Z7 (qF.c · j4 iv) (λv12 Z7=>an sz (ha T 3 [7,8,9] sz hg pf J (ao 10 (nw T J (λlr=>an (so [0,0,0,0,0,0,0,0,0,0]) (ao 11 (sf T 10 J (an (so [0,0,0,0,0,0,0,0,0,0]) (ha T 0 [12] (so [0,0,0,0,0,0,0,0,0,0]) hg pf J (ae (rx T 1 (dz [4,4,4,4,4,4] J F9 (am (_,_,_,_) [0,4,0,0,0,0] (oi Z7) J J)))))))))))))
   refine nw T J (λlv=>an (so [0,0,0,0,0,0,0,0,0,0]) (ao 6 (kh [5,5,5] J Cg Z7 (qF.c · j4 iv) (λjf Z7=>an (so [0,0,0,0,0,0,0,0,0,0]) (ha T 2 [7,8,9] (so [0,0,0,0,0,0,0,0,0,0]) hg pf J (ao 11 (sf T 10 J (an (so [0,0,0,0,0,0,0,0,0,0]) (ha T 0 [12] (so [0,0,0,0,0,0,0,0,0,0]) hg pf J (ae (rx T 1 (dz [4,4,4,4,4,4] J F9 (am (_,_,_,_) [0,4,0,0,0,0] (oi Z7) J J)))))))))))))
  rintro _ ⟨x8,x9,aK,qR⟩ rfl Z4;refine rc T 4 (lf T 4 J (ro T 1 (lf T 5 J (ro T 3 (cb J Z4 (λZ4=>?_) (λZ4=>?_))))))
  ·refine rc T 3 (lm T 5 J (kr (qc.R aW) [] [1] J MY Z4 (qc.c (u:=(bB.mk x8 x9 aK)) · dW) (λei Z4=>?_)));rintro _ _ ⟨Fb,wH,rfl,rfl⟩;refine fz J (ro T 11 (ar (_,_,_) [0,0,0,2] ⟨Z4,wH⟩ J J))
  refine rc T 3 ?_;obtain⟨AB,BQ,rM,a31,n31,BG,xj,a33,n33,Iv,pQ,zT,wI,Jz⟩:=(λx=>x) dW;refine bX 1 (congrArg some Jz) (fz J (fz J (rz [8] mix (bR bQ) (λhg pf=>ha T 6 [0,1,2] sz hg pf J (al T 3 5 sz hg pf J J J (ha T 4 [4] sz hg pf J (al T 5 4 sz hg pf J J J (ha T 2 [6] sz hg pf J (al T 7 3 sz hg pf J J J (ao 8 (kR (xv.R xj) [] [9,9] J ab4 Z4 (xv.c · wI) (λdt Z4=>?_))))))))))));rintro _ _ ⟨Fs,n34,vv,yr,rfl,rfl⟩;refine fz J (an sl (ae (rx T 1 (ke [0,4,5,8,33,34,35] [0,0,0,0,1,1,1,1,1,1] J J (fz J (rz [8] mix (bR bQ) (λhg pf=>ha T 6 [0,1,2] sz hg pf J (al T 3 4 sz hg pf J J J (ha T 4 [4] sz hg pf J (al T 5 3 sz hg pf J J J (ha T 2 [6] sz hg pf J (al T 7 3 sz hg pf J J J (ao 8 (kR (yG.R AB) [] [5,5,5] J ab5 Z4 (yG.c · pQ zT) (λdI Z4=>?_)))))))))))))));rintro _ _ ⟨a35,Iw,Az,n36,Ao,KQ,Dc,rfl,rfl⟩;refine fz J (an sl (ae (rx T 7 (gD [4,6,6,6,4,4] J (ar (_,_,_) [0,0,0,1] ⟨Z4,(show lY (ft.mk x5.w x5.h x5.most dI.2 dt.2) aW (List.flatten [(cl aW 146 [(ii x5.w),(ii x5.h),(ii x5.most),(pp AB),(pp xj)]),(cl AB 178 [(ii dI.2.most),(ii dI.2.next),(.map (some a35)),(ll Az dI.2.order n36)]),Iw,Ao,(cl xj 221 [(ll Fs dt.2.words n34),(ii dt.2.count)]),vv]) from⟨AB,a35,Iw,Az,n36,Ao,xj,Fs,n34,vv,KQ,Dc,yr,J⟩)⟩ J J)))))
 refine rc T 15 ?_
 cases Z4;exact p1 T J [1,1,1,0] ⟨cz,n10,bZ,de,n11,cE,dO,bT,cW,dW,J,J⟩ J
def AL.f:Option (List bB):=some []
def AL.R (r:(List bB)):bk:=λu G=> ∃a0 n0 H0,ak lT 67 r a0 n0 H0/\u=(ll a0 r n0)/\G=[H0]
theorem AL.c (H:AL.f=some r):
 QR 54 [(.pointer none)] [] [] F (AL.R r):=by
 unfold AL.f at H;refine aG Tryz.func54 J J (λW=>rc T 12 (nL J (rc T 7 ?_)))
 cases H;refine bA (p1 T J [1,0] ⟨none,0,[],ak.nil,J,J⟩ J)
end
noncomputable section
def i_.f (g:bw) (cell:Int):Option Int:=(if cell<0 then(some true) else(some (decide (cell≥(aa g.m.C:Int))))).bind λx1=>if x1=true then(some 0) else(if(0<=cell/\cell<(aa g.m.C:Int)) then(some (af (rd g.m.C cell))) else none)
theorem i_.c (H:i_.f g cell=some r) (fO:iH g fk gn):
 QU 141 [(pp fk),(ii cell)] [gn] F (ii r):=by
 unfold i_.f at H;refine aG Tryz.func141 J J (λW=>rc T 6 (mq H [0,1] [1,0] (λz2 (x1:Bool)=>(x1=z2,[(20,(bb x1))],[])) J J (λz2 Z1 _=>?_) ?_))
 ·obtain⟨a3,n3,H3,a4,n4,H4,s3,s4,cI⟩:=(λx=>x) fO;refine bX 0 (congrArg some cI) (fz J (rc T 8 (ad 11 J Z1 (λZ1=>?_) (λZ1=>?_))))
  ·refine ro T 11 (dz [1,1,1] J cI (am _ [0,0] (oi Z1) J J))
  refine ro T 5 (lf T 1 J (ro T 5 (dz [1,1,1] J cI (am _ [0,0] (oi Z1) J J))))
 rintro _ x1 rfl H;refine cb J H (λH=>?_) (λH=>?_)
 ·refine rc T 7 ?_
  cases H;exact p0 T J [1,0] J
 refine rc T 3 ?_;obtain⟨a6,n6,H6,a7,n7,H7,s6,s7,r8⟩:=(λx=>x) fO;refine bX 1 (congrArg some r8) (fz J (rc T 5 (lf T 1 J (ro T 1 ?_))));obtain⟨c4,H⟩:=az H;obtain⟨q8,o8,e8⟩:=s6.r.addr c4.1 c4.2;refine ix T J e8 c4 (le T 0 (oO s6 2) e8 c4 J J (ro T 5 ?_))
 cases H;refine dz [1,1,1] J r8 (p0 T J [1,0] J)
def F7.f:Option Int:=some 0
theorem F7.c (H:F7.f=some r):
 QU 136 [(.pointer none)] [] F (ii r):=by
 unfold F7.f at H;refine aG Tryz.func136 J J (λW=>rc T 12 (nL J (rc T 7 ?_)))
 cases H;exact p0 T J [0] J
def l_.l0:Nat->aF->Int->(List Int)->(Int×Int)->List Int->Int->Option (Option bw)
 |0,_,_,_,_,_,_=>none
 |k8+1,m,bS,v2,v3,x6,x7=>if x7<(aa (ct (ax (af (v3.1*v3.2))) (0:Int)):Int) then(if(0<=x7/\x7<(aa x6:Int)) then(l_.l0 k8 m bS v2 v3 (aD x6 (ax x7) (af (bS+1))) (af (x7+1))) else none) else(some (some (bw.mk (aF.mk m.W m.H v2) (af (bS+1)) x6)))
def l_.f (m:aF) (bS:Int):Option (Option bw):=(yY.f m).bind λv1=>if(((!v1)||(decide (bS<0)))||(decide (bS>4611686018427387904)))=true then(some none) else((oo.f m.C).bind λv2=>(qI.f m.W m.H).bind λv3=>if(0<=(af (v3.1*v3.2))/\(af (v3.1*v3.2))<=1099511627776) then(l_.l0 fuel m bS v2 v3 (ct (ax (af (v3.1*v3.2))) (0:Int)) 0) else none)
def l_.R (r:(Option bw)):bk:=λu G=> ∃(u0:Value) (G0:List Hp),XM r u0 G0/\u=u0/\G=G0
theorem l_.c (H:l_.f m bS=some r) (iM:aP (Fl.int .u8) m.C kJ F) (py:aa m.C<=kt):
 QR 149 [(.agg #[(ii m.W),(ii m.H),(ll kJ m.C kt)]),(ii bS)] [] [] F (l_.R r):=by
 unfold l_.f at H;refine aG Tryz.func149 J J (λW=>rc T 2 (nc T J (λb1=>ro T 6 (lm T 1 J (k [] J Sw H (yY.c · (rO iM 0) py) (λv1 H=>ro T 2 (go T [4,5,6] 12 [1,2] 15 J J J J J J J (ro T 1 (go T [8,9,10] 16 [1,2] 19 J J J J J J J (ro T 2 (cb J H (λH=>?_) (λH=>?_))))))))))))
 ·refine rc T 7 ?_
  cases H;exact p1 T J [0] ⟨_,_,⟨J,J⟩,J,J⟩ J
 refine rc T 5 (lf T 1 J (kr oo.R [] [] J MT H (oo.c · (rO iM 0) py) (λv2 H=>?_)));rintro _ _ ⟨a2,n2,H2,s2,rfl,rfl⟩;refine fz J (ro T 1 (sg T 1 J (ro T 5 (lf T 1 J (ro T 1 (lf T 1 J (k [] J Gl H (qI.c ·) (λv3 H=>ro T 8 (ks [1,2,5,6] J (fz J (rg [] [0,0,0] mix (bR bQ) (λhg pf=>av 0 sz hg pf J (gA T 1 J J J J J J J) (ha T 4 [1,2,3,4,5] sz hg pf J (ao 6 ?_))))))))))))));obtain⟨c5,H⟩:=az H;refine xh (k:=(Fl.int .i64)) T (0:Int) J J J J J J J J c5 J (λa3 n3 H3 s3=>an (so [0,0,0]) (ha T 2 [7] (so [0,0,0]) hg pf J (ao 8 (nw T J (λb4=>an (so [0,0,0]) (ha T 0 [9] (so [0,0,0]) hg pf J (ae (rx T 7 (lf T 4 J (ro T 5 (lq [7,45] [0,1] (λ(⟨k8,x6,x7,a6,n6,H6⟩:Nat×List Int×Int×Option Addr×Nat×Hp)=>(l_.l0 k8 m bS v2 v3 x6 x7=some r/\ak (Fl.int .i64) 2 x6 a6 n6 H6,[(46,(ii x7))],[(cl b4 167 [(ii m.W),(ii m.H),(ll a2 v2 n2),(ii (af (bS+1))),(ll a6 x6 n6)]),H6])) J J (fuel,(ct (ax (af (v3.1*v3.2))) (0:Int)),0,a3,n3,H3) [0,1,2,1] ⟨H,s3⟩ J J ?_)))))))))));rintro k8 ⟨x6,x7,a6,n6,H6⟩ ⟨Z6,s6⟩;rw[l_.l0] at Z6;refine rc T 6 (cd J Z6 (λZ6=>?_) (λZ6=>?_))
 ·refine rc T 10 (fz J (rz [10] mix (bR bQ) (λhg pf=>ha T 8 [0,1,2] sz hg pf J (al T 3 2 sz hg pf J J J (ha T 3 [4,5,6,7] sz hg pf J (al T 8 2 sz hg pf J J J ?_))))));obtain⟨c8,Z6⟩:=az Z6;obtain⟨q7,o7,e7⟩:=s6.r.addr c8.1 c8.2;refine av 9 sz hg pf J (cB T J J J J J e7 c8.1 c8.2) (ao 10 (jN (k:=(Fl.int .i64)) T 3 0 (af (bS+1)) J J J J J J s6 e7 c8 J J J (λH8 s8=>kg [7,8,45,46,49,50,51,53,54,55,56,57,58] [0,0,1] [0,0,1,0] [(52,(ll a6 (aD x6 (ax x7) (af (bS+1))) n6))] [(cl b4 167 [(ii m.W),(ii m.H),(ll a2 v2 n2),(ii (af (bS+1))),(ll a6 (aD x6 (ax x7) (af (bS+1))) n6)])] J J ⟨dw,trivial⟩ dw (an sl (ae (rx T 7 (ar (_,_,_,_,_) [0,0,1,0] ⟨Z6,s8⟩ J J)))))))
 refine rc T 12 ?_
 cases Z6;refine gD [2,1,1] J (p1 T J [1,0] ⟨_,_,⟨b4,(List.flatten [(cl b4 167 [(ii m.W),(ii m.H),(ll a2 v2 n2),(ii (af (bS+1))),(ll a6 x6 n6)]),H2,H6]),(show iH (bw.mk (aF.mk m.W m.H v2) (af (bS+1)) x6) b4 (List.flatten [(cl b4 167 [(ii m.W),(ii m.H),(ll a2 v2 n2),(ii (af (bS+1))),(ll a6 x6 n6)]),H2,H6]) from⟨a2,n2,H2,a6,n6,H6,s2,s6,J⟩),J,J⟩,J,J⟩ J)
def iL.f (g:bw):Option (Int×Int):=some (g.m.W,g.m.H)
theorem iL.c (H:iL.f g=some r) (fO:iH g fk gn):
 QU 171 [(pp fk)] [gn] F (.tuple #[(ii r.1),(ii r.2)]):=by
 unfold iL.f at H;refine aG Tryz.func171 J J (λW=>rc T 13 (e_ J (rc T 3 ?_)));obtain⟨a3,n3,H3,a4,n4,H4,s3,s4,cI⟩:=(λx=>x) fO;refine bX 0 (congrArg some cI) (fz J (dq mix aA ?_))
 iterate 4 refine au T J ?_
 refine cw T 1 J J J ?_
 iterate 4 refine au T J ?_
 refine cw T 1 J J J (au T J (au T J (cM (rx T 2 ?_))))
 cases H;refine dz [1,1,1] J cI (p0 T J [1,0] J)
def pz.f (g:bw):Option Int:=some g.bS
theorem pz.c (H:pz.f g=some r) (fO:iH g fk gn):
 QU 136 [(pp fk)] [gn] F (ii r):=by
 unfold pz.f at H;refine aG Tryz.func136 J J (λW=>rc T 12 (e_ J (rc T 3 ?_)));obtain⟨a3,n3,H3,a4,n4,H4,s3,s4,cI⟩:=(λx=>x) fO;refine bX 0 (congrArg some cI) (fz J (rc T 4 (lf T 1 J (ro T 4 ?_))))
 cases H;refine dz [1,1,1] J cI (p0 T J [1,0] J)
def xw.f (g:bw) (cell:Int) (cost:Int):Option (Int×bw):=(if cell<0 then(some true) else(some (decide (cell≥(aa g.m.C:Int))))).bind λx1=>if x1=true then(some (7,g)) else(if((decide (cost<1))||(decide (cost>255)))=true then(some (8,g)) else(if(0<=cell/\cell<(aa g.m.C:Int)) then((gy.f g.m.W g.m.H cell).bind λv3=>if(0<=v3/\v3<(aa g.p7:Int)) then(some (0,(bw.mk (aF.mk g.m.W g.m.H (aD g.m.C (ax cell) (bN cost))) (af (g.bS+1)) (aD g.p7 (ax v3) (af (g.bS+1)))))) else none) else none))
def xw.R (aah:Nat) (r:(Int×bw)):bk:=λu G=> ∃(H0:Hp),iH r.2 aah H0/\u=(ii r.1)/\G=[H0]
theorem xw.c (H:xw.f g cell cost=some r) (fO:iH g fk gn):
 QR 155 [(pp fk),(ii cell),(ii cost)] [gn] [] F (xw.R fk r):=by
 unfold xw.f at H;refine aG Tryz.func155 J J (λW=>rc T 14 (e_ J (mq H [0,1,2] [1,0] (λz2 (x1:Bool)=>(x1=z2,[(10,(bb x1))],[])) J J (λz2 Z1 _=>?_) ?_)))
 ·obtain⟨a3,n3,H3,a4,n4,H4,s3,s4,cI⟩:=(λx=>x) fO;refine bX 0 (congrArg some cI) (fz J (rc T 4 (ad 13 J Z1 (λZ1=>?_) (λZ1=>?_))))
  ·refine ro T 12 (dz [1,1,1] J cI (am _ [0,0] (oi Z1) J J))
  refine ro T 5 (lf T 1 J (ro T 6 (dz [1,1,1] J cI (am _ [0,0] (oi Z1) J J))))
 rintro _ x1 rfl H;refine cb J H (λH=>?_) (λH=>?_)
 ·refine rc T 8 ?_
  cases H;exact p1 T J [1,0] ⟨gn,fO,J,J⟩ J
 refine rc T 5 (go T [3,4,5] 26 [0,1,2] 29 J J J J J J J (ro T 3 (cb J H (λH=>?_) (λH=>?_))))
 ·refine rc T 8 ?_
  cases H;exact p1 T J [1,0] ⟨gn,fO,J,J⟩ J
 refine rc T 4 ?_;obtain⟨a6,n6,H6,a7,n7,H7,s6,s7,r8⟩:=(λx=>x) fO;refine bX 1 (congrArg some r8) (fz J (rc T 5 (lf T 1 J (ro T 3 ?_))));obtain⟨c5,H⟩:=az H;obtain⟨q8,o8,e8⟩:=s6.r.addr c5.1 c5.2;refine ix T J e8 c5 (aV (jN (k:=(Fl.int .u8)) T 2 0 (bN cost) J J J J J J s6 e8 c5 J J J (λH9 s9=>kg [0,1] [0,1,1] [0,1,1,0] [] [(cl fk 167 [(ii g.m.W),(ii g.m.H),(ll a6 (aD g.m.C (ax cell) (bN cost)) n6),(ii g.bS),(ll a7 g.p7 n7)])] J J trivial dw (ro T 7 (lf T 3 J (ro T 3 (sg T 3 J (ro T 3 (ks [0,1] J (fz J (rz [21] mix (bR bQ) (λhg pf=>ha T 19 [0,1,2] sz hg pf J (al T 3 3 sz hg pf J J J (ha T 14 [4,5,6,7] sz hg pf J (al T 8 3 sz hg pf J J J (ha T 9 [9,10,11,12] sz hg pf J (al T 13 3 sz hg pf J J J (ha T 4 [14,16,17,18] sz hg pf J (al T 19 3 sz hg pf J J J (ao 15 (kh [] J sb H (gy.c ·) (λv3 H=>an sz ?_))))))))))))))))))))));obtain⟨c7,H⟩:=az H;obtain⟨KM,KE,qf⟩:=s7.r.addr c7.1 c7.2;refine av 20 sz hg pf J (cB T J J J J J qf c7.1 c7.2) (ao 21 (jN (k:=(Fl.int .i64)) T 2 0 (af (g.bS+1)) J J J J J J s7 qf c7 J J J (λcE cW=>kg [0,1,46,47,48,50,51,52,53,54,55,56,57,58,59,60,61,62,63,64,65,66] [0,0,0] [0,0,0,0] [(49,(ll a7 (aD g.p7 (ax v3) (af (g.bS+1))) n7))] [(cl fk 167 [(ii g.m.W),(ii g.m.H),(ll a6 (aD g.m.C (ax cell) (bN cost)) n6),(ii (af (g.bS+1))),(ll a7 (aD g.p7 (ax v3) (af (g.bS+1))) n7)])] J J ⟨dw,trivial⟩ dw (an sl (ae (rx T 7 ?_))))))
 cases H;refine gD [3,1,1] J (p1 T J [1,0] ⟨(List.flatten [(cl fk 167 [(ii g.m.W),(ii g.m.H),(ll a6 (aD g.m.C (ax cell) (bN cost)) n6),(ii (af (g.bS+1))),(ll a7 (aD g.p7 (ax v3) (af (g.bS+1))) n7)]),H9,cE]),(show iH (bw.mk (aF.mk g.m.W g.m.H (aD g.m.C (ax cell) (bN cost))) (af (g.bS+1)) (aD g.p7 (ax v3) (af (g.bS+1)))) fk (List.flatten [(cl fk 167 [(ii g.m.W),(ii g.m.H),(ll a6 (aD g.m.C (ax cell) (bN cost)) n6),(ii (af (g.bS+1))),(ll a7 (aD g.p7 (ax v3) (af (g.bS+1))) n7)]),H9,cE]) from⟨a6,n6,H9,a7,n7,cE,s9,cW,J⟩),J,J⟩ J)
def l9.l0:Nat->bw->Int->(Int×Int)->(Int×Int)->List Int->Int->Option (aF×Bool)
 |0,_,_,_,_,_,_=>none
 |k7+1,g,bG,v1,v2,x5,x6=>if x6<v2.2 then((ur.f v1.1 v1.2 bG (af (x6*v2.1))).bind λv8=>if(0<=v8/\v8<=(af (v8+v2.1))/\(af (v8+v2.1))<=(aa g.m.C:Int)) then(if(aa x5+aa (aB g.m.C v8 (af (v8+v2.1)))<=1099511627776) then(l9.l0 k7 g bG v1 v2 (x5++(aB g.m.C v8 (af (v8+v2.1)))) (af (x6+1))) else none) else none) else(some ((aF.mk v2.1 v2.2 x5),true))
def l9.f (g:bw) (bG:Int):Option (aF×Bool):=(iL.f g).bind λv1=>(rF.f v1.1 v1.2 bG).bind λv2=>if(v2.1==0)=true then(some ((aF.mk 0 0 []),false)) else(l9.l0 fuel g bG v1 v2 [] 0)
def l9.R (r:(aF×Bool)):bk:=λu G=> ∃a0 n0 H0,ak (Fl.int .u8) 5 r.1.C a0 n0 H0/\u=(.tuple #[(.agg #[(ii r.1.W),(ii r.1.H),(ll a0 r.1.C n0)]),(bb r.2)])/\G=[H0]
theorem l9.c (H:l9.f g bG=some r) (fO:iH g fk gn):
 QR 140 [(pp fk),(ii bG)] [gn] [gn] F (l9.R r):=by
 unfold l9.f at H;refine aG Tryz.func140 J J (λW=>rc T 2 (nc T J (λb2=>ro T 6 (k [0] J uR H (iL.c · fO) (λv1 H=>ro T 12 (k [] J Gi H (rF.c ·) (λv2 H=>ro T 14 (cb J H (λH=>?_) (λH=>?_)))))))))
 ·refine rc T 3 (sg T 2 J (ro T 5 ?_))
  cases H;refine bA (pb T J (.cT (j:=2) [(ii 0),(ii 0),nl] J J J J J J J (.tmp J .nil)) [3,0,0] ⟨(_,_),none,0,[],ak.nil,J,J⟩ J J)
 refine rc T 7 (nc T J (λb4=>sg T 3 J (ro T 10 (bA (lq [0,1,4,6,7,8,10,31] [1,0,0] (λ(⟨k7,x5,x6,a6,n6,H6⟩:Nat×List Int×Int×Option Addr×Nat×Hp)=>(l9.l0 k7 g bG v1 v2 x5 x6=some r/\ak (Fl.int .u8) 5 x5 a6 n6 H6,[(32,(ii x6))],[(cl b4 139 [(ii v2.1),(ii v2.2),(ll a6 x5 n6)]),H6])) J J (fuel,[],0,none,0,[]) [1,0,0,0,0] ⟨H,ak.nil⟩ J J ?_)))));rintro k7 ⟨x5,x6,a6,n6,H6⟩ ⟨Z4,s6⟩;rw[l9.l0] at Z4;refine rc T 6 (cd J Z4 (λZ4=>?_) (λZ4=>?_))
 ·refine rc T 18 (k [] J JD Z4 (ur.c ·) (λv8 Z4=>ro T 3 ?_));obtain⟨a8,n8,H8,a9,n9,H9,s8,s9,r_⟩:=(λx=>x) fO;refine bX 1 (congrArg some r_) (fz J (fz J (rz [12,14] mix (bR bQ) (λhg pf=>ha T 14 [0] sz hg pf J (al T 1 2 sz hg pf J J J (ha T 9 [2,3,4,5] sz hg pf J (al T 6 4 sz hg pf J J J (ha T 4 [7,8,9,10] sz hg pf J ?_))))))));obtain⟨c7,Z4⟩:=az Z4;refine av 11 sz hg pf J (kP T J J J J J J c7 s8.b_) (ao 12 ?_);obtain⟨c8,Z4⟩:=az Z4;refine eF (k:=(Fl.int .u8)) (xs:=x5) T (g:=3) J J J J J J J J J J s6 (nq (oO s8 5) c7 s8.b_) c8 J (λcz n10 bZ bT=>an sl (hb T 13 sl hg pf J (ao 14 (sf T 2 J (an sl (ae (rx T 7 (dz [4,4,4] J r_ (ar (_,_,_,_,_) [0,3,0,0,0] ⟨Z4,bT⟩ J J)))))))))
 refine rc T 7 (lm T 3 J (sg T 2 J (ro T 4 ?_)))
 cases Z4;exact pb T J (.cT (j:=2) [(ii v2.1),(ii v2.2),(ll a6 x5 n6)] J J J J J J J (.tmp J .nil)) [4,1,0] ⟨(_,_),a6,n6,H6,s6,J,J⟩ J J
def qj.f (g:bw) (bG:Int):Option Int:=(if bG<0 then(some true) else(some (decide (bG≥(aa g.p7:Int))))).bind λx1=>if x1=true then(some 0) else(if(0<=bG/\bG<(aa g.p7:Int)) then(some (rd g.p7 bG)) else none)
theorem qj.c (H:qj.f g bG=some r) (fO:iH g fk gn):
 QU 137 [(pp fk),(ii bG)] [gn] F (ii r):=by
 unfold qj.f at H;refine aG Tryz.func137 J J (λW=>rc T 6 (mq H [0,1] [1,0] (λz2 (x1:Bool)=>(x1=z2,[(19,(bb x1))],[])) J J (λz2 Z1 _=>?_) ?_))
 ·obtain⟨a3,n3,H3,a4,n4,H4,s3,s4,cI⟩:=(λx=>x) fO;refine bX 0 (congrArg some cI) (fz J (rc T 8 (ad 11 J Z1 (λZ1=>?_) (λZ1=>?_))))
  ·refine ro T 10 (dz [1,1,1] J cI (am _ [0,0] (oi Z1) J J))
  refine ro T 4 (lf T 1 J (ro T 5 (dz [1,1,1] J cI (am _ [0,0] (oi Z1) J J))))
 rintro _ x1 rfl H;refine cb J H (λH=>?_) (λH=>?_)
 ·refine rc T 7 ?_
  cases H;exact p0 T J [1,0] J
 refine rc T 3 ?_;obtain⟨a6,n6,H6,a7,n7,H7,s6,s7,r8⟩:=(λx=>x) fO;refine bX 1 (congrArg some r8) (fz J (rc T 4 (lf T 1 J (ro T 1 ?_))));obtain⟨c4,H⟩:=az H;obtain⟨q8,o8,e8⟩:=s7.r.addr c4.1 c4.2;refine ix T J e8 c4 (le T 0 (oO s7 3) e8 c4 J J (ro T 4 ?_))
 cases H;refine dz [1,1,1] J r8 (p0 T J [1,0] J)
def AP.f:Option aF:=some (aF.mk 0 0 [])
def AP.R (r:aF):bk:=λu G=> ∃a0 n0 H0,ak (Fl.int .u8) 5 r.C a0 n0 H0/\u=(.agg #[(ii r.W),(ii r.H),(ll a0 r.C n0)])/\G=[H0]
theorem AP.c (H:AP.f=some r):
 QR 74 [(.pointer none)] [] [] F (AP.R r):=by
 unfold AP.f at H;refine aG Tryz.func74 J J (λW=>rc T 2 (nc T J (λb1=>ro T 9 (nL J (rc T 3 (sg T 1 J (ro T 4 ?_)))))))
 cases H;refine bA (pb T J (.cT (j:=1) [(ii 0),(ii 0),nl] J J J J J J J .nil) [2,0] ⟨(_,_),none,0,[],ak.nil,J,J⟩ J J)
def xx.f (g:bw):Option aF:=(oo.f g.m.C).bind λv1=>some (aF.mk g.m.W g.m.H v1)
def xx.R (r:aF):bk:=λu G=> ∃a0 n0 H0,ak (Fl.int .u8) 5 r.C a0 n0 H0/\u=(.agg #[(ii r.W),(ii r.H),(ll a0 r.C n0)])/\G=[H0]
theorem xx.c (H:xx.f g=some r) (fO:iH g fk gn):
 QR 74 [(pp fk)] [gn] [gn] F (xx.R r):=by
 unfold xx.f at H;refine aG Tryz.func74 J J (λW=>rc T 2 (nc T J (λb2=>ro T 9 (e_ J (rc T 3 ?_)))));obtain⟨a4,n4,H4,a5,n5,H5,s4,s5,dA⟩:=(λx=>x) fO;refine bX 0 (congrArg some dA) (fz J (ks [0,2] J (fz J (rg [17] [0,0,0,0,0] mix (bR bQ) (λhg pf=>ha T 14 [0,1,2,3] sz hg pf J (al T 4 2 sz hg pf J J J (ha T 9 [5,6,7,8] sz hg pf J (al T 9 2 sz hg pf J J J (ha T 4 [10,11,12,13] sz hg pf J (al T 14 2 sz hg pf J J J (ao 15 (kR oo.R [] [] J MT H (oo.c · (oO s4 3) s4.b_) (λv1 H=>?_)))))))))))));rintro _ _ ⟨a6,n6,H6,s6,rfl,rfl⟩;refine fz J (an (so [0,0,0,0,0]) (ha T 1 [16] (so [0,0,0,0,0]) hg pf J (ao 17 (sf T 1 J (an sl (ae (rx T 1 (rc T 1 ?_))))))))
 cases H;refine dz [2,2,2] J dA (pb T J (.cT (j:=1) [(ii g.m.W),(ii g.m.H),(ll a6 v1 n6)] J J J J J J J .nil) [2,2,0] ⟨(_,_),a6,n6,H6,s6,J,J⟩ J J)
end
noncomputable section
def zd.f:Option (List Int):=some [0,1,2,3]
theorem zd.c (H:zd.f=some r):
 QU 205 [] [] F (.agg #[(ii (rd r 0)),(ii (rd r 1)),(ii (rd r 2)),(ii (rd r 3))]):=by
 unfold zd.f at H;refine aG Tryz.func205 J J (λW=>rc T 2 (nc T J (λb1=>ro T 4 (bx J (Jl T J J J J J J) (sg T 1 J (ro T 3 ?_))))))
 cases H;exact pb T J (.cT (j:=1) [(ii 0),(ii 1),(ii 2),(ii 3)] J J J J J J J .nil) [0] () J J
def fp.l3:Nat->Int->Int->List Int->Int->Option (List Int)
 |0,_,_,_,_=>none
 |Kk+1,tw,th,dm,du=>if du<th then(if(aa dm+1<=1099511627776) then(fp.l3 Kk tw th (dm++[(af (0+(af (du*tw))))]) (af (du+1))) else none) else(some dm)
def fp.l2:Nat->Int->Int->List Int->Int->Option (List Int)
 |0,_,_,_,_=>none
 |lS+1,tw,th,aO,a_=>if a_<th then(if(aa aO+1<=1099511627776) then(fp.l2 lS tw th (aO++[(af ((af (tw-1))+(af (a_*tw))))]) (af (a_+1))) else none) else(some aO)
def fp.l1:Nat->Int->List Int->Int->Option (List Int)
 |0,_,_,_=>none
 |xO+1,tw,x8,x9=>if x9<tw then(if(aa x8+1<=1099511627776) then(fp.l1 xO tw (x8++[(af (0+x9))]) (af (x9+1))) else none) else(some x8)
def fp.l0:Nat->Int->Int->List Int->Int->Option (List Int)
 |0,_,_,_,_=>none
 |k5+1,tw,th,x3,x4=>if x4<tw then(if(aa x3+1<=1099511627776) then(fp.l0 k5 tw th (x3++[(af ((af ((af (th-1))*tw))+x4))]) (af (x4+1))) else none) else(some x3)
def fp.f (tw:Int) (th:Int) (side:Int):Option (List Int):=if(side==2)=true then(fp.l0 fuel tw th [] 0) else(if(side==0)=true then(fp.l1 fuel tw [] 0) else(if(side==1)=true then(fp.l2 fuel tw th [] 0) else(if(side==3)=true then(fp.l3 fuel tw th [] 0) else(some []))))
def fp.R (r:(List Int)):bk:=λu G=> ∃a0 n0 H0,ak (Fl.int .i64) 3 r a0 n0 H0/\u=(ll a0 r n0)/\G=[H0]
theorem fp.c (H:fp.f tw th side=some r):
 QR 233 [(ii tw),(ii th),(ii side)] [] [] F (fp.R r):=by
 unfold fp.f at H;refine aG Tryz.func233 J J (λW=>rc T 38 (cb J H (λH=>?_) (λH=>?_)))
 ·refine rc T 22 (bA (lq [8,24] [0] (λ(⟨k5,x3,x4,a2,n2,H2⟩:Nat×List Int×Int×Option Addr×Nat×Hp)=>(fp.l0 k5 tw th x3 x4=some r/\ak (Fl.int .i64) 3 x3 a2 n2 H2,[(7,(ll a2 x3 n2)),(25,(ii x4))],[H2])) J J (fuel,[],0,none,0,[]) [0,0] ⟨H,ak.nil⟩ J J ?_));rintro k5 ⟨x3,x4,a2,n2,H2⟩ ⟨Z2,s2⟩;rw[fp.l0] at Z2;refine rc T 6 (cd J Z2 (λZ2=>?_) (λZ2=>?_))
  ·refine rc T 15 (aV (c_ (k:=(Fl.int .i64)) T [(af ((af ((af (th-1))*tw))+x4))] J J J J J J J J J (λa3 H3 s3=>?_)));obtain⟨c4,Z2⟩:=az Z2;refine aV (eF (k:=(Fl.int .i64)) (xs:=x3) T (g:=1) J J J J J J J J J J s2 (oO s3 2) c4 J (λa4 n4 H4 s4=>ro T 9 (ar (_,_,_,_,_) [0,0] ⟨Z2,s4⟩ J J)))
  refine rc T 19 ?_
  cases Z2;exact p1 T J [1,0] ⟨a2,n2,H2,s2,J,J⟩ J
 refine rc T 9 (cb J H (λH=>?_) (λH=>?_))
 ·refine rc T 15 (bA (lq [8,24] [0] (λ(⟨xO,x8,x9,a6,n6,H6⟩:Nat×List Int×Int×Option Addr×Nat×Hp)=>(fp.l1 xO tw x8 x9=some r/\ak (Fl.int .i64) 3 x8 a6 n6 H6,[(7,(ll a6 x8 n6)),(25,(ii x9))],[H6])) J J (fuel,[],0,none,0,[]) [0,0] ⟨H,ak.nil⟩ J J ?_));rintro xO ⟨x8,x9,a6,n6,H6⟩ ⟨Z6,s6⟩;rw[fp.l1] at Z6;refine rc T 6 (cd J Z6 (λZ6=>?_) (λZ6=>?_))
  ·refine rc T 15 (aV (c_ (k:=(Fl.int .i64)) T [(af (0+x9))] J J J J J J J J J (λa7 H7 s7=>?_)));obtain⟨c8,Z6⟩:=az Z6;refine aV (eF (k:=(Fl.int .i64)) (xs:=x8) T (g:=1) J J J J J J J J J J s6 (oO s7 2) c8 J (λa8 n8 H8 s8=>ro T 9 (ar (_,_,_,_,_) [0,0] ⟨Z6,s8⟩ J J)))
  refine rc T 19 ?_
  cases Z6;exact p1 T J [1,0] ⟨a6,n6,H6,s6,J,J⟩ J
 refine rc T 9 (cb J H (λH=>?_) (λH=>?_))
 ·refine rc T 24 (bA (lq [0,8,37] [0] (λ(⟨lS,aO,a_,cz,n10,bZ⟩:Nat×List Int×Int×Option Addr×Nat×Hp)=>(fp.l2 lS tw th aO a_=some r/\ak (Fl.int .i64) 3 aO cz n10 bZ,[(7,(ll cz aO n10)),(38,(ii a_))],[bZ])) J J (fuel,[],0,none,0,[]) [0,0] ⟨H,ak.nil⟩ J J ?_));rintro lS ⟨aO,a_,cz,n10,bZ⟩ ⟨iV,bT⟩;rw[fp.l2] at iV;refine rc T 6 (cd J iV (λiV=>?_) (λiV=>?_))
  ·refine rc T 17 (aV (c_ (k:=(Fl.int .i64)) T [(af ((af (tw-1))+(af (a_*tw))))] J J J J J J J J J (λde cE cW=>?_)));obtain⟨gv,iV⟩:=az iV;refine aV (eF (k:=(Fl.int .i64)) (xs:=aO) T (g:=1) J J J J J J J J J J bT (oO cW 2) gv J (λa12 n12 dH dN=>ro T 9 (ar (_,_,_,_,_) [0,0] ⟨iV,dN⟩ J J)))
  refine rc T 15 ?_
  cases iV;exact p1 T J [1,0] ⟨cz,n10,bZ,bT,J,J⟩ J
 refine rc T 8 (cb J H (λH=>?_) (λH=>?_))
 ·refine rc T 18 (bA (lq [0,8,37] [0] (λ(⟨Kk,dm,du,gU,n14,fm⟩:Nat×List Int×Int×Option Addr×Nat×Hp)=>(fp.l3 Kk tw th dm du=some r/\ak (Fl.int .i64) 3 dm gU n14 fm,[(7,(ll gU dm n14)),(38,(ii du))],[fm])) J J (fuel,[],0,none,0,[]) [0,0] ⟨H,ak.nil⟩ J J ?_));rintro Kk ⟨dm,du,gU,n14,fm⟩ ⟨bD,gi⟩;rw[fp.l3] at bD;refine rc T 6 (cd J bD (λbD=>?_) (λbD=>?_))
  ·refine rc T 17 (aV (c_ (k:=(Fl.int .i64)) T [(af (0+(af (du*tw))))] J J J J J J J J J (λkc dO dW=>?_)));obtain⟨mC,bD⟩:=az bD;refine aV (eF (k:=(Fl.int .i64)) (xs:=dm) T (g:=1) J J J J J J J J J J gi (oO dW 2) mC J (λik n16 fx eK=>ro T 9 (ar (_,_,_,_,_) [0,0] ⟨bD,eK⟩ J J)))
  refine rc T 15 ?_
  cases bD;exact p1 T J [1,0] ⟨gU,n14,fm,gi,J,J⟩ J
 refine rc T 20 ?_
 cases H;refine bA (p1 T J [1,0] ⟨none,0,[],ak.nil,J,J⟩ J)
def zb.f (w:Int) (h:Int) (cell:Int) (side:Int):Option Int:=(mY.f w h cell side).bind λv1=>(if v1<0 then(some true) else((gy.f w h v1).bind λv4=>(gy.f w h cell).bind λv5=>some (v4==v5))).bind λx2=>if x2=true then(some (-1)) else(some v1)
theorem zb.c (H:zb.f w h cell side=some r):
 QU 206 [(ii w),(ii h),(ii cell),(ii side)] [] F (ii r):=by
 unfold zb.f at H;refine aG Tryz.func206 J J (λW=>rc T 11 (k [] J AR H (mY.c ·) (λv1 H=>ro T 4 (mq H [9] [0] (λz3 (x2:Bool)=>(x2=z3,[(27,(bb x2))],[])) J J (λz3 Z2 _=>?_) ?_))))
 ·refine rc T 4 (ad 17 J Z2 (λZ2=>?_) (λZ2=>?_))
  ·refine ro T 12 (am _ [0] (oi Z2) J J)
  refine ro T 3 (k [] J sb Z2 (gy.c ·) (λv4 Z2=>ro T 3 (k [] J sb Z2 (gy.c ·) (λv5 Z2=>ro T 4 (am _ [0] (oi Z2) J J)))))
 rintro _ x2 rfl H;refine cb J H (λH=>?_) (λH=>?_)
 ·refine rc T 7 ?_
  cases H;exact p0 T J [0] J
 refine rc T 9 ?_
 cases H;exact p0 T J [0] J
def gO.l2:Nat->Int->Int->Int->List Bool->List Int->Int->Option (List Int)
 |0,_,_,_,_,_,_=>none
 |pG+1,w,h,bG,x5,bV,dG=>if dG<(aa x5:Int) then(if(0<=dG/\dG<(aa x5:Int)) then(if(rd x5 dG)=true then((ur.f w h bG dG).bind λv25=>if(aa bV+1<=1099511627776) then(gO.l2 pG w h bG x5 (bV++[v25]) (af (dG+1))) else none) else(gO.l2 pG w h bG x5 bV (af (dG+1)))) else none) else(some bV)
def gO.l1:Nat->(List Int)->List Bool->Int->Option (List Bool)
 |0,_,_,_=>none
 |Kj+1,v10,dh,dm=>if dm<(aa v10:Int) then(if(0<=dm/\dm<(aa v10:Int)) then(if(0<=(rd v10 dm)/\(rd v10 dm)<(aa dh:Int)) then(gO.l1 Kj v10 (aD dh (ax (rd v10 dm)) true) (af (dm+1))) else none) else none) else(some dh)
def gO.l0:Nat->Int->Int->Int->(Int×Int)->(List Int)->List Bool->Int->Option (List Int)
 |0,_,_,_,_,_,_,_=>none
 |k7+1,w,h,bG,v1,v2,x5,x6=>if x6<4 then((if(0<=x6/\x6<(aa [(rd v2 0),(rd v2 1),(rd v2 2),(rd v2 3)]:Int)) then((fp.f v1.1 v1.2 (rd [(rd v2 0),(rd v2 1),(rd v2 2),(rd v2 3)] x6)).bind λv10=>(if((aa v10:Int)==0)=true then(some true) else(if(0<=(0:Int)/\(0:Int)<(aa v10:Int)) then((ur.f w h bG (rd v10 0)).bind λjf=>(zb.f w h jf (rd [(rd v2 0),(rd v2 1),(rd v2 2),(rd v2 3)] x6)).bind λei=>some (decide (ei<0))) else none)).bind λbf=>if bf=true then(some x5) else(gO.l1 fuel v10 x5 0)) else none).bind λx8=>gO.l0 k7 w h bG v1 v2 x8 (af (x6+1))) else(gO.l2 fuel w h bG x5 [] 0)
def gO.f (w:Int) (h:Int) (bG:Int):Option (List Int):=(rF.f w h bG).bind λv1=>if(0<=(af (v1.1*v1.2))/\(af (v1.1*v1.2))<=1099511627776) then((zd.f).bind λv2=>gO.l0 fuel w h bG v1 v2 (ct (ax (af (v1.1*v1.2))) false) 0) else none
def gO.R (r:(List Int)):bk:=λu G=> ∃a0 n0 H0,ak (Fl.int .i64) 3 r a0 n0 H0/\u=(ll a0 r n0)/\G=[H0]
theorem gO.c (H:gO.f w h bG=some r):
 QR 203 [(ii w),(ii h),(ii bG)] [] [] F (gO.R r):=by
 unfold gO.f at H;refine aG Tryz.func203 J J (λW=>rc T 10 (k [] J Gi H (rF.c ·) (λv1 H=>ro T 12 ?_)));obtain⟨c2,H⟩:=az H;refine aV (xh (k:=Fl.bool) T false J J J J J J J J c2 J (λa1 n1 H1 s1=>ro T 6 (k [] J SP H (zd.c ·) (λv2 H=>ro T 4 (lq [0,1,2,7,8,29] [0] (λ(⟨k7,x5,x6,a3,n3,H3⟩:Nat×List Bool×Int×Option Addr×Nat×Hp)=>(gO.l0 k7 w h bG v1 v2 x5 x6=some r/\ak Fl.bool 4 x5 a3 n3 H3,[(9,(ll a3 x5 n3)),(30,(ii x6))],[H3])) J J (fuel,(ct (ax (af (v1.1*v1.2))) false),0,a1,n1,H1) [0,0] ⟨H,s1⟩ J J ?_)))));rintro k7 ⟨x5,x6,a3,n3,H3⟩ ⟨Z4,s3⟩;rw[gO.l0] at Z4;refine rc T 6 (cd J Z4 (λZ4=>?_) (λZ4=>?_))
 ·refine rc T 2 (mq Z4 [0,1,2,7,8,29,30] [0] (λz9 (⟨x8,a4,n4,H4⟩:List Bool×Option Addr×Nat×Hp)=>(x8=z9/\ak Fl.bool 4 x8 a4 n4 H4,[(9,(ll a4 x8 n4))],[H4])) J J (λz9 Z6 _=>?_) ?_)
  ·refine rc T 3 ?_;obtain⟨c7,Z6⟩:=az Z6;refine bx J (RP T (Fl.int .i64) [(rd v2 0),(rd v2 1),(rd v2 2),(rd v2 3)] J J J J J J J J J c7 J) (ro T 8 (kr fp.R [] [] J acJ Z6 (fp.c ·) (λv10 Z6=>?_)));rintro _ _ ⟨a5,n5,H5,s5,rfl,rfl⟩;refine fz J (ro T 4 (mq Z6 [0,1,2,7,8,9,12,29,30] [0,0,0] (λz12 (bf:Bool)=>(bf=z12,[(53,(bb bf))],[])) J J (λz12 Z9 _=>?_) ?_))
   ·refine rc T 5 (ab 40 J Z9 (λZ9=>?_) (λZ9=>?_))
    ·refine ro T 15 (am _ [0,0,0] (oi Z9) J J)
    refine ro T 6 ?_;obtain⟨di,Z9⟩:=az Z9;obtain⟨q6,o6,e6⟩:=s5.r.addr di.1 di.2;refine ix T J e6 di (le T 0 (oO s5 2) e6 di J J (k [] J JD Z9 (ur.c ·) (λjf Z9=>ro T 1 (k [] J SQ Z9 (zb.c ·) (λei Z9=>ro T 4 (am _ [0,0,0] (oi Z9) J J))))))
   rintro _ bf rfl Z6;refine cb J Z6 (λZ6=>?_) (λZ6=>?_)
   ·refine rc T 4 (am (_,_,_,_) [0,0] ⟨oi Z6,s3⟩ J J)
   refine rc T 10 (lq [0,1,2,7,8,29,30,54,55] [0,1] (λ(⟨Kj,dh,dm,a8,n8,H8⟩:Nat×List Bool×Int×Option Addr×Nat×Hp)=>(gO.l1 Kj v10 dh dm=some z9/\ak Fl.bool 4 dh a8 n8 H8,[(9,(ll a8 dh n8)),(56,(ii dm))],[H8])) J J (fuel,x5,0,a3,n3,H3) [0,1,0] ⟨Z6,s3⟩ J J ?_);rintro Kj ⟨dh,dm,a8,n8,H8⟩ ⟨dx,s8⟩;rw[gO.l1] at dx;refine rc T 6 (cd J dx (λdx=>?_) (λdx=>?_))
   ·refine rc T 6 ?_;obtain⟨lO,dx⟩:=az dx;obtain⟨q9,o9,e9⟩:=s5.r.addr lO.1 lO.2;refine ix T J e9 lO (le T 0 (oO s5 1) e9 lO J J (ro T 6 ?_));obtain⟨lP,dx⟩:=az dx;obtain⟨KM,KE,qf⟩:=s8.r.addr lP.1 lP.2;refine ix T J qf lP (aV (jN (k:=Fl.bool) T 2 0 true J J J J J J s8 qf lP J J J (λcE cW=>kf [0,1,2,7,8,29,30,54,55,56] [0,0,0] [(9,(ll a8 (aD dh (ax (rd v10 dm)) true) n8))] J J ⟨dw,trivial⟩ (ro T 8 (ar (_,_,_,_,_) [0,0,0] ⟨dx,cW⟩ J J)))))
   refine rc T 6 (am (_,_,_,_) [0,1] ⟨oi dx,s8⟩ J J)
  rintro _ ⟨x8,a4,n4,H4⟩ ⟨rfl,s4⟩ Z4;refine rc T 5 (ar (_,_,_,_,_) [0,0] ⟨Z4,s4⟩ J J)
 refine rc T 19 (bA (lq [0,1,2,65,66] [0,0] (λ(⟨pG,bV,dG,dy,n13,dT⟩:Nat×List Int×Int×Option Addr×Nat×Hp)=>(gO.l2 pG w h bG x5 bV dG=some r/\ak (Fl.int .i64) 3 bV dy n13 dT,[(15,(ll dy bV n13)),(67,(ii dG))],[dT])) J J (fuel,[],0,none,0,[]) [0,0,0] ⟨Z4,ak.nil⟩ J J ?_));rintro pG ⟨bV,dG,dy,n13,dT⟩ ⟨fc,dg⟩;rw[gO.l2] at fc;refine rc T 6 (cd J fc (λfc=>?_) (λfc=>?_))
 ·refine rc T 7 ?_;obtain⟨pw,fc⟩:=az fc;obtain⟨q14,o14,B8⟩:=s3.r.addr pw.1 pw.2;refine ix T J B8 pw (le T 0 (oO s3 1) B8 pw J J (ro T 9 (cb J fc (λfc=>?_) (λfc=>?_))))
  ·refine rc T 6 (k [] J JD fc (ur.c ·) (λv25 fc=>aV (c_ (k:=(Fl.int .i64)) T [v25] J J J J J J J J J (λkc dO dW=>?_))));obtain⟨uI,fc⟩:=az fc;refine aV (eF (k:=(Fl.int .i64)) (xs:=bV) T (g:=2) J J J J J J J J J J dg (oO dW 3) uI J (λik n16 fx eK=>ro T 9 (ar (_,_,_,_,_) [0,0,0] ⟨fc,eK⟩ J J)))
  refine rc T 8 (ar (_,_,_,_,_) [0,0,0] ⟨fc,dg⟩ J J)
 refine rc T 12 ?_
 cases fc;exact p1 T J [2,0] ⟨dy,n13,dT,dg,J,J⟩ J
def uH.f (g:bw) (cell:Int):Option Bool:=(i_.f g cell).bind λv1=>some ((decide (v1>0))&&(decide (v1<255)))
theorem uH.c (H:uH.f g cell=some r) (fO:iH g fk gn):
 QU 204 [(pp fk),(ii cell)] [gn] F (bb r):=by
 unfold uH.f at H;refine aG Tryz.func204 J J (λW=>rc T 9 (k [0] J vX H (i_.c · fO) (λv1 H=>ro T 8 (ga T [3,4,5] 11 [] 14 J J J J J J J (ro T 4 ?_)))))
 cases H;exact p0 T J [0,0] J
def kj.l0:Nat->bw->(List Int)->List Int->Int->Option (List Int)
 |0,_,_,_,_=>none
 |k7+1,g,v2,x5,x6=>if x6<(aa v2:Int) then(if(0<=x6/\x6<(aa v2:Int)) then((uH.f g (rd v2 x6)).bind λv8=>if v8=true then(if(aa x5+1<=1099511627776) then(kj.l0 k7 g v2 (x5++[(rd v2 x6)]) (af (x6+1))) else none) else(kj.l0 k7 g v2 x5 (af (x6+1)))) else none) else(some x5)
def kj.f (g:bw) (bG:Int):Option (List Int):=(iL.f g).bind λv1=>(gO.f v1.1 v1.2 bG).bind λv2=>kj.l0 fuel g v2 [] 0
def kj.R (r:(List Int)):bk:=λu G=> ∃a0 n0 H0,ak (Fl.int .i64) 3 r a0 n0 H0/\u=(ll a0 r n0)/\G=[H0]
theorem kj.c (H:kj.f g bG=some r) (fO:iH g fk gn):
 QR 175 [(pp fk),(ii bG)] [gn] [gn] F (kj.R r):=by
 unfold kj.f at H;refine aG Tryz.func175 J J (λW=>rc T 8 (k [0] J uR H (iL.c · fO) (λv1 H=>ro T 18 (kr gO.R [] [] J acq H (gO.c ·) (λv2 H=>?_)))));rintro _ _ ⟨a2,n2,H2,s2,rfl,rfl⟩;refine fz J (ro T 5 (bA (lq [0,18,19] [1,0,0] (λ(⟨k7,x5,x6,a4,n4,H4⟩:Nat×List Int×Int×Option Addr×Nat×Hp)=>(kj.l0 k7 g v2 x5 x6=some r/\ak (Fl.int .i64) 3 x5 a4 n4 H4,[(7,(ll a4 x5 n4)),(20,(ii x6))],[H4])) J J (fuel,[],0,none,0,[]) [1,0,0,0] ⟨H,ak.nil⟩ J J ?_)));rintro k7 ⟨x5,x6,a4,n4,H4⟩ ⟨Z3,s4⟩;rw[kj.l0] at Z3;refine rc T 6 (cd J Z3 (λZ3=>?_) (λZ3=>?_))
 ·refine rc T 6 ?_;obtain⟨c5,Z3⟩:=az Z3;obtain⟨q5,o5,e5⟩:=s2.r.addr c5.1 c5.2;refine ix T J e5 c5 (le T 0 (oO s2 2) e5 c5 J J (ro T 7 (k [1] J M3 Z3 (uH.c · fO) (λv8 Z3=>ro T 2 (cb J Z3 (λZ3=>?_) (λZ3=>?_))))))
  ·refine rc T 3 (aV (c_ (k:=(Fl.int .i64)) T [(rd v2 x6)] J J J J J J J J J (λa6 H6 s6=>?_)));obtain⟨c8,Z3⟩:=az Z3;refine aV (eF (k:=(Fl.int .i64)) (xs:=x5) T (g:=3) J J J J J J J J J J s4 (oO s6 4) c8 J (λa7 n7 H7 s7=>ro T 9 (ar (_,_,_,_,_) [0,0,0,0] ⟨Z3,s7⟩ J J)))
  refine rc T 8 (ar (_,_,_,_,_) [0,0,0,0] ⟨Z3,s4⟩ J J)
 refine rc T 12 ?_
 cases Z3;exact p1 T J [3,1,0] ⟨a4,n4,H4,s4,J,J⟩ J
def nM.l0:Nat->bw->Int->(Int×Int)->(List Int)->List d_->Int->Option (List d_)
 |0,_,_,_,_,_,_=>none
 |k8+1,g,cell,v1,v3,x6,x7=>if x7<4 then(if(0<=x7/\x7<(aa [(rd v3 0),(rd v3 1),(rd v3 2),(rd v3 3)]:Int)) then((zb.f v1.1 v1.2 cell (rd [(rd v3 0),(rd v3 1),(rd v3 2),(rd v3 3)] x7)).bind λv9=>(if v9≥0 then((uH.f g v9).bind λv12=>some v12) else(some false)).bind λaK=>if aK=true then((i_.f g v9).bind λjf=>if(aa x6+1<=1099511627776) then(nM.l0 k8 g cell v1 v3 (x6++[(d_.mk v9 jf)]) (af (x7+1))) else none) else(nM.l0 k8 g cell v1 v3 x6 (af (x7+1)))) else none) else(some x6)
def nM.f (g:bw) (cell:Int):Option (List d_):=(iL.f g).bind λv1=>(uH.f g cell).bind λv2=>if(!v2)=true then(some []) else((zd.f).bind λv3=>nM.l0 fuel g cell v1 v3 [] 0)
def nM.R (r:(List d_)):bk:=λu G=> ∃a0 n0 H0,ak pH 283 r a0 n0 H0/\u=(ll a0 r n0)/\G=[H0]
theorem nM.c (H:nM.f g cell=some r) (fO:iH g fk gn):
 QR 176 [(pp fk),(ii cell)] [gn] [gn] F (nM.R r):=by
 unfold nM.f at H;refine aG Tryz.func176 J J (λW=>rc T 8 (k [0] J uR H (iL.c · fO) (λv1 H=>ro T 12 (k [0] J M3 H (uH.c · fO) (λv2 H=>ro T 3 (cb J H (λH=>?_) (λH=>?_)))))))
 ·refine rc T 7 ?_
  cases H;refine bA (p1 T J [2,0,0] ⟨none,0,[],ak.nil,J,J⟩ J)
 refine rc T 10 (k [] J SP H (zd.c ·) (λv3 H=>ro T 4 (bA (lq [0,1,5,6,20] [1,0] (λ(⟨k8,x6,x7,a4,n4,H4⟩:Nat×List d_×Int×Option Addr×Nat×Hp)=>(nM.l0 k8 g cell v1 v3 x6 x7=some r/\ak pH 283 x6 a4 n4 H4,[(7,(ll a4 x6 n4)),(21,(ii x7))],[H4])) J J (fuel,[],0,none,0,[]) [1,0,0] ⟨H,ak.nil⟩ J J ?_))));rintro k8 ⟨x6,x7,a4,n4,H4⟩ ⟨Z5,s4⟩;rw[nM.l0] at Z5;refine rc T 6 (cd J Z5 (λZ5=>?_) (λZ5=>?_))
 ·refine rc T 6 ?_;obtain⟨c7,Z5⟩:=az Z5;refine bx J (RP T (Fl.int .i64) [(rd v3 0),(rd v3 1),(rd v3 2),(rd v3 3)] J J J J J J J J J c7 J) (ro T 9 (k [] J SQ Z5 (zb.c ·) (λv9 Z5=>ro T 3 (mq Z5 [0,1,5,6,7,10,20,21] [0,0,0] (λlW (aK:Bool)=>(aK=lW,[(35,(bb aK))],[])) J J (λlW Z9 _=>?_) ?_))))
  ·refine rc T 4 (ad 31 J Z9 (λZ9=>?_) (λZ9=>?_))
   ·refine ro T 2 (k [1] J M3 Z9 (uH.c · fO) (λv12 Z9=>ro T 3 (am _ [0,0,0] (oi Z9) J J)))
   refine ro T 6 (am _ [0,0,0] (oi Z9) J J)
  rintro _ aK rfl Z5;refine cb J Z5 (λZ5=>?_) (λZ5=>?_)
  ·refine rc T 5 (k [1] J vX Z5 (i_.c · fO) (λjf Z5=>ro T 1 (aV (c_ (k:=pH) T [(d_.mk v9 jf)] J J J J J J J J J (λa5 H5 s5=>?_)))));obtain⟨pt,Z5⟩:=az Z5;refine aV (eF (k:=pH) (xs:=x6) T (g:=2) J J J J J J J J J J s4 (oO s5 3) pt J (λa6 n6 H6 s6=>ro T 9 (ar (_,_,_,_,_) [0,0,0] ⟨Z5,s6⟩ J J)))
  refine rc T 8 (ar (_,_,_,_,_) [0,0,0] ⟨Z5,s4⟩ J J)
 refine rc T 12 ?_
 cases Z5;exact p1 T J [2,1,0] ⟨a4,n4,H4,s4,J,J⟩ J
end
noncomputable section
def wa.f:Option (Option eJ):=some (some (eJ.mk []))
def wa.R (r:(Option eJ)):bk:=λu G=> ∃(u0:Value) (G0:List Hp),XN r u0 G0/\u=u0/\G=G0
theorem wa.c (H:wa.f=some r):
 QR 213 [] [] [] F (wa.R r):=by
 unfold wa.f at H;refine aG Tryz.func213 J J (λW=>rc T 8 (nc T J (λb1=>ro T 4 ?_)))
 cases H;refine bA (p1 T J [1,1,0] ⟨_,_,⟨b1,none,0,[],ak.nil,J,J⟩,J,J⟩ J)
def zp.f (ag:cN) (o:cN):Option Bool:=(if ag.key<o.key then(some true) else(if(ag.key==o.key)=true then(some (decide (ag.item<o.item))) else(some false))).bind λx1=>some x1
theorem zp.c (H:zp.f ag o=some r):
 QU 270 [(.agg #[(ii ag.key),(ii ag.item)]),(.agg #[(ii o.key),(ii o.item)])] [] F (bb r):=by
 unfold zp.f at H;refine aG Tryz.func270 J J (λW=>rc T 2 (nc T J (λb1=>nc T J (λb2=>ro T 3 (mq H [] [0] (λz2 (x1:Bool)=>(x1=z2,[(4,(bb x1))],[])) J J (λz2 Z1 _=>?_) ?_)))))
 ·refine rc T 2 (lf T 1 J (ro T 1 (lf T 2 J (ro T 2 (ad 10 J Z1 (λZ1=>?_) (λZ1=>?_))))))
  ·refine ro T 16 (am _ [0] (oi Z1) J J)
  refine ro T 1 (lf T 1 J (ro T 1 (lf T 2 J (ro T 2 (ab 16 J Z1 (λZ1=>?_) (λZ1=>?_))))))
  ·refine ro T 1 (lf T 1 J (ro T 1 (lf T 2 J (ro T 6 (am _ [0] (oi Z1) J J)))))
  refine ro T 10 (am _ [0] (oi Z1) J J)
 rintro _ x1 rfl H;refine rc T 1 ?_
 cases H;exact p0 T J [0] J
def mL.l0:Nat->List cN->Int->Option eJ
 |0,_,_=>none
 |k5+1,x3,x4=>if x4>0 then(if(0<=x4/\x4<(aa x3:Int)) then(if(0<=(af (cZ (af (x4-1)) 2))/\(af (cZ (af (x4-1)) 2))<(aa x3:Int)) then((zp.f (rd x3 x4) (rd x3 (af (cZ (af (x4-1)) 2)))).bind λv6=>if(!v6)=true then(some (eJ.mk x3)) else(if(0<=(af (cZ (af (x4-1)) 2))/\(af (cZ (af (x4-1)) 2))<(aa (aD x3 (ax x4) (rd x3 (af (cZ (af (x4-1)) 2)))):Int)) then(mL.l0 k5 (aD (aD x3 (ax x4) (rd x3 (af (cZ (af (x4-1)) 2)))) (ax (af (cZ (af (x4-1)) 2))) (rd x3 x4)) (af (cZ (af (x4-1)) 2))) else none)) else none) else none) else(some (eJ.mk x3))
def mL.f (h:eJ):Option eJ:=mL.l0 fuel h.l (af ((aa h.l:Int)-1))
def mL.R (fA:Nat) (r:eJ):bk:=λu G=> ∃a0 n0 H0,ak fN 359 r.l a0 n0 H0/\u=(.tuple #[])/\G=[(cl fA 357 [(ll a0 r.l n0)]),H0]
theorem mL.c (H:mL.f h=some r) (pR:ak fN 359 h.l kI kU rN):
 QR 240 [(pp fA)] [(cl fA 357 [(ll kI h.l kU)]),rN] [] F (mL.R fA r):=by
 unfold mL.f at H;refine aG Tryz.func240 J J (λW=>rc T 5 (lf T 0 J (ro T 6 (lq [0] [2] (λ(⟨k5,x3,x4,a4,n4,H4⟩:Nat×List cN×Int×Option Addr×Nat×Hp)=>(mL.l0 k5 x3 x4=some r/\ak fN 359 x3 a4 n4 H4,[(2,(ii x4))],[(cl fA 357 [(ll a4 x3 n4)]),H4])) J J (fuel,h.l,(af ((aa h.l:Int)-1)),kI,kU,rN) [2,0,0] ⟨H,pR⟩ J J ?_))));rintro k5 ⟨x3,x4,a4,n4,H4⟩ ⟨Z1,s4⟩;rw[mL.l0] at Z1;refine rc T 7 (cd J Z1 (λZ1=>?_) (λZ1=>?_))
 ·refine rc T 13 (dq mix aA (au T J (au T J (au T J (cw T 1 J J J (au T J ?_))))));obtain⟨c3,Z1⟩:=az Z1;obtain⟨q5,o5,e5⟩:=s4.r.addr c3.1 c3.2;refine bg J J J (cB T J J J J J e5 c3.1 c3.2) (bg J J J (gd T (cs:=[(ii (rd x3 x4).key),(ii (rd x3 x4).item)]) J J J J J J (iu (k:=fN) (oO s4 2) e5 c3 J)) (au T J (au T J (au T J (cw T 1 J J J (au T J ?_))))));obtain⟨c4,Z1⟩:=az Z1;refine bg J J J (cB T J J J J J e5 c4.1 c4.2) (bg J J J (gd T (cs:=[(ii (rd x3 (af (cZ (af (x4-1)) 2))).key),(ii (rd x3 (af (cZ (af (x4-1)) 2))).item)]) J J J J J J (iu (k:=fN) (oO s4 2) e5 c4 J)) ?_);obtain⟨v6,V5,Z1⟩:=gu Z1;refine uD J J J J J J S6 J (zp.c V5) (au T J (cM (rx T 1 (cb J Z1 (λZ1=>?_) (λZ1=>?_)))))
  ·refine rc T 5 ?_
   cases Z1;exact p1 T J [1,1,0] ⟨a4,n4,H4,s4,J,J⟩ J
  refine rc T 3 (fz J (rz [25,27] mix (bR bQ) (λhg pf=>ha T 25 [0,1,2] sz hg pf J (al T 3 1 sz hg pf J J J (ha T 20 [4,5,6,7] sz hg pf J (al T 8 1 sz hg pf J J J (ha T 15 [9,10,11,12] sz hg pf J (al T 13 1 sz hg pf J J J (ha T 13 [14] sz hg pf J (av 15 sz hg pf J (cB T J J J J J e5 c4.1 c4.2) (av 16 sz hg pf J (gd T (cs:=[(ii (rd x3 (af (cZ (af (x4-1)) 2))).key),(ii (rd x3 (af (cZ (af (x4-1)) 2))).item)]) J J J J J J (iu (k:=fN) (oO s4 2) e5 c4 J)) (ha T 8 [17,18,19] sz hg pf J (al T 20 1 sz hg pf J J J (ha T 6 [21] sz hg pf J (av 22 sz hg pf J (cB T J J J J J e5 c3.1 c3.2) (av 23 sz hg pf J (gd T (cs:=[(ii (rd x3 x4).key),(ii (rd x3 x4).item)]) J J J J J J (iu (k:=fN) (oO s4 2) e5 c3 J)) (av 24 sz hg pf J (cB T J J J J J e5 c3.1 c3.2) (ao 25 (jN (k:=fN) T 2 0 (rd x3 (af (cZ (af (x4-1)) 2))) J J J J J J s4 e5 c3 J J J (λH6 s6=>kg [0,2,3,30,31,32,33,35,36,37,38,40,41,42,43,45,46,47,48,49,50,52,53,54,55] [0,1] [0,1,0] [(34,(ll a4 (aD x3 (ax x4) (rd x3 (af (cZ (af (x4-1)) 2)))) n4)),(39,(ll a4 (aD x3 (ax x4) (rd x3 (af (cZ (af (x4-1)) 2)))) n4)),(44,(ll a4 (aD x3 (ax x4) (rd x3 (af (cZ (af (x4-1)) 2)))) n4)),(51,(ll a4 (aD x3 (ax x4) (rd x3 (af (cZ (af (x4-1)) 2)))) n4))] [(cl fA 357 [(ll a4 (aD x3 (ax x4) (rd x3 (af (cZ (af (x4-1)) 2)))) n4)])] J J ⟨dw,dw,dw,dw,trivial⟩ dw (an sl (ao 26 ?_))))))))))))))))))))));obtain⟨c7,Z1⟩:=az Z1;refine lN J (cB T J J J J J e5 c7.1 c7.2) (an sl (ao 27 (jN (k:=fN) T 1 0 (rd x3 x4) J J J J J J s6 e5 c7 J J J (λH7 s7=>kg [0,2,3,30,31,32,33,35,36,37,38,40,41,42,43,45,46,47,48,49,50,52,53,54,55,56] [0,0] [0,0,0] [(34,(ll a4 (aD (aD x3 (ax x4) (rd x3 (af (cZ (af (x4-1)) 2)))) (ax (af (cZ (af (x4-1)) 2))) (rd x3 x4)) n4)),(39,(ll a4 (aD (aD x3 (ax x4) (rd x3 (af (cZ (af (x4-1)) 2)))) (ax (af (cZ (af (x4-1)) 2))) (rd x3 x4)) n4)),(44,(ll a4 (aD (aD x3 (ax x4) (rd x3 (af (cZ (af (x4-1)) 2)))) (ax (af (cZ (af (x4-1)) 2))) (rd x3 x4)) n4)),(51,(ll a4 (aD (aD x3 (ax x4) (rd x3 (af (cZ (af (x4-1)) 2)))) (ax (af (cZ (af (x4-1)) 2))) (rd x3 x4)) n4))] [(cl fA 357 [(ll a4 (aD (aD x3 (ax x4) (rd x3 (af (cZ (af (x4-1)) 2)))) (ax (af (cZ (af (x4-1)) 2))) (rd x3 x4)) n4)])] J J ⟨dw,dw,dw,dw,trivial⟩ dw (an sl (ae (rx T 7 (ar (_,_,_,_,_) [0,1,0] ⟨Z1,s7⟩ J J))))))))
 refine rc T 4 (jk ?_)
 cases Z1;exact p1 T J [1,1,0] ⟨a4,n4,H4,s4,J,J⟩ J
def mJ.f (h:eJ) (key:Int) (item:Int):Option eJ:=if(aa h.l+1<=1099511627776) then((mL.f (eJ.mk (h.l++[(cN.mk key item)]))).bind λv1=>some v1) else none
def mJ.R (fA:Nat) (r:eJ):bk:=λu G=> ∃a0 n0 H0,ak fN 359 r.l a0 n0 H0/\u=(.tuple #[])/\G=[(cl fA 357 [(ll a0 r.l n0)]),H0]
theorem mJ.c (H:mJ.f h key item=some r) (pR:ak fN 359 h.l kI kU rN):
 QR 217 [(pp fA),(ii key),(ii item)] [(cl fA 357 [(ll kI h.l kU)]),rN] [] F (mJ.R fA r):=by
 unfold mJ.f at H;refine aG Tryz.func217 J J (λW=>rc T 7 (e_ J (rc T 8 (lf T 0 J (ro T 3 (aV (c_ (k:=fN) T [(cN.mk key item)] J J J J J J J J J (λa3 H3 s3=>?_))))))));obtain⟨c1,H⟩:=az H;refine aV (eF (k:=fN) (xs:=h.l) T (g:=1) J J J J J J J J J J pR (oO s3 3) c1 J (λa4 n4 H4 s4=>ro T 2 (sg T 0 J (ro T 4 (kr (mL.R fA) [] [0,0] J acO H (mL.c (h:=(eJ.mk (h.l++[(cN.mk key item)]))) · s4) (λv1 H=>?_))))));rintro _ _ ⟨a5,n5,H5,s5,rfl,rfl⟩;refine fz J (ro T 1 (jk ?_))
 cases H;exact p1 T J [2,2,0] ⟨a5,n5,H5,s5,J,J⟩ J
def Cl.f (h:eJ):Option Int:=some (aa h.l:Int)
theorem Cl.c (H:Cl.f h=some r) (pR:ak fN 359 h.l kI kU rN):
 QU 271 [(pp fA)] [(cl fA 357 [(ll kI h.l kU)]),rN] F (ii r):=by
 unfold Cl.f at H;refine aG Tryz.func271 J J (λW=>rc T 12 (e_ J (rc T 7 (lf T 0 J (ro T 5 ?_)))))
 cases H;exact p0 T J [0,0,0] J
def Cm.f (h:eJ):Option (Int×Int×Bool):=(Cl.f h).bind λv1=>if(v1==0)=true then(some (0,0,false)) else(if(0<=(0:Int)/\(0:Int)<(aa h.l:Int)) then(some ((rd h.l 0).key,(rd h.l 0).item,true)) else none)
theorem Cm.c (H:Cm.f h=some r) (pR:ak fN 359 h.l kI kU rN):
 QU 241 [(pp fA)] [(cl fA 357 [(ll kI h.l kU)]),rN] F (.tuple #[(ii r.1),(ii r.2.1),(bb r.2.2)]):=by
 unfold Cm.f at H;refine aG Tryz.func241 J J (λW=>rc T 11 (k [0,0] J ac3 H (Cl.c · pR) (λv1 H=>ro T 3 (cb J H (λH=>?_) (λH=>?_)))))
 ·refine rc T 9 ?_
  cases H;exact p0 T J [0,0,0] J
 refine rc T 3 (dq mix aA (au T J (au T J (au T J (cw T 0 J J J ?_)))));obtain⟨c3,H⟩:=az H;obtain⟨q3,o3,e3⟩:=pR.r.addr c3.1 c3.2;refine bg J J J (cB T J J J J J e3 c3.1 c3.2) (au T J (bg J J J (cC T J J J J (fv (k:=fN) (oO pR 1) e3 c3 0 J)) (au T J (au T J (au T J (cw T 0 J J J (bg J J J (cB T J J J J J e3 c3.1 c3.2) (au T J (bg J J J (cC T J J J J (fv (k:=fN) (oO pR 1) e3 c3 1 J)) (au T J (au T J (au T J (cM (rx T 2 ?_))))))))))))))
 cases H;exact p0 T J [0,0,0] J
def gf.l1:Nat->List cN->Int->Int->Int->Option (Sum eJ ((List cN)×Int))
 |0,_,_,_,_=>none
 |u7+1,x3,x4,bf,bt=>(if bt<=(af ((af (2*x4))+2)) then(some (decide (bt<(aa x3:Int)))) else(some false)).bind λa_=>if a_=true then(if(0<=bt/\bt<(aa x3:Int)) then(if(0<=bf/\bf<(aa x3:Int)) then((zp.f (rd x3 bt) (rd x3 bf)).bind λdI=>if dI=true then(gf.l1 u7 x3 x4 bt (af (bt+1))) else(gf.l1 u7 x3 x4 bf (af (bt+1)))) else none) else none) else(if(bf==x4)=true then(some (Sum.inl (eJ.mk x3))) else(if(0<=bf/\bf<(aa x3:Int)) then(if(0<=x4/\x4<(aa x3:Int)) then(if(0<=bf/\bf<(aa (aD x3 (ax x4) (rd x3 bf)):Int)) then(some (Sum.inr ((aD (aD x3 (ax x4) (rd x3 bf)) (ax bf) (rd x3 x4)),bf))) else none) else none) else none))
def gf.l0:Nat->List cN->Int->Option eJ
 |0,_,_=>none
 |k5+1,x3,x4=>(gf.l1 fuel x3 x4 x4 (af ((af (2*x4))+1))).bind λzz=>match zz with |Sum.inl q=>some q |Sum.inr (x6,x7)=>gf.l0 k5 x6 x7
def gf.f (h:eJ):Option eJ:=gf.l0 fuel h.l 0
def gf.R (fA:Nat) (r:eJ):bk:=λu G=> ∃a0 n0 H0,ak fN 359 r.l a0 n0 H0/\u=(.tuple #[])/\G=[(cl fA 357 [(ll a0 r.l n0)]),H0]
theorem gf.c (H:gf.f h=some r) (pR:ak fN 359 h.l kI kU rN):
 QR 242 [(pp fA)] [(cl fA 357 [(ll kI h.l kU)]),rN] [] F (gf.R fA r):=by
 unfold gf.f at H;refine aG Tryz.func242 J J (λW=>rc T 6 (lq [0] [2] (λ(⟨k5,x3,x4,a4,n4,H4⟩:Nat×List cN×Int×Option Addr×Nat×Hp)=>(gf.l0 k5 x3 x4=some r/\ak fN 359 x3 a4 n4 H4,[(2,(ii x4))],[(cl fA 357 [(ll a4 x3 n4)]),H4])) J J (fuel,h.l,0,kI,kU,rN) [2,0,0] ⟨H,pR⟩ J J ?_));rintro k5 ⟨x3,x4,a4,n4,H4⟩ ⟨Z1,s4⟩;rw[gf.l0] at Z1;refine mn Z1 [0] [0] (λz8 (⟨x6,x7,a5,n5,H5⟩:List cN×Int×Option Addr×Nat×Hp)=>((Sum.inr (x6,x7))=z8/\ak fN 359 x6 a5 n5 H5,[(2,(ii x7))],[(cl fA 357 [(ll a5 x6 n5)]),H5])) J J (λz8 Z2 Z1=>?_) ?_
 ·refine rc T 17 (lq [0,2] [0,0,0] (λ(⟨u7,bf,bt⟩:Nat×Int×Int)=>(gf.l1 u7 x3 x4 bf bt=some z8,[(3,(ii bf)),(4,(ii bt))],[])) J J (fuel,x4,(af ((af (2*x4))+1))) [0,0,0] Z2 J J ?_);rintro u7 ⟨bf,bt⟩ Z3;replace Z3:gf.l1 (u7+1) x3 x4 bf bt=some z8:=Z3;rw[gf.l1] at Z3;refine rc T 1 (mq Z3 [0,2,3,4] [0,0,0] (λBD (a_:Bool)=>(a_=BD,[(22,(bb a_))],[])) J J (λBD Z4 _=>?_) ?_)
  ·refine rc T 7 (ad 14 J Z4 (λZ4=>?_) (λZ4=>?_))
   ·refine ro T 4 (lf T 1 J (ro T 5 (am _ [0,0,0] (oi Z4) J J)))
   refine ro T 10 (am _ [0,0,0] (oi Z4) J J)
  rintro _ a_ rfl Z3;refine cb J Z3 (λZ3=>?_) (λZ3=>?_)
  ·refine rc T 5 (dq mix aA (au T J (au T J (au T J (cw T 1 J J J (au T J ?_))))));obtain⟨c7,Z3⟩:=az Z3;obtain⟨q6,o6,e6⟩:=s4.r.addr c7.1 c7.2;refine bg J J J (cB T J J J J J e6 c7.1 c7.2) (bg J J J (gd T (cs:=[(ii (rd x3 bt).key),(ii (rd x3 bt).item)]) J J J J J J (iu (k:=fN) (oO s4 2) e6 c7 J)) (au T J (au T J (au T J (cw T 1 J J J (au T J ?_))))));obtain⟨c8,Z3⟩:=az Z3;refine bg J J J (cB T J J J J J e6 c8.1 c8.2) (bg J J J (gd T (cs:=[(ii (rd x3 bf).key),(ii (rd x3 bf).item)]) J J J J J J (iu (k:=fN) (oO s4 2) e6 c8 J)) ?_);obtain⟨dI,V9,Z3⟩:=gu Z3;refine uD J J J J J J S6 J (zp.c V9) (cM (rx T 1 (cb J Z3 (λZ3=>?_) (λZ3=>?_))))
   ·refine rc T 12 (ar (_,_) [0,0,0] Z3 J J)
   refine rc T 9 (ar (_,_) [0,0,0] Z3 J J)
  refine rc T 13 (cb J Z3 (λZ3=>?_) (λZ3=>?_))
  ·refine rc T 6 ?_;obtain rfl:=Option.some.inj Z3;obtain rfl:=Option.some.inj (show some (eJ.mk x3)=some r from Z1)
   exact p1 T J [1,1,0] ⟨a4,n4,H4,s4,J,J⟩ J
  refine rc T 3 (fz J (rz [25,27] mix (bR bQ) (λhg pf=>ha T 25 [0,1,2] sz hg pf J (al T 3 1 sz hg pf J J J (ha T 20 [4,5,6,7] sz hg pf J (al T 8 1 sz hg pf J J J (ha T 15 [9,10,11,12] sz hg pf J (al T 13 1 sz hg pf J J J (ha T 13 [14] sz hg pf J ?_)))))))));obtain⟨gv,Z3⟩:=az Z3;obtain⟨q7,o7,e7⟩:=s4.r.addr gv.1 gv.2;refine av 15 sz hg pf J (cB T J J J J J e7 gv.1 gv.2) (av 16 sz hg pf J (gd T (cs:=[(ii (rd x3 bf).key),(ii (rd x3 bf).item)]) J J J J J J (iu (k:=fN) (oO s4 2) e7 gv J)) (ha T 8 [17,18,19] sz hg pf J (al T 20 1 sz hg pf J J J (ha T 6 [21] sz hg pf J ?_))));obtain⟨jl,Z3⟩:=az Z3;refine av 22 sz hg pf J (cB T J J J J J e7 jl.1 jl.2) (av 23 sz hg pf J (gd T (cs:=[(ii (rd x3 x4).key),(ii (rd x3 x4).item)]) J J J J J J (iu (k:=fN) (oO s4 2) e7 jl J)) (av 24 sz hg pf J (cB T J J J J J e7 jl.1 jl.2) (ao 25 (jN (k:=fN) T 2 0 (rd x3 bf) J J J J J J s4 e7 jl J J J (λH8 s8=>kg [0,2,3,43,44,45,46,48,49,50,51,53,54,55,56,58,59,60,61,62,63,65,66,67,68] [0,1] [0,1,0] [(47,(ll a4 (aD x3 (ax x4) (rd x3 bf)) n4)),(52,(ll a4 (aD x3 (ax x4) (rd x3 bf)) n4)),(57,(ll a4 (aD x3 (ax x4) (rd x3 bf)) n4)),(64,(ll a4 (aD x3 (ax x4) (rd x3 bf)) n4))] [(cl fA 357 [(ll a4 (aD x3 (ax x4) (rd x3 bf)) n4)])] J J ⟨dw,dw,dw,dw,trivial⟩ dw (an sl (ao 26 ?_)))))));obtain⟨pt,Z3⟩:=az Z3;refine lN J (cB T J J J J J e7 pt.1 pt.2) (an sl (ao 27 (jN (k:=fN) T 1 0 (rd x3 x4) J J J J J J s8 e7 pt J J J (λH9 s9=>kg [0,2,3,43,44,45,46,48,49,50,51,53,54,55,56,58,59,60,61,62,63,65,66,67,68,69] [0,0] [0,0,0] [(47,(ll a4 (aD (aD x3 (ax x4) (rd x3 bf)) (ax bf) (rd x3 x4)) n4)),(52,(ll a4 (aD (aD x3 (ax x4) (rd x3 bf)) (ax bf) (rd x3 x4)) n4)),(57,(ll a4 (aD (aD x3 (ax x4) (rd x3 bf)) (ax bf) (rd x3 x4)) n4)),(64,(ll a4 (aD (aD x3 (ax x4) (rd x3 bf)) (ax bf) (rd x3 x4)) n4))] [(cl fA 357 [(ll a4 (aD (aD x3 (ax x4) (rd x3 bf)) (ax bf) (rd x3 x4)) n4)])] J J ⟨dw,dw,dw,dw,trivial⟩ dw (an sl (ae (rx T 7 (am (_,_,_,_,_) [0,1,0] ⟨oi Z3,s9⟩ J J))))))))
 rintro _ ⟨x6,x7,a5,n5,H5⟩ ⟨rfl,s5⟩ Z1;refine rx T 1 (ar (_,_,_,_,_) [0,0,0] ⟨Z1,s5⟩ J J)
def mH.f (h:eJ):Option (Int×Int×Bool×eJ):=(Cm.f h).bind λv1=>if v1.2.2=true then(if(0<=(af ((aa h.l:Int)-1))/\(af ((aa h.l:Int)-1))<(aa h.l:Int)) then(if(0<=(0:Int)/\(0:Int)<(aa h.l:Int)) then(if(0<=(0:Int)/\(0:Int)<=(af ((aa h.l:Int)-1))/\(af ((aa h.l:Int)-1))<=(aa (aD h.l (ax 0) (rd h.l (af ((aa h.l:Int)-1)))):Int)) then((gf.f (eJ.mk (aB (aD h.l (ax 0) (rd h.l (af ((aa h.l:Int)-1)))) 0 (af ((aa h.l:Int)-1))))).bind λv2=>some (v1.1,v1.2.1,v1.2.2,v2)) else none) else none) else none) else(some (v1.1,v1.2.1,v1.2.2,h))
def mH.R (fA:Nat) (r:(Int×Int×Bool×eJ)):bk:=λu G=> ∃a0 n0 H0,ak fN 359 r.2.2.2.l a0 n0 H0/\u=(.tuple #[(ii r.1),(ii r.2.1),(bb r.2.2.1)])/\G=[(cl fA 357 [(ll a0 r.2.2.2.l n0)]),H0]
theorem mH.c (H:mH.f h=some r) (pR:ak fN 359 h.l kI kU rN):
 QR 218 [(pp fA)] [(cl fA 357 [(ll kI h.l kU)]),rN] [] F (mH.R fA r):=by
 unfold mH.f at H;refine aG Tryz.func218 J J (λW=>rc T 10 (k [0,0] J acP H (Cm.c · pR) (λv1 H=>ro T 15 (cb J H (λH=>?_) (λH=>?_)))))
 ·refine rc T 5 (lf T 0 J (ro T 6 (fz J (rz [12] mix (bR bQ) (λhg pf=>ha T 10 [0,1,2] sz hg pf J (al T 3 0 sz hg pf J J J (ha T 6 [4,5,6] sz hg pf J (al T 7 0 sz hg pf J J J (ha T 4 [8] sz hg pf J ?_)))))))));obtain⟨c3,H⟩:=az H;obtain⟨q3,o3,e3⟩:=pR.r.addr c3.1 c3.2;refine av 9 sz hg pf J (cB T J J J J J e3 c3.1 c3.2) (av 10 sz hg pf J (gd T (cs:=[(ii (rd h.l (af ((aa h.l:Int)-1))).key),(ii (rd h.l (af ((aa h.l:Int)-1))).item)]) J J J J J J (iu (k:=fN) (oO pR 1) e3 c3 J)) ?_);obtain⟨c4,H⟩:=az H;refine av 11 sz hg pf J (cB T J J J J J e3 c4.1 c4.2) (ao 12 (jN (k:=fN) T 1 0 (rd h.l (af ((aa h.l:Int)-1))) J J J J J J pR e3 c4 J J J (λH4 s4=>kg [0,2,3,4,5,19,20,21,23,24,25,27,28,29,30] [1,1] [1,1,0] [(22,(ll kI (aD h.l (ax 0) (rd h.l (af ((aa h.l:Int)-1)))) kU)),(26,(ll kI (aD h.l (ax 0) (rd h.l (af ((aa h.l:Int)-1)))) kU))] [(cl fA 357 [(ll kI (aD h.l (ax 0) (rd h.l (af ((aa h.l:Int)-1)))) kU)])] J J ⟨dw,dw,trivial⟩ dw (an sl (ae (rx T 7 (lf T 2 J (ro T 1 ?_))))))));obtain⟨c5,H⟩:=az H;refine bx J (kP T J J J J J J c5 s4.b_) (ro T 2 (sg T 2 J (ro T 4 (kr (gf.R fA) [] [2,0] J acQ H (gf.c (h:=(eJ.mk (aB (aD h.l (ax 0) (rd h.l (af ((aa h.l:Int)-1)))) 0 (af ((aa h.l:Int)-1))))) · (ak.pre s4 c5)) (λv2 H=>?_)))));rintro _ _ ⟨a5,n5,H5,s5,rfl,rfl⟩;refine fz J (ro T 1 (ks [2,3,4] J (rx T 12 ?_)))
  cases H;exact p1 T J [1,1,0] ⟨a5,n5,H5,s5,J,J⟩ J
 refine rc T 13 ?_
 cases H;exact p1 T J [0,0,0] ⟨kI,kU,rN,pR,J,J⟩ J
end
noncomputable section
def wF.f (ag:Int):Option (Option eU):=if((decide (ag<0))||(decide (ag>1099511627776)))=true then(some none) else(some (some (eU.mk ag 0 (ct 256 (default:jX)))))
def wF.R (r:(Option eU)):bk:=λu G=> ∃(u0:Value) (G0:List Hp),XR r u0 G0/\u=u0/\G=G0
theorem wF.c (H:wF.f ag=some r):
 QR 247 [(ii ag)] [] [] F (wF.R r):=by
 unfold wF.f at H;refine aG Tryz.func247 J J (λW=>rc T 11 (go T [3,4,5] 5 [0] 8 J J J J J J J (ro T 2 (cb J H (λH=>?_) (λH=>?_)))))
 ·refine rc T 7 ?_
  cases H;exact p1 T J [0] ⟨_,_,⟨J,J⟩,J,J⟩ J
 refine rc T 6 (aV (YK (kd:=V0) T [(ii ag),(ii 0)] 256 (default:jX) [nl,(ii 0)] J J J J ⟨none,0,[],(ak.nil (k:=(Fl.int .i64)) (E:=3)),J,J⟩ (λb1 H1 s1=>ro T 4 ?_)))
 cases H;exact p1 T J [1,0] ⟨_,_,⟨b1,H1,(And.intro s1 (List.length_replicate ..)),J,J⟩,J,J⟩ J
def wG.f (ag:eU):Option Int:=some ag.len
theorem wG.c (H:wG.f ag=some r) (cS:kG ag aW dp):
 QU 274 [(pp aW)] [dp] F (ii r):=by
 unfold wG.f at H;refine aG Tryz.func274 J J (λW=>rc T 12 (e_ J (rc T 7 (lg T J (A3 (j:=0) J cS.1 J) (ro T 4 ?_)))))
 cases H;exact p0 T J [0,0] J
def yo.f (ag:eU) (key:Int):Option (Bool×eU):=(if ag.len>0 then(some true) else(some ((decide (key<ag.aZ))||(decide (key>1099511627776))))).bind λx1=>if x1=true then(some (false,ag)) else(some (true,(eU.mk key ag.len ag.buckets)))
def yo.R (nO:Nat) (r:(Bool×eU)):bk:=λu G=> ∃(H0:Hp),kG r.2 nO H0/\u=(bb r.1)/\G=[H0]
theorem yo.c (H:yo.f ag key=some r) (cS:kG ag aW dp):
 QR 290 [(pp aW),(ii key)] [dp] [] F (yo.R aW r):=by
 unfold yo.f at H;refine aG Tryz.func290 J J (λW=>rc T 6 (mq H [0,1] [1,0] (λz2 (x1:Bool)=>(x1=z2,[(25,(bb x1))],[])) J J (λz2 Z1 _=>?_) ?_))
 ·refine rc T 7 (lg T J (A3 (j:=0) J cS.1 J) (ro T 3 (ad 14 J Z1 (λZ1=>?_) (λZ1=>?_))))
  ·refine ro T 13 (am _ [1,0] (oi Z1) J J)
  refine ro T 4 (lg T J (A3 (j:=0) J cS.1 J) (ro T 3 (go T [18,19,20] 22 [0,1] 25 J J J J J J J (ro T 2 (am _ [1,0] (oi Z1) J J)))))
 rintro _ x1 rfl H;refine cb J H (λH=>?_) (λH=>?_)
 ·refine rc T 7 ?_
  cases H;exact p1 T J [1,0] ⟨dp,cS,J,J⟩ J
 refine rc T 8 (aV (IX T 1 [(ii key),(ii ag.len)] J J J J J J cS.1 J J J J (λH2 s2=>ro T 8 ?_)))
 cases H;exact p1 T J [1,0] ⟨H2,(And.intro s2 cS.2),J,J⟩ J
def zS.f (b:jX) (item:Int):Option jX:=if(aa b.items+1<=1099511627776) then(some (jX.mk (b.items++[item]) b.gone)) else none
def zS.R (vL:Nat) (L1:TypeId) (Me Mf:List Value) (r:jX):bk:=λu G=> ∃a0 n0 H0,ak (Fl.int .i64) 3 r.items a0 n0 H0/\u=(.tuple #[])/\G=[[(vL,Obj.cells (Me++(([(ll a0 r.items n0),(ii r.gone)]:List Value)++Mf)).toArray L1 (0,0))],H0]
theorem zS.c (H:zS.f b item=some r) (zW:ak (Fl.int .i64) 3 b.items xe tM BH):
 QR 302 [(.pointer (some ⟨vL,aa C1+0,none⟩)),(ii item)] [[(vL,Obj.cells (C1++(([(ll xe b.items tM),(ii b.gone)]:List Value)++KJ)).toArray IG (0,0))],BH] [] F (zS.R vL IG C1 KJ r):=by
 unfold zS.f at H;refine aG Tryz.func302 J J (λW=>rc T 5 (lg T J (Cu (j:=0) J 0 J) (ro T 1 (aV (c_ (k:=(Fl.int .i64)) T [item] J J J J J J J J J (λa3 H3 s3=>?_))))));obtain⟨c1,H⟩:=az H;refine aV (eF (k:=(Fl.int .i64)) (xs:=b.items) T (g:=1) J J J J J J J J J J zW (oO s3 3) c1 J (λa4 n4 H4 s4=>ro T 2 (aV (I1 T 0 0 [(ll a4 (b.items++[item]) n4),(ii b.gone)] J J J J J J J J J J ?_))));refine ro T 1 (jk ?_)
 cases H;exact p1 T J [0,0,0] ⟨a4,n4,H4,s4,J,J⟩ J
def tR.f (ag:eU) (key:Int) (item:Int):Option (Bool×eU):=(if key<ag.aZ then(some true) else(some (decide ((af (key-ag.aZ))≥256)))).bind λx1=>if x1=true then(some (false,ag)) else(if(0<=(fy key 256)/\(fy key 256)<(aa ag.buckets:Int)) then((zS.f (rd ag.buckets (fy key 256)) item).bind λv3=>some (true,(eU.mk ag.aZ (af (ag.len+1)) (aD ag.buckets (ax (fy key 256)) v3)))) else none)
def tR.R (nO:Nat) (r:(Bool×eU)):bk:=λu G=> ∃(H0:Hp),kG r.2 nO H0/\u=(bb r.1)/\G=[H0]
theorem tR.c (H:tR.f ag key item=some r) (cS:kG ag aW dp):
 QR 291 [(pp aW),(ii key),(ii item)] [dp] [] F (tR.R aW r):=by
 unfold tR.f at H;refine aG Tryz.func291 J J (λW=>rc T 6 (mq H [0,1,2] [1,0] (λz2 (x1:Bool)=>(x1=z2,[(25,(bb x1))],[])) J J (λz2 Z1 _=>?_) ?_))
 ·refine rc T 8 (lg T J (A3 (j:=0) J cS.1 J) (ro T 3 (ad 17 J Z1 (λZ1=>?_) (λZ1=>?_))))
  ·refine ro T 10 (am _ [1,0] (oi Z1) J J)
  refine ro T 4 (lg T J (A3 (j:=0) J cS.1 J) (ro T 5 (am _ [1,0] (oi Z1) J J)))
 rintro _ x1 rfl H;refine cb J H (λH=>?_) (λH=>?_)
 ·refine rc T 7 ?_
  cases H;exact p1 T J [1,0] ⟨dp,cS,J,J⟩ J
 refine rc T 3 ?_;obtain⟨c4,H⟩:=az H;refine LK (j:=1) J cS.1 c4 (λp2_ q2_ _ H3 _ o2_ Xd=>?_);obtain⟨a5,n5,H5,s5,rfl,rfl⟩:=o2_;refine bX (As:=[H5]) 3 J (rc T 6 (bx J (Jm T J J J J J (by rw[cS.2] at c4;exact c4) (by rw[w6.at Xd];rfl)) (ro T 1 ?_)))
 refine kr (zS.R aW 396 p2_ q2_) [] [1,2] J adi H (zS.c · s5) (λv3 H=>?_);rintro _ _ ⟨a6,n6,H6,s6,rfl,rfl⟩;refine fz J (ro T 1 (gD [3] J (FE (j:=2) (q1:=1) (q2:=3) v3 J Xd J J J J J ⟨a6,n6,H6,s6,J,J⟩ (λH8 s8=>rx T 6 (lg T J (A3 (j:=2) J s8 J) (ro T 3 (aV (IX T 2 [(ii ag.aZ),(ii (af (ag.len+1)))] J J J J J J s8 J J J J (λH9 s9=>ro T 8 ?_)))))))))
 cases H;exact p1 T J [2,0] ⟨H9,(And.intro s9 (KY cS.2)),J,J⟩ J
def yp.f (b:jX):Option Bool:=some (b.gone==(aa b.items:Int))
theorem yp.c (H:yp.f b=some r) (zW:ak (Fl.int .i64) 3 b.items xe tM BH):
 QU 292 [(.pointer (some ⟨vL,aa C1+0,none⟩))] [[(vL,Obj.cells (C1++(([(ll xe b.items tM),(ii b.gone)]:List Value)++KJ)).toArray IG (0,0))],BH] F (bb r):=by
 unfold yp.f at H;refine aG Tryz.func292 J J (λW=>rc T 6 (dq mix aA (au T J (au T J (au T J (bg J J J (cC T J J J J (Cu (j:=0) J 1 J)) (au T J (au T J (au T J (bg J J J (cC T J J J J (Cu (j:=0) J 0 J)) (au T J (au T J (au T J (cM (rx T 2 ?_)))))))))))))))
 cases H;exact p0 T J [0,0,0] J
def sH.f (b:jX):Option (Int×jX):=if(0<=b.gone/\b.gone<(aa b.items:Int)) then((yp.f (jX.mk b.items (af (b.gone+1)))).bind λv1=>if v1=true then(if(0<=(0:Int)/\(0:Int)<=(0:Int)/\(0:Int)<=(aa b.items:Int)) then(some ((rd b.items b.gone),(jX.mk (aB b.items 0 0) 0))) else none) else(some ((rd b.items b.gone),(jX.mk b.items (af (b.gone+1)))))) else none
def sH.R (vL:Nat) (L1:TypeId) (Me Mf:List Value) (r:(Int×jX)):bk:=λu G=> ∃a0 n0 H0,ak (Fl.int .i64) 3 r.2.items a0 n0 H0/\u=(ii r.1)/\G=[[(vL,Obj.cells (Me++(([(ll a0 r.2.items n0),(ii r.2.gone)]:List Value)++Mf)).toArray L1 (0,0))],H0]
theorem sH.c (H:sH.f b=some r) (zW:ak (Fl.int .i64) 3 b.items xe tM BH):
 QR 293 [(.pointer (some ⟨vL,aa C1+0,none⟩))] [[(vL,Obj.cells (C1++(([(ll xe b.items tM),(ii b.gone)]:List Value)++KJ)).toArray IG (0,0))],BH] [] F (sH.R vL IG C1 KJ r):=by
 unfold sH.f at H;refine aG Tryz.func293 J J (λW=>rc T 6 (dq mix aA (au T J (au T J (au T J (bg J J J (cC T J J J J (Cu (j:=0) J 0 J)) (au T J (au T J (au T J (bg J J J (cC T J J J J (Cu (j:=0) J 1 J)) ?_))))))))));obtain⟨c1,H⟩:=az H;obtain⟨q3,o3,e3⟩:=zW.r.addr c1.1 c1.2;refine bg J J J (cB T J J J J J e3 c1.1 c1.2) (bg J J J (cC T J J J J (fv (k:=(Fl.int .i64)) (oO zW 1) e3 c1 0 J)) (au T J (cM (rx T 6 (lg T J (Cu (j:=0) J 1 J) (ro T 3 (aV (I1 T 0 1 [(ll xe b.items tM),(ii (af (b.gone+1)))] J J J J J J J J J J ?_))))))));refine ro T 6 (k [0,0] J S_ H (yp.c (b:=(jX.mk b.items (af (b.gone+1)))) · zW) (λv1 H=>ro T 2 (cb J H (λH=>?_) (λH=>?_))))
 ·refine rc T 6 (lg T J (Cu (j:=0) J 0 J) ?_);obtain⟨c4,H⟩:=az H;refine bx J (kP T J J J J J J c4 zW.b_) (ro T 2 (aV (I1 T 0 0 [(ll (gk xe tM (ax 0) 1) (aB b.items 0 0) (tM-ax 0)),(ii (af (b.gone+1)))] J J J J J J J J J J ?_)));refine ro T 2 (aV (I1 T 0 1 [(ll (gk xe tM (ax 0) 1) (aB b.items 0 0) (tM-ax 0)),(ii 0)] J J J J J J J J J J ?_));refine ro T 9 ?_
  cases H;exact p1 T J [0,0,0] ⟨(gk xe tM (ax 0) 1),(tM-ax 0),BH,(ak.pre zW c4),J,J⟩ J
 refine rc T 9 ?_
 cases H;exact p1 T J [0,0,0] ⟨xe,tM,BH,zW,J,J⟩ J
def oX.l0:Nat->eU->Option eU
 |0,_=>none
 |k6+1,x5=>if(0<=(fy x5.aZ 256)/\(fy x5.aZ 256)<(aa x5.buckets:Int)) then((yp.f (rd x5.buckets (fy x5.aZ 256))).bind λv7=>if v7=true then(oX.l0 k6 (eU.mk (af (x5.aZ+1)) x5.len x5.buckets)) else(some x5)) else none
def oX.f (ag:eU):Option (Int×Int×Bool×eU):=(wG.f ag).bind λv1=>if(v1==0)=true then(some (0,0,false,ag)) else((oX.l0 fuel ag).bind λx2=>if(0<=(fy x2.aZ 256)/\(fy x2.aZ 256)<(aa x2.buckets:Int)) then((sH.f (rd x2.buckets (fy x2.aZ 256))).bind λv8=>some (x2.aZ,v8.1,true,(eU.mk x2.aZ (af (x2.len-1)) (aD x2.buckets (ax (fy x2.aZ 256)) v8.2)))) else none)
def oX.R (nO:Nat) (r:(Int×Int×Bool×eU)):bk:=λu G=> ∃(H0:Hp),kG r.2.2.2 nO H0/\u=(.tuple #[(ii r.1),(ii r.2.1),(bb r.2.2.1)])/\G=[H0]
theorem oX.c (H:oX.f ag=some r) (cS:kG ag aW dp):
 QR 275 [(pp aW)] [dp] [] F (oX.R aW r):=by
 unfold oX.f at H;refine aG Tryz.func275 J J (λW=>rc T 11 (k [0] J M9 H (wG.c · cS) (λv1 H=>ro T 3 (cb J H (λH=>?_) (λH=>?_)))))
 ·refine rc T 9 ?_
  cases H;exact p1 T J [0,0] ⟨dp,cS,J,J⟩ J
 refine rc T 2 (mq H [0] [1] (λz3 (⟨x2,H2⟩:eU×Hp)=>(x2=z3/\kG x2 aW H2,[],[H2])) J J (λz3 Z3 _=>?_) ?_)
 ·refine rc T 1 (lq [0] [1] (λ(⟨k6,x5,H4⟩:Nat×eU×Hp)=>(oX.l0 k6 x5=some z3/\kG x5 aW H4,[],[H4])) J J (fuel,ag,dp) [1,0] ⟨Z3,cS⟩ J J ?_);rintro k6 ⟨x5,H4⟩ ⟨Z4,s4⟩;rw[oX.l0] at Z4;refine rc T 2 ?_;obtain⟨c5,Z4⟩:=az Z4;refine LK (j:=1) J s4.1 c5 (λp5_ q5_ _ H6 _ o5_ PH=>?_);obtain⟨a8,n8,H8,s8,rfl,rfl⟩:=o5_;refine bX (As:=[H8]) 3 J (dq mix aA ?_)
  iterate 4 refine au T J ?_
  refine bg J J J (cC T J J J J (Eo (j:=1) J PH J)) (au T J (au T J (au T J (bg J J J (Jm T J J J J J (by rw[s4.2] at c5;exact c5) (by rw[w6.at PH];rfl)) ?_))))
  obtain⟨v7,V6,Z4⟩:=gu Z4;refine xi [1,2] J J J J J J S_ J (yp.c V6 s8) (cM (gD [3] J (YL (j:=1) (q1:=2) (q2:=3) J PH J J J J J ⟨a8,n8,H8,s8,J,J⟩ (λbZ bT=>rx T 1 (cb J Z4 (λZ4=>?_) (λZ4=>?_))))))
  ·refine rc T 7 (lg T J (A3 (j:=1) J bT J) (ro T 3 (aV (IX T 1 [(ii (af (x5.aZ+1))),(ii x5.len)] J J J J J J bT J J J J (λcE cW=>ro T 3 (ar (_,_) [0,0] ⟨Z4,(And.intro cW s4.2)⟩ J J))))))
  refine rc T 5 (am (_,_) [0,0] ⟨oi Z4,(And.intro bT s4.2)⟩ J J)
 rintro _ ⟨x2,H2⟩ ⟨rfl,s2⟩ H;refine rc T 5 (lg T J (A3 (j:=1) J s2.1 J) (ro T 3 (aV (IX T 1 [(ii x2.aZ),(ii (af (x2.len-1)))] J J J J J J s2.1 J J J J (λdH dN=>ro T 3 ?_)))));obtain⟨c8,H⟩:=az H;refine LK (j:=1) J dN c8 (λOJ OM _ fm _ afP yI=>?_);obtain⟨ik,n16,fx,eK,rfl,rfl⟩:=afP;refine bX (As:=[fx]) 3 J (ks [0] J (fz J (rg [] [0,1] mix (bR bQ) (λhg pf=>ha T 8 [0,1,2,4,5,6,7,10,11] (so [0,1]) hg pf J (gM 3 8 ?_ ?_)))))
 ·refine lN J (cC T J J J J (Eo (j:=1) J yI J)) (an (so [0,1]) (ao 8 (lN J (cC T J J J J (Eo (j:=1) J yI J)) (an (so [0,1]) (ha T 5 [9] (so [0,1]) hg pf J (av 12 (so [0,1]) hg pf J (Jm T J J J J J (by rw[s2.2] at c8;exact c8) (by rw[w6.at yI];rfl)) (ao 13 ?_)))))))
  refine kR (sH.R aW 396 OJ OM) [] [1,2] J Na H (sH.c · eK) (λv8 H=>?_);rintro _ _ ⟨a17,n17,eP,fF,rfl,rfl⟩;refine fz J (an (so [0,0]) (ha T 0 [14,15,16] (so [0,0]) hg pf J (ae (gD [3] J (FE (j:=2) (q1:=1) (q2:=3) v8.2 J yI J J J J J ⟨a17,n17,eP,fF,J,J⟩ (λlh hJ=>rx T 2 ?_))))))
  cases H;exact p1 T J [2,0] ⟨lh,(And.intro hJ (KY s2.2)),J,J⟩ J
 refine lN J (cC T J J J J (Eo (j:=1) J yI J)) (an (so [0,1]) (ha T 6 [9] (so [0,1]) hg pf J (av 12 (so [0,1]) hg pf J (Jm T J J J J J (by rw[s2.2] at c8;exact c8) (by rw[w6.at yI];rfl)) ?_)))
 refine gM 3 13 ?_ ?_
 ·refine lN J (cC T J J J J (Eo (j:=1) J yI J)) (an (so [0,1]) (ao 13 (kR (sH.R aW 396 OJ OM) [] [1,2] J Na H (sH.c · eK) (λv9 H=>?_))));rintro _ _ ⟨a20,n20,oA,mi,rfl,rfl⟩;refine fz J (an (so [0,0]) (ha T 0 [14,15,16] (so [0,0]) hg pf J (ae (gD [3] J (FE (j:=2) (q1:=1) (q2:=3) v9.2 J yI J J J J J ⟨a20,n20,oA,mi,J,J⟩ (λmr iv=>rx T 2 ?_))))))
  cases H;exact p1 T J [2,0] ⟨mr,(And.intro iv (KY s2.2)),J,J⟩ J
 refine kR (sH.R aW 396 OJ OM) [] [1,2] J Na H (sH.c · eK) (λv10 H=>?_);rintro _ _ ⟨a23,n23,jL,hU,rfl,rfl⟩;refine fz J (an (so [0,0]) (ao 3 (lN J (cC T J J J J (Eo (j:=2) J yI J)) (an (so [0,0]) (ha T 0 [14,15,16] (so [0,0]) hg pf J (ae (gD [3] J (FE (j:=2) (q1:=1) (q2:=3) v10.2 J yI J J J J J ⟨a23,n23,jL,hU,J,J⟩ (λig jG=>rx T 2 ?_)))))))))
 cases H;exact p1 T J [2,0] ⟨ig,(And.intro jG (KY s2.2)),J,J⟩ J
end
end Go.Proofs.YthodkonhneebbaaGreatDoor
