/- What the functions of some packages compute, each as a function of plain Lean, with its contract. No condition. -/
import Derived.Test.YthodkonhneebbaaGreatDoorKT
import Derived.Test.YthodkonhneebbaaGreatDoorK5
import Derived.Test.YthodkonhneebbaaGreatDoorKSort
import Derived.Test.YthodkonhneebbaaGreatDoorK8
import Derived.Test.YthodkonhneebbaaGreatDoorK7
import Derived.Test.YthodkonhneebbaaGreatDoorK6
namespace Go.Proofs.YthodkonhneebbaaGreatDoor
open Go.Hx
set_option maxRecDepth 100000
set_option linter.unusedSimpArgs false
set_option linter.unusedVariables false
set_option maxHeartbeats 4000000
set_option autoImplicit true
set_option relaxedAutoImplicit true
noncomputable section
def CP.f (t:aJ) (cell:Int) (side:Int):Option Bool:=if(¬t.W=0) then(if(¬t.W=0) then(if(side==0)=true then(some ((aa (Int.tdiv cell t.W))==0)) else(if(side==1)=true then(some ((Int.tmod cell t.W)==(aa (t.W-1)))) else(if(side==2)=true then(some ((aa (Int.tdiv cell t.W))==(aa (t.H-1)))) else(if(side==3)=true then(some ((Int.tmod cell t.W)==0)) else(some (side==4)))))) else none) else none
theorem CP.c (H:CP.f t cell side=some r) (dH:aS (Fl.int .u8) t.C iv F) (ff:List.length t.C<=iy):
 QU 223 [(.agg #[(ii t.W),(ii t.H),(ll iv t.C iy)]),(ii cell),(ii side)] [] F (bb r):=by
 unfold CP.f at H;refine aB Tryz.func223 J J (λW=>rc T 2 (nc T J (λb1=>ro T 4 (dj mix ay (au T J (au T J (aN J J J (aw T J J J J (aD (j:=1) J J)) ?_)))))));obtain⟨c1,H⟩:=az H;refine aN J J J (uZ J J J c1) (au T J (au T J (aN J J J (aw T J J J J (aD (j:=1) J J)) ?_)));obtain⟨c2,H⟩:=az H;refine aN J J J (uY J J J c2) (au T J (au T J (cR (rx T 14 (cb J H (λH=>?_) (λH=>?_))))))
 ·refine rc T 10 ?_
  cases H;exact p0 T J [0] J
 refine rc T 6 (cb J H (λH=>?_) (λH=>?_))
 ·refine rc T 4 (lf T 1 J (ro T 8 ?_))
  cases H;exact p0 T J [0] J
 refine rc T 6 (cb J H (λH=>?_) (λH=>?_))
 ·refine rc T 4 (lf T 1 J (ro T 8 ?_))
  cases H;exact p0 T J [0] J
 refine rc T 6 (cb J H (λH=>?_) (λH=>?_))
 ·refine rc T 10 ?_
  cases H;exact p0 T J [0] J
 refine rc T 11 ?_
 cases H;exact p0 T J [0] J
def CO.f (s:aZ) (ai:aJ):Option Bool:=(if s.Cell<0 then(some true) else(if s.Cell≥(List.length ai.C:Int) then(some true) else(if(0<=s.Cell/\s.Cell<(List.length ai.C:Int)) then(if((rd ai.C s.Cell)==255)=true then(some true) else(if s.Key<0 then(some true) else(if s.Key>1073741824 then(some true) else((CP.f ai s.Cell s.cM).bind λv3=>some (!v3))))) else none))).bind λx1=>some x1
theorem CO.c (H:CO.f s ai=some r) (GD:(tG,Obj.cells #[(ii ai.W),(ii ai.H),(ll Iz ai.C Ke)] 139 (0,0))∈F) (DI:aS (Fl.int .u8) ai.C Iz F) (QA:List.length ai.C<=Ke):
 QU 222 [(.agg #[(ii s.Cell),(ii s.cM),(ii s.Key)]),(pp tG)] [] F (bb r):=by
 unfold CO.f at H;refine aB Tryz.func222 J J (λW=>rc T 2 (nc T J (λb1=>ro T 3 (mq H [] [0] (λz2 (x1:Bool)=>(x1=z2,[(3,(bb x1))],[])) J J (λz2 Z1 _=>?_) ?_))))
 ·refine rc T 2 (lf T 1 J (ro T 2 (ad 7 J Z1 (λZ1=>?_) (λZ1=>?_))))
  ·refine ro T 38 (am _ [0] (oi Z1) J J)
  refine ro T 1 (lf T 1 J (ro T 1 (lg T J (np (j:=0) GD J J) (ro T 4 (ad 15 J Z1 (λZ1=>?_) (λZ1=>?_))))))
  ·refine ro T 30 (am _ [0] (oi Z1) J J)
  refine ro T 1 (lg T J (np (j:=0) GD J J) (ro T 1 (lf T 1 J ?_)));obtain⟨c4,Z1⟩:=az Z1;obtain⟨q2,o2,e2⟩:=DI.addr c4.1 c4.2;refine ix T J e2 c4 (le T 0 (rO DI 0) e2 c4 J J (ro T 3 (ab 24 J Z1 (λZ1=>?_) (λZ1=>?_))))
  ·refine ro T 21 (am _ [0] (oi Z1) J J)
  refine ro T 1 (lf T 1 J (ro T 3 (ad 29 J Z1 (λZ1=>?_) (λZ1=>?_))))
  ·refine ro T 16 (am _ [0] (oi Z1) J J)
  refine ro T 1 (lf T 1 J (ro T 3 (ad 34 J Z1 (λZ1=>?_) (λZ1=>?_))))
  ·refine ro T 11 (am _ [0] (oi Z1) J J)
  refine bp J (fm T (cs:=[(ii ai.W),(ii ai.H),(ll Iz ai.C Ke)]) J J J J J J (aeu (j:=0) GD J J)) (ro T 1 (lf T 1 J (ro T 1 (lf T 1 J (k [] J acJ Z1 (CP.c · (rO DI 0) QA) (λv3 Z1=>ro T 5 (am _ [0] (oi Z1) J J)))))))
 rintro _ x1 rfl H;refine rc T 1 ?_
 cases H;exact p0 T J [0] J
def qL.l0:Nat->(List aZ)->aJ->Int->Option Int
 |0,_,_,_=>none
 |k3+1,s,fo,x2=>if x2<(List.length s:Int) then(if(0<=x2/\x2<(List.length s:Int)) then((CO.f (rd s x2) fo).bind λv4=>if v4=true then(some x2) else(qL.l0 k3 s fo (aa (x2+1)))) else none) else(some (-1))
def qL.f (s:(List aZ)) (fo:aJ):Option Int:=qL.l0 fuel s fo 0
theorem qL.c (H:qL.f s fo=some r) (jv:aS cI s iN F) (rl:List.length s<=iR) (Cf:(BC,Obj.cells #[(ii fo.W),(ii fo.H),(ll Bt fo.C Cm)] 139 (0,0))∈F) (BO:aS (Fl.int .u8) fo.C Bt F) (BG:List.length fo.C<=Cm):
 QU 246 [(ll iN s iR),(.func (.func 222) #[] #[(pp BC)])] [] F (ii r):=by
 unfold qL.f at H;refine aB Tryz.func246 J J (λW=>rc T 14 (lq [0,1,7] [0] (λ(⟨k3,x2⟩:Nat×Int)=>(qL.l0 k3 s fo x2=some r,[(8,(ii x2))],[])) J J (fuel,0) [0] H J J ?_));rintro k3 x2 Z1;replace Z1:qL.l0 (k3+1) s fo x2=some r:=Z1;rw[qL.l0] at Z1;refine rc T 6 (cd J Z1 (λZ1=>?_) (λZ1=>?_))
 ·refine rc T 15 ?_;obtain⟨c3,Z1⟩:=az Z1;obtain⟨q1,o1,e1⟩:=jv.addr c3.1 c3.2;refine ix T J e1 c3 (bp J (fm T (cs:=[(ii (rd s x2).Cell),(ii (rd s x2).cM),(ii (rd s x2).Key)]) J J J J J J (gB (k:=cI) (rO jv 0) e1 c3 J)) (k [] J acI Z1 (CO.c · (pT Cf (j:=0) J) (rO BO 0) BG) (λv4 Z1=>ro T 2 (cb J Z1 (λZ1=>?_) (λZ1=>?_)))))
  ·refine rc T 12 ?_
   cases Z1;exact p0 T J [0] J
  refine rc T 8 (ar _ [0] Z1 J J)
 refine rc T 11 ?_
 cases Z1;exact p0 T J [0] J
def Ey.f (s:(List aZ)) (fo:aJ):Option Bool:=(qL.f s fo).bind λv1=>some (decide (v1≥0))
theorem Ey.c (H:Ey.f s fo=some r) (jv:aS cI s iN F) (rl:List.length s<=iR) (Cf:(BC,Obj.cells #[(ii fo.W),(ii fo.H),(ll Bt fo.C Cm)] 139 (0,0))∈F) (BO:aS (Fl.int .u8) fo.C Bt F) (BG:List.length fo.C<=Cm):
 QU 221 [(ll iN s iR),(.func (.func 222) #[] #[(pp BC)])] [] F (bb r):=by
 unfold Ey.f at H;refine aB Tryz.func221 J J (λW=>rc T 9 (k [] J ac0 H (qL.c · (rO jv 0) rl (pT Cf (j:=0) J) (rO BO 0) BG) (λv1 H=>ro T 5 ?_)))
 cases H;exact p0 T J [0] J
def zo.f (t:aJ) (l:(List aZ)):Option Bool:=(tq.f t).bind λv1=>if(!v1)=true then(some false) else((Ey.f l t).bind λv2=>some (!v2))
theorem zo.c (H:zo.f t l=some r) (dH:aS (Fl.int .u8) t.C iv F) (ff:List.length t.C<=iy) (dg:aS cI l iu F) (gn:List.length l<=ic):
 QU 183 [(.agg #[(ii t.W),(ii t.H),(ll iv t.C iy)]),(ll iu l ic)] [] F (bb r):=by
 unfold zo.f at H;refine aB Tryz.func183 J J (λW=>rc T 2 (nc T J (λb1=>ro T 6 (lm T 1 J (k [] J Jq H (tq.c · (rO dH 0) ff) (λv1 H=>ro T 3 (cb J H (λH=>?_) (λH=>?_))))))))
 ·refine rc T 7 ?_
  cases H;exact p0 T J [0] J
 refine rc T 6 (k [] J acH H (Ey.c · (rO dg 0) gn (yX (j:=1) J) (rO dH 0) ff) (λv2 H=>ro T 5 ?_))
 cases H;exact p0 T J [0] J
def pt.f (a:aZ) (b:aZ):Option Int:=(ss.f a.Key b.Key).bind λv1=>(ss.f a.Cell b.Cell).bind λv2=>(ss.f a.cM b.cM).bind λv3=>(mr.f [v1,v2,v3]).bind λv4=>some v4
theorem pt.c (H:pt.f a b=some r):
 QU 209 [(.agg #[(ii a.Cell),(ii a.cM),(ii a.Key)]),(.agg #[(ii b.Cell),(ii b.cM),(ii b.Key)])] [] F (ii r):=by
 unfold pt.f at H;refine aB Tryz.func209 J J (λW=>rc T 2 (nc T J (λb1=>nc T J (λb2=>ro T 4 (ks [2,3] J (fz J (rg [] [0,0,0] mix (bO bN) (λhg pf=>ha T 17 [0] sz hg pf J (av 1 sz hg pf J (aw T J J J J (aD (j:=1) J J)) (ha T 15 [2] sz hg pf J (av 3 sz hg pf J (aw T J J J J (aD (j:=2) J J)) (ha T 13 [5] sz hg pf J (av 6 sz hg pf J (aw T J J J J (aD (j:=1) J J)) (ha T 11 [7] sz hg pf J (av 8 sz hg pf J (aw T J J J J (aD (j:=2) J J)) (ha T 9 [10] sz hg pf J (av 11 sz hg pf J (aw T J J J J (aD (j:=1) J J)) (ha T 7 [12] sz hg pf J (av 13 sz hg pf J (aw T J J J J (aD (j:=2) J J)) (ao 4 (kh [] J MZ H (ss.c ·) (λv1 H=>an sz (ao 9 (kh [] J MZ H (ss.c ·) (λv2 H=>an sz (ao 14 (kh [] J MZ H (ss.c ·) (λv3 H=>an sz (ao 15 (cU (k:=(Fl.int .i64)) T [v1,v2,v3] J J J J J J J J J (λa3 H3 s3=>an (so [0,0,0]) (ao 16 (kh [] J acU H (mr.c · (oO s3 3) s3.bW) (λv4 H=>an (so [0,0,0]) (ha T 0 [17] (so [0,0,0]) hg pf J (ae (rx T 2 ?_)))))))))))))))))))))))))))))))))))))
 cases H;exact p0 T J [0] J
def Hn.f:Option Unit:=some ()
theorem Hn.c (H:Hn.f=some r):
 QU 255 [nl,(ii 0),(ii 0),(.func (.func 209) #[] #[])] [] F (.tuple #[]):=by
 unfold Hn.f at H;refine aB Tryz.func255 J J (λW=>rc T 8 (lu [0,1,2,3,8] [0] J J (rc T 8 (dW J (rc T 4 (i_ ?_))))))
 cases H;exact p0 T J [0] J
def Ht.f (Ux:Int):Option Unit:=(Hn.f).bind λv1=>some ()
theorem Ht.c (H:Ht.f Ux=some r):
 QU 234 [nl,(ii 0),(ii 0),(ii Ux),(.func (.func 209) #[] #[])] [] F (.tuple #[]):=by
 unfold Ht.f at H;refine aB Tryz.func234 J J (λW=>rc T 11 (lu [0,1,2,3,4,10,11] [0] J J (rc T 16 (mW J (rc T 6 (k [] J ac6 H (Hn.c ·) (λv1 H=>ro T 7 ?_)))))))
 cases H;exact p0 T J [0] J
def KH.f:Option Unit:=(GG.f (eF 0)).bind λv1=>(Ht.f v1).bind λv2=>some ()
theorem KH.c (H:KH.f=some r):
 QU 208 [nl,(.func (.func 209) #[] #[])] [] F (.tuple #[]):=by
 unfold KH.f at H;refine aB Tryz.func208 J J (λW=>rc T 12 (k [] J acT H (GG.c ·) (λv1 H=>ro T 1 (k [] J acS H (Ht.c ·) (λv2 H=>ro T 1 (i_ ?_))))))
 cases H;exact p0 T J [0] J
def AW.f (s:(List aZ)):Option (List aZ):=if List.length s<4611686018427387904 then some (py (λa b=>Option.getD (pt.f a b) 0) s) else none
def AW.R (ai8:Option Addr) (ajd:Nat) (ajb:Nat) (r:List aZ) (u:Value) (G:List Hp):Prop:= ∃(H0:Hp),aj cI 285 r ai8 ajd H0/\List.length r=ajb/\u=(.tuple #[])/\G=[H0]
theorem QL (x y:Int):ss.f x y=some (if x<y then-1 else if x>y then 1 else 0):=by
 simp[ss.f,cmp_isNaN_int.f];split
 ·rfl
 ·split<;>rfl
theorem QM (a b c:Int):mr.f [a,b,c]=some (if a=0 then(if b=0 then c else b) else a):=by
 have e1:aa (0+1)=1:=by decide
 have e2:aa (1+1)=2:=by decide
 have e3:aa (2+1)=3:=by decide
 unfold mr.f;rw[cH,mr.l0]
 by_cases ha:a=0
 ·subst ha;simp only[List.length_cons,List.length_nil,rd,e1];rw[mr.l0]
  by_cases hb:b=0
  ·subst hb;simp only[List.length_cons,List.length_nil,rd,e2];rw[mr.l0]
   by_cases hc:c=0
   ·subst hc;simp only[List.length_cons,List.length_nil,rd,e3];rw[mr.l0];simp
   ·simp[rd,hc]
  ·simp[rd,hb]
 ·simp[rd,ha]
theorem ah2 (a b:aZ): ∃v,pt.f a b=some v:=by
 unfold pt.f;simp only[QL,QM,Option.bind_some];exact⟨_,J⟩
theorem ah0 (a b:aZ):pt.f a b=some (Option.getD (pt.f a b) 0):=by
 obtain⟨v,h⟩:=ah2 a b;rw[h];rfl
theorem ahZ (a b:aZ):Option.getD (pt.f a b) 0=(if(if a.Key<b.Key then(-1:Int) else if a.Key>b.Key then 1 else 0)=0 then(if(if a.Cell<b.Cell then(-1:Int) else if a.Cell>b.Cell then 1 else 0)=0 then(if a.cM<b.cM then(-1:Int) else if a.cM>b.cM then 1 else 0) else(if a.Cell<b.Cell then(-1:Int) else if a.Cell>b.Cell then 1 else 0)) else(if a.Key<b.Key then(-1:Int) else if a.Key>b.Key then 1 else 0)):=by
 unfold pt.f;simp only[QL,QM,Option.bind_some,Option.getD_some]
theorem OY (a b:aZ):Go.Proofs.ltOf (λa b=>Option.getD (pt.f a b) 0) a b=decide (a.Key<b.Key∨a.Key=b.Key/\(a.Cell<b.Cell∨a.Cell=b.Cell/\a.cM<b.cM)):=by
 unfold Go.Proofs.ltOf;simp only[ahZ]
 congr 1
 apply propext;constructor
 ·intro h
  by_cases k1:a.Key<b.Key
  ·exact .inl k1
  ·by_cases k2:a.Key>b.Key
   ·simp[k1,k2] at h
   ·by_cases c1:a.Cell<b.Cell
    ·exact .inr ⟨by omega,.inl c1⟩
    ·by_cases c2:a.Cell>b.Cell
     ·simp[k1,k2,c1,c2] at h
     ·by_cases s1:a.cM<b.cM
      ·exact .inr ⟨by omega,.inr ⟨by omega,s1⟩⟩
      ·by_cases s2:a.cM>b.cM
       ·simp[k1,k2,c1,c2,s1,s2] at h
       ·simp[k1,k2,c1,c2,s1,s2] at h
 ·intro h
  by_cases k1:a.Key<b.Key
  ·simp[k1]
  ·by_cases k2:a.Key>b.Key
   ·exfalso;omega
   ·by_cases c1:a.Cell<b.Cell
    ·simp[k1,k2,c1]
    ·by_cases c2:a.Cell>b.Cell
     ·exfalso;omega
     ·have s1:a.cM<b.cM:=U;simp[k1,k2,c1,c2,s1]
theorem ah1:Go.Sort.SWO (Go.Proofs.ltOf (λa b=>Option.getD (pt.f a b) 0)) where
 irrefl x:=by rw[OY];simp
 trans x y z h1 h2:=by rw[OY] at*;simp only[decide_eq_true_eq] at*;omega
 ntrans x y z h1 h2:=by rw[OY] at*;simp only[decide_eq_false_iff_not] at*;omega
theorem aim: ∀w,(isAgg 285).run Tryz.prog w= .ok true w:=λw=>by kernel_rfl
theorem aip: ∀w,(Go.sizeOf 285).run Tryz.prog w= .ok 3 w:=λw=>by kernel_rfl
theorem AW.c {iN:Option Addr} {iR:Nat} {dr:Hp} {s r:List aZ} {F:Hp} (H:AW.f s=some r) (cF:aj cI 285 s iN iR dr):
 QR 208 [(ll iN s iR),(.func (.func 209) #[] #[])] [dr] [] F (AW.R iN iR (List.length s) r):=by
 obtain⟨hl,H⟩:=az H;obtain rfl:=Option.some.inj H;exact aiq Go.Proofs.Tryz.ain cI aim aip (λa b=>Option.getD (pt.f a b) 0) ah1 209 (Go.Proofs.enters_of Tryz.func209 ay J) (λx y F=>pt.c (F:=F) (ah0 x y)) 285 (λF=>KH.c (r:=()) (F:=F) ay) s F hl cF
def mJ.f (l:(List aZ)):Option (List aZ):=(rP.f l).bind λv1=>(AW.f v1).bind λv2=>(jD.f v2).bind λv3=>some v3
def mJ.R (r:(List aZ)) (u:Value) (G:List Hp):Prop:= ∃(a0:Option Addr) (n0:Nat) (H0:Hp),aj cI 285 r a0 n0 H0/\u=(ll a0 r n0)/\G=[H0]
theorem mJ.c (H:mJ.f l=some r) (dg:aS cI l iu F) (gn:List.length l<=ic):
 QR 180 [(ll iu l ic)] [] [] F (mJ.R r):=by
 unfold mJ.f at H;refine aB Tryz.func180 J J (λW=>rc T 8 (kr rP.R [] [] J Sz H (rP.c · (rO dg 0) gn) (λv1 H=>?_)));rintro _ _ ⟨a1,n1,H1,s1,rfl,rfl⟩;refine fz J (ro T 6 (kr (AW.R a1 n1 (List.length v1)) [] [1] J acA H (AW.c · s1) (λv2 H=>?_)));rintro _ _ ⟨H2,s2,l2,rfl,rfl⟩;refine fz J (kf [] [0,0] [(0,(ll a1 v2 n1))] J J ⟨(by first |rfl |(simp only[ll,l2];rfl)),trivial⟩ (ro T 5 ?_))
 refine kr jD.R [] [1] J acB H (jD.c · s2) (λv3 H=>?_);rintro _ _ ⟨a3,n3,H3,s3,rfl,rfl⟩;refine fz J (ro T 2 (ks [2] J (rx T 2 ?_)))
 cases H;exact p1 T J [1,0] ⟨a3,n3,H3,s3,J,J⟩ J
def AU.f (a:(List aZ)) (b:(List aZ)):Option Bool:=(qK.f a b).bind λv1=>some v1
theorem AU.c (H:AU.f a b=some r) (DH:aS cI a E5 F) (LU:List.length a<=GQ) (hJ:aS cI b jV F) (gm:List.length b<=jK):
 QU 185 [(ll E5 a GQ),(ll jV b jK)] [] F (bb r):=by
 unfold AU.f at H;refine aB Tryz.func185 J J (λW=>rc T 9 (k [] J acL H (qK.c · (rO DH 0) LU (rO hJ 0) gm) (λv1 H=>ro T 4 ?_)))
 cases H;exact p0 T J [0] J
def kA.l0:Nat->(List aZ)->Int->Int->Int->Bool->Int->Option Int
 |0,_,_,_,_,_,_=>none
 |k7+1,l,cell,side,x4,x5,x6=>if x6<(List.length l:Int) then(if(0<=x6/\x6<(List.length l:Int)) then((if((rd l x6).Cell==cell)=true then(if((rd l x6).cM==side)=true then(if(!x5)=true then(some true) else(some (decide ((rd l x6).Key<x4)))) else(some false)) else(some false)).bind λx8=>if x8=true then(kA.l0 k7 l cell side ((rd l x6).Key) true (aa (x6+1))) else(kA.l0 k7 l cell side x4 x5 (aa (x6+1)))) else none) else(some x4)
def kA.f (l:(List aZ)) (cell:Int) (side:Int):Option Int:=kA.l0 fuel l cell side 1099511627776 false 0
theorem kA.c (H:kA.f l cell side=some r) (dg:aS cI l iu F) (gn:List.length l<=ic):
 QU 250 [(ll iu l ic),(ii cell),(ii side)] [] F (ii r):=by
 unfold kA.f at H;refine aB Tryz.func250 J J (λW=>rc T 20 (lq [1,2,11,12] [0] (λ(⟨k7,x4,x5,x6⟩:Nat×Int×Bool×Int)=>(kA.l0 k7 l cell side x4 x5 x6=some r,[(7,(ii x4)),(8,(bb x5)),(13,(ii x6))],[])) J J (fuel,1099511627776,false,0) [0] H J J ?_));rintro k7 ⟨x4,x5,x6⟩ Z1;replace Z1:kA.l0 (k7+1) l cell side x4 x5 x6=some r:=Z1;rw[kA.l0] at Z1;refine rc T 6 (cd J Z1 (λZ1=>?_) (λZ1=>?_))
 ·refine rc T 6 ?_;obtain⟨c3,Z1⟩:=az Z1;obtain⟨q1,o1,e1⟩:=dg.addr c3.1 c3.2;refine ix T J e1 c3 (bp J (fm T (cs:=[(ii (rd l x6).Cell),(ii (rd l x6).cM),(ii (rd l x6).Key)]) J J J J J J (gB (k:=cI) (rO dg 0) e1 c3 J)) (nc T J (λb2=>sg T 1 J (ro T 2 (mq Z1 [1,2,7,8,10,11,12,13] [0,0] (λz9 (x8:Bool)=>(x8=z9,[(36,(bb x8))],[])) J J (λz9 Z4 _=>?_) ?_)))))
  ·refine rc T 2 (lf T 1 J (ro T 3 (ab 21 J Z4 (λZ4=>?_) (λZ4=>?_))))
   ·refine ro T 1 (lf T 1 J (ro T 4 (ab 27 J Z4 (λZ4=>?_) (λZ4=>?_))))
    ·refine ro T 3 (ab 30 J Z4 (λZ4=>?_) (λZ4=>?_))
     ·refine ro T 8 (am _ [0,0] (oi Z4) J J)
     refine ro T 1 (lf T 1 J (ro T 6 (am _ [0,0] (oi Z4) J J)))
    refine ro T 11 (am _ [0,0] (oi Z4) J J)
   refine ro T 17 (am _ [0,0] (oi Z4) J J)
  rintro _ x8 rfl Z1;refine cb J Z1 (λZ1=>?_) (λZ1=>?_)
  ·refine rc T 2 (lf T 1 J (ro T 10 (ar (_,_,_) [0] Z1 J J)))
  refine rc T 8 (ar (_,_,_) [0] Z1 J J)
 refine rc T 12 ?_
 cases Z1;exact p0 T J [0] J
end
noncomputable section
def jR.l0:Nat->df->eB->List aZ->Option df
 |0,_,_,_=>none
 |yS+1,s,x9,aM=>(if(List.length aM:Int)>0 then(if(0<=(0:Int)/\(0:Int)<(List.length aM:Int)) then((sV.f x9 ((rd aM 0).Key) ((rd aM 0).Cell)).bind λdi=>some (di.2,di.1)) else none) else(some (x9,false))).bind λ(bq,aT)=>if aT=true then(if(0<=(1:Int)/\(1:Int)<=(List.length aM:Int)/\(List.length aM:Int)<=(List.length aM:Int)) then(jR.l0 yS s bq (aA aM 1 (List.length aM:Int))) else none) else(some (df.mk s.t bq aM s.aQ))
def jR.f (s:df):Option df:=((if(List.length s.todo:Int)>0 then((vJ.f s.wait).bind λv5=>some (v5==0)) else(some false)).bind λx3=>if x3=true then(if(0<=(0:Int)/\(0:Int)<(List.length s.todo:Int)) then((xy.f s.wait ((rd s.todo 0).Key)).bind λv6=>some v6.2) else none) else(some s.wait)).bind λx1=>jR.l0 fuel s x1 s.todo
def jR.R (bd:Nat) (y0:Value) (BF:List aZ) (BD:Option Addr) (BE:Nat) (r:df) (u:Value) (G:List Hp):Prop:= ∃(b0:Nat) (H0:Hp) (a1:Option Addr) (n1:Nat) (a2:Option Addr) (n2:Nat) (H2:Hp),j_ r.wait b0 H0/\dq cI BF BD BE r.todo a1 n1/\List.length r.todo<=n1/\aj (Fl.int .i64) 3 r.aQ a2 n2 H2/\u=(.tuple #[])/\G=[(cl bd 369 [(ii r.t.W),(ii r.t.H),y0,(pp b0),(ll a1 r.todo n1),(ll a2 r.aQ n2)]),H0,H2]
theorem jR.c (H:jR.f s=some r) (pQ:aS (Fl.int .u8) s.t.C kc F) (tJ:List.length s.t.C<=ky) (vR:j_ s.wait oI zL) (oW:aS cI s.todo mo F) (jt:List.length s.todo<=mD) (tf:aj (Fl.int .i64) 3 s.aQ uI vw wu):
 QR 273 [(pp bd)] [(cl bd 369 [(ii s.t.W),(ii s.t.H),(ll kc s.t.C ky),(pp oI),(ll mo s.todo mD),(ll uI s.aQ vw)]),zL,wu] [] F (jR.R bd (ll kc s.t.C ky) s.todo mo mD r):=by
 unfold jR.f at H;refine aB Tryz.func273 J J (λW=>mq H [0] [3,0,1] (λz2 (⟨x1,H4⟩:eB×Hp)=>(x1=z2/\j_ x1 oI H4,[],[H4])) J J (λz2 Z1 _=>?_) ?_)
 ·refine mq Z1 [0] [3,0,0,0] (λz4 (x3:Bool)=>(x3=z4,[(15,(bb x3))],[])) J J (λz4 Z2 _=>?_) ?_
  ·refine rc T 4 (lf T 0 J (ro T 3 (ad 8 J Z2 (λZ2=>?_) (λZ2=>?_))))
   ·refine ro T 3 (lf T 0 J (k [1] J M5 Z2 (vJ.c · vR) (λv5 Z2=>ro T 4 (am _ [3,0,0,0] (oi Z2) J J))))
   refine ro T 9 (am _ [3,0,0,0] (oi Z2) J J)
  rintro _ x3 rfl Z1;refine cb J Z1 (λZ1=>?_) (λZ1=>?_)
  ·refine fz J (rz [11] mix (bO bN) (λhg pf=>ha T 9 [0,1,2] sz hg pf J (av 3 sz hg pf J (aw T J J J J (aD (j:=1) J J)) (ha T 5 [4,5,6] sz hg pf J (av 7 sz hg pf J (aw T J J J J (aD (j:=1) J J)) ?_)))));obtain⟨c6,Z1⟩:=az Z1;obtain⟨q5,o5,e5⟩:=oW.addr c6.1 c6.2;refine av 8 sz hg pf J (cB T J J J J J e5 c6.1 c6.2) (ha T 2 [9] sz hg pf J (av 10 sz hg pf J (aw T J J J J (gM (k:=cI) (rO oW 0) e5 c6 2 J)) (ao 11 (kR (xy.R oI) [] [2] J adl Z1 (xy.c · vR) (λv6 Z1=>?_)))));rintro _ _ ⟨H6,s6,rfl,rfl⟩;refine fz J (an sl (ae (rx T 1 (am (_,_) [0,0,0,0] ⟨oi Z1,s6⟩ J J))))
  refine rc T 2 (am (_,_) [0,0,1,0] ⟨oi Z1,vR⟩ J J)
 rintro _ ⟨x1,H4⟩ ⟨rfl,s4⟩ H;refine rc T 1 (lq [0] [0,1] (λ(⟨yS,x9,aM,H9,cw,n10⟩:Nat×eB×List aZ×Hp×Option Addr×Nat)=>(jR.l0 yS s x9 aM=some r/\j_ x9 oI H9/\dq cI s.todo mo mD aM cw n10/\List.length aM<=n10,[],[(cl bd 369 [(ii s.t.W),(ii s.t.H),(ll kc s.t.C ky),(pp oI),(ll cw aM n10),(ll uI s.aQ vw)]),H9])) J J (fuel,x1,s.todo,H4,mo,mD) [0,1,0,0] ⟨H,s4,dq.self,jt⟩ J J ?_);rintro yS ⟨x9,aM,H9,cw,n10⟩ ⟨Z8,s9,Bx,Fo⟩;rw[jR.l0] at Z8;refine rc T 1 (mq Z8 [0] [0,1,0] (λHZ (⟨bq,aT,cA⟩:eB×Bool×Hp)=>((bq,aT)=HZ/\j_ bq oI cA,[(54,(bb aT))],[cA])) J J (λHZ Z9 _=>?_) ?_)
 ·refine fz J (rz [25] mix (bO bN) (λhg pf=>ha T 24 [0,1,2] sz hg pf J (av 3 sz hg pf J (aw T J J J J (aD (j:=2) J J)) (ha T 20 [4,5,6] sz hg pf J (ad 34 J Z9 (λZ9=>?_) (λZ9=>?_))))))
  ·refine ha T 17 [7,8,9] sz hg pf J (av 10 sz hg pf J (aw T J J J J (aD (j:=2) J J)) (ha T 13 [11,12,13] sz hg pf J (av 14 sz hg pf J (aw T J J J J (aD (j:=2) J J)) ?_)));obtain⟨dZ,Z9⟩:=az Z9;obtain⟨vC,Om,sv⟩:=(dq.r Bx oW jt).addr dZ.1 dZ.2;refine av 15 sz hg pf J (cB T J J J J J sv dZ.1 dZ.2) (ha T 10 [16] sz hg pf J (av 17 sz hg pf J (aw T J J J J (gM (k:=cI) (nY Bx (rO oW 0) jt) sv dZ 2 J)) (ha T 6 [18,19,20] sz hg pf J (av 21 sz hg pf J (aw T J J J J (aD (j:=2) J J)) (av 22 sz hg pf J (cB T J J J J J sv dZ.1 dZ.2) (ha T 3 [23] sz hg pf J (av 24 sz hg pf J (aw T J J J J (gM (k:=cI) (nY Bx (rO oW 0) jt) sv dZ 0 J)) (ao 25 (kR (sV.R oI) [] [3] J SV Z9 (sV.c · s9) (λdi Z9=>?_))))))))));rintro _ _ ⟨eo,dh,rfl,rfl⟩;refine fz J (an sl (hb T 26 sl hg pf J (ae (rx T 1 (am (_,_,_) [0,1,0,0] ⟨oi Z9,dh⟩ J J)))))
  refine ha T 2 [7,8,9,10,11,12,13,14,15,16,17,18,19,20,21,22,23,24] sz hg pf J (ao 25 (Y4 J (an sl (hb T 26 sl hg pf J (ae (rx T 1 (am (_,_,_) [0,1,0,0] ⟨oi Z9,s9⟩ J J)))))))
 rintro _ ⟨bq,aT,cA⟩ ⟨rfl,cS⟩ Z8;refine cb J Z8 (λZ8=>?_) (λZ8=>?_)
 ·refine rc T 8 (lf T 1 J ?_);obtain⟨oJ,Z8⟩:=az Z8;refine bp J (kn T J J J J J J oJ Fo) (ro T 2 (sg T 1 J (ro T 3 (ar (_,_,_,_,_) [0,1,0,0] ⟨Z8,cS,(dq.sub Bx jt oJ),(mh oJ Fo)⟩ J J))))
 refine rc T 4 (i_ ?_)
 cases Z8;exact p1 T J [1,2,1,0] ⟨oI,cA,cw,n10,uI,vw,wu,cS,Bx,Fo,tf,J,J⟩ J
def kC.f (s:df) (ai:Int) (key:Int):Option df:=(if(0<=ai/\ai<(List.length s.t.C:Int)) then(if((rd s.t.C ai)!=255)=true then(if(0<=ai/\ai<(List.length s.aQ:Int)) then(some ((rd s.aQ ai)==1099511627776)) else none) else(some false)) else none).bind λx1=>if x1=true then((sV.f s.wait key ai).bind λv3=>some (df.mk s.t v3.2 s.todo s.aQ)) else(some s)
def kC.R (bd:Nat) (y0:Value) (BF:List aZ) (BD:Option Addr) (BE:Nat) (r:df) (u:Value) (G:List Hp):Prop:= ∃(b0:Nat) (H0:Hp) (a1:Option Addr) (n1:Nat) (a2:Option Addr) (n2:Nat) (H2:Hp),j_ r.wait b0 H0/\dq cI BF BD BE r.todo a1 n1/\List.length r.todo<=n1/\aj (Fl.int .i64) 3 r.aQ a2 n2 H2/\u=(.tuple #[])/\G=[(cl bd 369 [(ii r.t.W),(ii r.t.H),y0,(pp b0),(ll a1 r.todo n1),(ll a2 r.aQ n2)]),H0,H2]
theorem kC.c (H:kC.f s ai key=some r) (pQ:aS (Fl.int .u8) s.t.C kc F) (tJ:List.length s.t.C<=ky) (vR:j_ s.wait oI zL) (oW:aS cI s.todo mo F) (jt:List.length s.todo<=mD) (tf:aj (Fl.int .i64) 3 s.aQ uI vw wu):
 QR 294 [(pp bd),(ii ai),(ii key)] [(cl bd 369 [(ii s.t.W),(ii s.t.H),(ll kc s.t.C ky),(pp oI),(ll mo s.todo mD),(ll uI s.aQ vw)]),zL,wu] [] F (kC.R bd (ll kc s.t.C ky) s.todo mo mD r):=by
 unfold kC.f at H;refine aB Tryz.func294 J J (λW=>mq H [0,1,2] [3,0,0,0] (λz2 (x1:Bool)=>(x1=z2,[(24,(bb x1))],[])) J J (λz2 Z1 _=>?_) ?_)
 ·refine rc T 5 (lf T 0 J (ro T 1 ?_));obtain⟨c2,Z1⟩:=az Z1;obtain⟨q4,o4,e4⟩:=pQ.addr c2.1 c2.2;refine ix T J e4 c2 (le T 0 (rO pQ 3) e4 c2 J J (ro T 2 (ab 15 J Z1 (λZ1=>?_) (λZ1=>?_))))
  ·refine ro T 3 (lf T 0 J (ro T 1 ?_));obtain⟨c4,Z1⟩:=az Z1;obtain⟨q5,o5,e5⟩:=tf.r.addr c4.1 c4.2;refine ix T J e5 c4 (le T 0 (oO tf 2) e5 c4 J J (ro T 4 (am _ [3,0,0,0] (oi Z1) J J)))
  refine ro T 11 (am _ [3,0,0,0] (oi Z1) J J)
 rintro _ x1 rfl H;refine cb J H (λH=>?_) (λH=>?_)
 ·refine rc T 4 (lf T 1 J (ro T 2 (kr (sV.R oI) [] [2] J SV H (sV.c · vR) (λv3 H=>?_))));rintro _ _ ⟨H6,s6,rfl,rfl⟩;refine fz J (ro T 1 (i_ ?_))
  cases H;exact p1 T J [1,2,1,0] ⟨oI,H6,mo,mD,uI,vw,wu,s6,dq.self,jt,tf,J,J⟩ J
 refine rc T 1 (i_ ?_)
 cases H;exact p1 T J [1,1,1,0] ⟨oI,zL,mo,mD,uI,vw,wu,vR,dq.self,jt,tf,J,J⟩ J
def xN.f (s:df) (ai:Int):Option df:=if(0<=ai/\ai<(List.length s.aQ:Int)) then(if(0<=ai/\ai<(List.length s.t.C:Int)) then(if(¬s.t.W=0) then(if(¬s.t.W=0) then((if(aa (Int.tdiv ai s.t.W))>0 then((kC.f s (aa (ai-s.t.W)) (aa ((rd s.aQ ai)+(aa (rd s.t.C ai))))).bind λv7=>some (v7.t.W,v7.t.H,v7.wait,v7.todo,v7.aQ)) else(some (s.t.W,s.t.H,s.wait,s.todo,s.aQ))).bind λ(x1,x2,x3,x4,x5)=>(if(Int.tmod ai s.t.W)<(aa (x1-1)) then((kC.f (df.mk (aJ.mk x1 x2 s.t.C) x3 x4 x5) (aa (ai+1)) (aa ((rd s.aQ ai)+(aa (rd s.t.C ai))))).bind λbZ=>some (bZ.t.W,bZ.t.H,bZ.wait,bZ.todo,bZ.aQ)) else(some (x1,x2,x3,x4,x5))).bind λ(x8,x9,aM,bf,bq)=>if(aa (Int.tdiv ai s.t.W))<(aa (x9-1)) then((kC.f (df.mk (aJ.mk x8 x9 s.t.C) aM bf bq) (aa (ai+x8)) (aa ((rd s.aQ ai)+(aa (rd s.t.C ai))))).bind λdi=>if(Int.tmod ai s.t.W)>0 then((kC.f (df.mk (aJ.mk di.t.W di.t.H s.t.C) di.wait di.todo di.aQ) (aa (ai-1)) (aa ((rd s.aQ ai)+(aa (rd s.t.C ai))))).bind λdU=>some (df.mk (aJ.mk dU.t.W dU.t.H s.t.C) dU.wait dU.todo dU.aQ)) else(some (df.mk (aJ.mk di.t.W di.t.H s.t.C) di.wait di.todo di.aQ))) else(if(Int.tmod ai s.t.W)>0 then((kC.f (df.mk (aJ.mk x8 x9 s.t.C) aM bf bq) (aa (ai-1)) (aa ((rd s.aQ ai)+(aa (rd s.t.C ai))))).bind λv17=>some (df.mk (aJ.mk v17.t.W v17.t.H s.t.C) v17.wait v17.todo v17.aQ)) else(some (df.mk (aJ.mk x8 x9 s.t.C) aM bf bq)))) else none) else none) else none) else none
def xN.R (bd:Nat) (y0:Value) (BF:List aZ) (BD:Option Addr) (BE:Nat) (r:df) (u:Value) (G:List Hp):Prop:= ∃(b0:Nat) (H0:Hp) (a1:Option Addr) (n1:Nat) (a2:Option Addr) (n2:Nat) (H2:Hp),j_ r.wait b0 H0/\dq cI BF BD BE r.todo a1 n1/\List.length r.todo<=n1/\aj (Fl.int .i64) 3 r.aQ a2 n2 H2/\u=(.tuple #[])/\G=[(cl bd 369 [(ii r.t.W),(ii r.t.H),y0,(pp b0),(ll a1 r.todo n1),(ll a2 r.aQ n2)]),H0,H2]
theorem xN.c (H:xN.f s ai=some r) (pQ:aS (Fl.int .u8) s.t.C kc F) (tJ:List.length s.t.C<=ky) (vR:j_ s.wait oI zL) (oW:aS cI s.todo mo F) (jt:List.length s.todo<=mD) (tf:aj (Fl.int .i64) 3 s.aQ uI vw wu):
 QR 276 [(pp bd),(ii ai)] [(cl bd 369 [(ii s.t.W),(ii s.t.H),(ll kc s.t.C ky),(pp oI),(ll mo s.todo mD),(ll uI s.aQ vw)]),zL,wu] [] F (xN.R bd (ll kc s.t.C ky) s.todo mo mD r):=by
 unfold xN.f at H;refine aB Tryz.func276 J J (λW=>rc T 1 (dj mix ay (au T J (au T J (au T J (aN J J J (aw T J J J J (aD (j:=0) J J)) (au T J ?_)))))));obtain⟨c1,H⟩:=az H;obtain⟨q4,o4,e4⟩:=tf.r.addr c1.1 c1.2;refine aN J J J (cB T J J J J J e4 c1.1 c1.2) (aN J J J (aw T J J J J (gM (k:=(Fl.int .i64)) (oO tf 2) e4 c1 0 J)) ?_)
 iterate 4 refine au T J ?_
 refine aN J J J (aw T J J J J (aD (j:=0) J J)) (au T J ?_);obtain⟨c2,H⟩:=az H;obtain⟨q5,o5,e5⟩:=pQ.addr c2.1 c2.2;refine aN J J J (cB T J J J J J e5 c2.1 c2.2) (aN J J J (aw T J J J J (gM (k:=(Fl.int .u8)) (rO pQ 3) e5 c2 0 J)) (au T J (au T J (au T J (cR (rx T 2 (dj mix ay ?_)))))))
 iterate 5 refine au T J ?_
 refine aN J J J (aw T J J J J (aD (j:=0) J J)) ?_;obtain⟨c3,H⟩:=az H;refine aN J J J (uZ J J J c3) ?_
 iterate 5 refine au T J ?_
 refine aN J J J (aw T J J J J (aD (j:=0) J J)) ?_;obtain⟨c4,H⟩:=az H;refine aN J J J (uY J J J c4) (au T J (au T J (cR (rx T 1 (mq H [0,1,4,5,6] [3] (λz6 (⟨x1,x2,x3,x4,x5,b6,H6,a7,n7,a8,n8,H8⟩:Int×Int×eB×List aZ×List Int×Nat×Hp×Option Addr×Nat×Option Addr×Nat×Hp)=>((x1,x2,x3,x4,x5)=z6/\j_ x3 b6 H6/\dq cI s.todo mo mD x4 a7 n7/\List.length x4<=n7/\aj (Fl.int .i64) 3 x5 a8 n8 H8,[],[(cl bd 369 [(ii x1),(ii x2),(ll kc s.t.C ky),(pp b6),(ll a7 x4 n7),(ll a8 x5 n8)]),H6,H8])) J J (λz6 Z5 _=>?_) ?_)))))
 ·refine rc T 6 (cd J Z5 (λZ5=>?_) (λZ5=>?_))
  ·refine rc T 7 (lf T 0 J (ro T 2 (kr (kC.R bd (ll kc s.t.C ky) s.todo mo mD) [] [0,0,0] J FR Z5 (kC.c · (rO pQ 0) tJ vR (rO oW 0) jt tf) (λv7 Z5=>?_))));rintro _ _ ⟨b9,H9,cw,n10,dt,n11,cA,s9,Bx,Fo,cS,rfl,rfl⟩;refine fz J (ro T 2 (am (_,_,_,_,_,_,_,_,_,_,_,_) [0,0,0,0] ⟨oi Z5,s9,Bx,Fo,cS⟩ J J))
  refine rc T 2 (am (_,_,_,_,_,_,_,_,_,_,_,_) [3,0,0,0] ⟨oi Z5,vR,dq.self,jt,tf⟩ J J)
 rintro _ ⟨x1,x2,x3,x4,x5,b6,H6,a7,n7,a8,n8,H8⟩ ⟨rfl,s6,LK,Qz,s8⟩ H;refine mq H [0,1,4,5,6] [0] (λHY (⟨x8,x9,aM,bf,bq,ki,dw,dy,n13,iC,n14,fx⟩:Int×Int×eB×List aZ×List Int×Nat×Hp×Option Addr×Nat×Option Addr×Nat×Hp)=>((x8,x9,aM,bf,bq)=HY/\j_ aM ki dw/\dq cI s.todo mo mD bf dy n13/\List.length bf<=n13/\aj (Fl.int .i64) 3 bq iC n14 fx,[],[(cl bd 369 [(ii x8),(ii x9),(ll kc s.t.C ky),(pp ki),(ll dy bf n13),(ll iC bq n14)]),dw,fx])) J J (λHY Z8 _=>?_) ?_
 ·refine rc T 7 (lf T 1 J (ro T 4 (cd J Z8 (λZ8=>?_) (λZ8=>?_))))
  ·refine rc T 5 (kr (kC.R bd (ll kc s.t.C ky) x4 a7 n7) [] [1,1,1] J FR Z8 (kC.c (s:=(df.mk (aJ.mk x1 x2 s.t.C) x3 x4 x5)) · (rO pQ 0) tJ s6 (nY LK (rO oW 0) jt) Qz s8) (λbZ Z8=>?_));rintro _ _ ⟨mX,dF,jU,n16,a17,n17,dV,dK,Zh,ZC,fh,rfl,rfl⟩;refine fz J (ro T 2 (am (_,_,_,_,_,_,_,_,_,_,_,_) [0,0,0,0] ⟨oi Z8,dK,(dq.trans LK jt Zh),ZC,fh⟩ J J))
  refine rc T 2 (am (_,_,_,_,_,_,_,_,_,_,_,_) [0,0,0,0] ⟨oi Z8,s6,LK,Qz,s8⟩ J J)
 rintro _ ⟨x8,x9,aM,bf,bq,ki,dw,dy,n13,iC,n14,fx⟩ ⟨rfl,dD,Bz,IM,dO⟩ H;refine rc T 8 (lf T 1 J (ro T 4 (cd J H (λH=>?_) (λH=>?_))))
 ·refine rc T 7 (lf T 1 J (ro T 2 (kr (kC.R bd (ll kc s.t.C ky) bf dy n13) [] [1,1,1] J FR H (kC.c (s:=(df.mk (aJ.mk x8 x9 s.t.C) aM bf bq)) · (rO pQ 0) tJ dD (nY Bz (rO oW 0) jt) IM dO) (λdi H=>?_))));rintro _ _ ⟨qm,fb,l9,n19,a20,n20,nS,fq,LI,Qv,lT,rfl,rfl⟩;refine fz J (ro T 8 (cd J H (λH=>?_) (λH=>?_)))
  ·refine rc T 5 (kr (kC.R bd (ll kc s.t.C ky) di.todo l9 n19) [] [1,1,1] J FR H (kC.c (s:=(df.mk (aJ.mk di.t.W di.t.H s.t.C) di.wait di.todo di.aQ)) · (rO pQ 0) tJ fq (nY LI (nY Bz (rO oW 0) jt) IM) Qv lT) (λdU H=>?_));rintro _ _ ⟨BB,lj,a22,n22,a23,n23,jF,jO,Zk,ZF,gR,rfl,rfl⟩;refine fz J (ro T 1 (i_ ?_))
   cases H;exact p1 T J [1,1,1,0] ⟨BB,lj,a22,n22,a23,n23,jF,jO,(dq.trans (dq.trans Bz jt LI) jt Zk),ZF,gR,J,J⟩ J
  refine rc T 1 (i_ ?_)
  cases H;exact p1 T J [1,1,1,0] ⟨qm,fb,l9,n19,a20,n20,nS,fq,(dq.trans Bz jt LI),Qv,lT,J,J⟩ J
 refine rc T 8 (cd J H (λH=>?_) (λH=>?_))
 ·refine rc T 5 (kr (kC.R bd (ll kc s.t.C ky) bf dy n13) [] [1,1,1] J FR H (kC.c (s:=(df.mk (aJ.mk x8 x9 s.t.C) aM bf bq)) · (rO pQ 0) tJ dD (nY Bz (rO oW 0) jt) IM dO) (λv17 H=>?_));rintro _ _ ⟨Fi,qX,a25,n25,a26,n26,oB,lU,Zm,ZH,nF,rfl,rfl⟩;refine fz J (ro T 1 (i_ ?_))
  cases H;exact p1 T J [1,1,1,0] ⟨Fi,qX,a25,n25,a26,n26,oB,lU,(dq.trans Bz jt Zm),ZH,nF,J,J⟩ J
 refine rc T 1 (i_ ?_)
 cases H;exact p1 T J [1,1,1,0] ⟨ki,dw,dy,n13,iC,n14,fx,dD,Bz,IM,dO,J,J⟩ J
def nL.l0:Nat->df->Int->Int->eB->List aZ->List Int->Option df
 |0,_,_,_,_,_,_=>none
 |Gn+1,s,x7,x8,x9,aM,bf=>(vJ.f x9).bind λgT=>if gT>0 then((ot.f x9).bind λbZ=>if(0<=bZ.2.1/\bZ.2.1<(List.length bf:Int)) then(if((rd bf bZ.2.1)==1099511627776)=true then((xN.f (df.mk (aJ.mk x7 x8 s.t.C) bZ.2.2.2 aM (List.set bf (Int.toNat bZ.2.1) bZ.1)) bZ.2.1).bind λdi=>(jR.f (df.mk (aJ.mk di.t.W di.t.H s.t.C) di.wait di.todo di.aQ)).bind λdU=>nL.l0 Gn s dU.t.W dU.t.H dU.wait dU.todo dU.aQ) else((jR.f (df.mk (aJ.mk x7 x8 s.t.C) bZ.2.2.2 aM bf)).bind λv17=>nL.l0 Gn s v17.t.W v17.t.H v17.wait v17.todo v17.aQ)) else none) else(some (df.mk (aJ.mk x7 x8 s.t.C) x9 aM bf))
def nL.f (s:df):Option df:=(jR.f s).bind λv1=>nL.l0 fuel s v1.t.W v1.t.H v1.wait v1.todo v1.aQ
def nL.R (bd:Nat) (y0:Value) (BF:List aZ) (BD:Option Addr) (BE:Nat) (r:df) (u:Value) (G:List Hp):Prop:= ∃(b0:Nat) (H0:Hp) (a1:Option Addr) (n1:Nat) (a2:Option Addr) (n2:Nat) (H2:Hp),j_ r.wait b0 H0/\dq cI BF BD BE r.todo a1 n1/\List.length r.todo<=n1/\aj (Fl.int .i64) 3 r.aQ a2 n2 H2/\u=(.tuple #[])/\G=[(cl bd 369 [(ii r.t.W),(ii r.t.H),y0,(pp b0),(ll a1 r.todo n1),(ll a2 r.aQ n2)]),H0,H2]
theorem nL.c (H:nL.f s=some r) (pQ:aS (Fl.int .u8) s.t.C kc F) (tJ:List.length s.t.C<=ky) (vR:j_ s.wait oI zL) (oW:aS cI s.todo mo F) (jt:List.length s.todo<=mD) (tf:aj (Fl.int .i64) 3 s.aQ uI vw wu):
 QR 249 [(pp bd)] [(cl bd 369 [(ii s.t.W),(ii s.t.H),(ll kc s.t.C ky),(pp oI),(ll mo s.todo mD),(ll uI s.aQ vw)]),zL,wu] [] F (nL.R bd (ll kc s.t.C ky) s.todo mo mD r):=by
 unfold nL.f at H;refine aB Tryz.func249 J J (λW=>rc T 3 (kr (jR.R bd (ll kc s.t.C ky) s.todo mo mD) [] [0,0,0] J M4 H (jR.c · (rO pQ 0) tJ vR (rO oW 0) jt tf) (λv1 H=>?_)));rintro _ _ ⟨b4,H4,a5,n5,a6,n6,H6,s4,Fk,Qy,s6,rfl,rfl⟩;refine fz J (ro T 3 (lq [0] [0] (λ(⟨Gn,x7,x8,x9,aM,bf,fL,bV,dt,n11,a12,n12,dw⟩:Nat×Int×Int×eB×List aZ×List Int×Nat×Hp×Option Addr×Nat×Option Addr×Nat×Hp)=>(nL.l0 Gn s x7 x8 x9 aM bf=some r/\j_ x9 fL bV/\dq cI s.todo mo mD aM dt n11/\List.length aM<=n11/\aj (Fl.int .i64) 3 bf a12 n12 dw,[],[(cl bd 369 [(ii x7),(ii x8),(ll kc s.t.C ky),(pp fL),(ll dt aM n11),(ll a12 bf n12)]),bV,dw])) J J (fuel,v1.t.W,v1.t.H,v1.wait,v1.todo,v1.aQ,b4,H4,a5,n5,a6,n6,H6) [0,0,0,0] ⟨H,s4,Fk,Qy,s6⟩ J J ?_));rintro Gn ⟨x7,x8,x9,aM,bf,fL,bV,dt,n11,a12,n12,dw⟩ ⟨Z2,bS,yn,zS,dD⟩;rw[nL.l0] at Z2;refine rc T 6 (lf T 1 J (k [2] J M5 Z2 (vJ.c · bS) (λgT Z2=>ro T 3 (cd J Z2 (λZ2=>?_) (λZ2=>?_)))))
 ·refine rc T 9 (lf T 1 J (kr (ot.R fL) [] [2] J adb Z2 (ot.c · bS) (λbZ Z2=>?_)));rintro _ _ ⟨eo,dh,rfl,rfl⟩;refine fz J (ro T 14 (lf T 1 J (ro T 1 ?_)));obtain⟨c6,Z2⟩:=az Z2;obtain⟨q14,o14,BI⟩:=dD.r.addr c6.1 c6.2;refine ix T J BI c6 (le T 0 (oO dD 2) BI c6 J J (ro T 3 (cb J Z2 (λZ2=>?_) (λZ2=>?_))))
  ·refine rc T 5 (lf T 1 J (ro T 2 (ix T J BI c6 (aW (kI (k:=(Fl.int .i64)) T 2 0 bZ.1 J J J J J J dD BI c6 J J J (λdF dK=>kg [0,3] [0,1,1] [0,1,1,0] [] [(cl bd 369 [(ii x7),(ii x8),(ll kc s.t.C ky),(pp fL),(ll dt aM n11),(ll a12 (List.set bf (Int.toNat bZ.2.1) bZ.1) n12)])] J J trivial (by first |rfl |(simp only[ll,List.length_set];rfl)) (ro T 5 ?_)))))))
   refine kr (xN.R bd (ll kc s.t.C ky) aM dt n11) [] [3,2,1] J ade Z2 (xN.c (s:=(df.mk (aJ.mk x7 x8 s.t.C) bZ.2.2.2 aM (List.set bf (Int.toNat bZ.2.1) bZ.1))) · (rO pQ 0) tJ dh (nY yn (rO oW 0) jt) zS dK) (λdi Z2=>?_);rintro _ _ ⟨pF,fV,a17,n17,iY,n18,fb,fP,Qn,ZD,fq,rfl,rfl⟩;refine fz J (ro T 1 (ks [0] J (rx T 4 (kr (jR.R bd (ll kc s.t.C ky) di.todo a17 n17) [] [1,1,1] J M4 Z2 (jR.c (s:=(df.mk (aJ.mk di.t.W di.t.H s.t.C) di.wait di.todo di.aQ)) · (rO pQ 0) tJ fP (nY Qn (nY yn (rO oW 0) jt) zS) ZD fq) (λdU Z2=>?_)))));rintro _ _ ⟨Zi,kF,a20,n20,a21,n21,lj,gQ,Zj,ZE,jO,rfl,rfl⟩;refine fz J (ro T 2 (ar (_,_,_,_,_,_,_,_,_,_,_,_) [0,0,0,0] ⟨Z2,gQ,(dq.trans (dq.trans yn jt Qn) jt Zj),ZE,jO⟩ J J))
  refine rc T 5 (kr (jR.R bd (ll kc s.t.C ky) aM dt n11) [] [1,2,1] J M4 Z2 (jR.c (s:=(df.mk (aJ.mk x7 x8 s.t.C) bZ.2.2.2 aM bf)) · (rO pQ 0) tJ dh (nY yn (rO oW 0) jt) zS dD) (λv17 Z2=>?_));rintro _ _ ⟨kJ,mj,a23,n23,a24,n24,qX,iI,Qo,Qx,lU,rfl,rfl⟩;refine fz J (ro T 2 (ar (_,_,_,_,_,_,_,_,_,_,_,_) [0,0,0,0] ⟨Z2,iI,(dq.trans yn jt Qo),Qx,lU⟩ J J))
 refine rc T 4 (i_ ?_)
 cases Z2;exact p1 T J [1,1,1,0] ⟨fL,bV,dt,n11,a12,n12,dw,bS,yn,zS,dD,J,J⟩ J
def tn.f (t:aJ) (l:(List aZ)):Option ((List Int)×Int):=(zo.f t l).bind λv1=>if(!v1)=true then(some ([],1)) else(((vI.f 0).bind λv9=>c_ v9 (none) (λW7=>(mJ.f l).bind λv10=>(j6.f [1099511627776] (List.length t.C:Int)).bind λv11=>some (t.W,t.H,t.C,W7,v10,v11))).bind λ(x2,x3,x4,x5,x6,x7)=>(nL.f (df.mk (aJ.mk x2 x3 x4) x5 x6 x7)).bind λv17=>some (v17.aQ,0))
def tn.R (r:((List Int)×Int)) (u:Value) (G:List Hp):Prop:= ∃(a0:Option Addr) (n0:Nat) (H0:Hp),aj (Fl.int .i64) 3 r.1 a0 n0 H0/\u=(.tuple #[(ll a0 r.1 n0),(ii r.2)])/\G=[H0]
theorem tn.c (H:tn.f t l=some r) (dH:aS (Fl.int .u8) t.C iv F) (ff:List.length t.C<=iy) (dg:aS cI l iu F) (gn:List.length l<=ic):
 QR 228 [(.agg #[(ii t.W),(ii t.H),(ll iv t.C iy)]),(ll iu l ic)] [] [] F (tn.R r):=by
 unfold tn.f at H;refine aB Tryz.func228 J J (λW=>rc T 2 (nc T J (λb1=>ro T 7 (lm T 1 J (ro T 1 (k [] J Sw H (zo.c · (rO dH 0) ff (rO dg 0) gn) (λv1 H=>ro T 3 (cb J H (λH=>?_) (λH=>?_)))))))))
 ·refine rc T 8 ?_
  cases H;refine br (p1 T J [2,0] ⟨none,0,[],aj.nil,J,J⟩ J)
 refine rc T 2 (mq H [] [0] (λz8 (⟨x2,x3,x4,x5,x6,x7,b3,a4,n4,b5,H5,a6,n6,H6,a7,n7,H7⟩:Int×Int×List Int×eB×List aZ×List Int×Nat×Option Addr×Nat×Nat×Hp×Option Addr×Nat×Hp×Option Addr×Nat×Hp)=>((x2,x3,x4,x5,x6,x7)=z8/\dq (Fl.int .u8) t.C iv iy x4 a4 n4/\List.length x4<=n4/\j_ x5 b5 H5/\aj cI 285 x6 a6 n6 H6/\aj (Fl.int .i64) 3 x7 a7 n7 H7,[(6,(pp b3))],[(cl b3 369 [(ii x2),(ii x3),(ll a4 x4 n4),(pp b5),(ll a6 x6 n6),(ll a7 x7 n7)]),H5,H6,H7])) J J (λz8 Z3 _=>?_) ?_)
 ·refine ks [1,2] J (fz J (rz [] mix (bO bN) (λhg pf=>av 0 sz hg pf J (gA T 1 J J J J J J J) (ha T 9 [2,5] sz hg pf J (av 6 sz hg pf J (aw T J J J J (aD (j:=1) J J)) (ha T 7 [7] sz hg pf J (gw 1 4 ?_ ?_)))))))
  ·refine kR vI.R [] [] J SP Z3 (vI.c ·) (λv9 Z3=>?_);rintro _ _ ⟨_,_,O5,rfl,rfl⟩;rcases v9 with _ |W7
   ·replace Z3:=eJ J Z3
    cases Z3
   replace Z3:=eK J Z3;obtain⟨b8,H8,s8,rfl,rfl⟩:=O5;refine an (so [0,0]) (gw 3 4 ?_ ?_)
   ·refine kR mJ.R [] [] J FP Z3 (mJ.c · (rO dg 0) gn) (λv10 Z3=>?_);rintro _ _ ⟨a9,n9,H9,s9,rfl,rfl⟩;refine fz J (an (so [0,0]) (ao 4 (cU (k:=(Fl.int .i64)) T [1099511627776] J J J J J J J J J (λcw bV bS=>an (so [0,0]) (ao 8 (kR j6.R [] [] J M1 Z3 (j6.c · (oO bS 4) bS.bW) (λv11 Z3=>?_)))))));rintro _ _ ⟨dt,n11,cA,cS,rfl,rfl⟩;refine fz J (an (so [0,0]) (ha T 2 [9] (so [0,0]) hg pf J (ao 10 (nw T J (λki=>an (so [0,0]) (ha T 0 [11] (so [0,0]) hg pf J (ae (rx T 1 (am (_,_,_,_,_,_,_,_,_,_,_,_,_,_,_,_,_) [0,5,1,1,2] ⟨oi Z3,dq.self,ff,s8,s9,cS⟩ J J)))))))))
   refine cU (k:=(Fl.int .i64)) T [1099511627776] J J J J J J J J J (λdy eo dh=>an (so [0,0]) (ao 3 (kR mJ.R [] [] J FP Z3 (mJ.c · (rO dg 0) gn) (λv12 Z3=>?_))));rintro _ _ ⟨iC,n14,fx,dO,rfl,rfl⟩;refine fz J (an (so [0,0]) (ao 8 (kR j6.R [] [] J M1 Z3 (j6.c · (oO dh 3) dh.bW) (λgT Z3=>?_))));rintro _ _ ⟨jT,n15,dF,dK,rfl,rfl⟩;refine fz J (an (so [0,0]) (ha T 2 [9] (so [0,0]) hg pf J (ao 10 (nw T J (λpF=>an (so [0,0]) (ha T 0 [11] (so [0,0]) hg pf J (ae (rx T 1 (am (_,_,_,_,_,_,_,_,_,_,_,_,_,_,_,_,_) [0,5,1,2,2] ⟨oi Z3,dq.self,ff,s8,dO,dK⟩ J J)))))))))
  refine cU (k:=(Fl.int .i64)) T [1099511627776] J J J J J J J J J (λa17 dV fh=>an (so [0,0]) (ao 1 (kR vI.R [] [] J SP Z3 (vI.c ·) (λbZ Z3=>?_))));rintro _ _ ⟨_,_,Xj,rfl,rfl⟩;rcases bZ with _ |ajV
  ·replace Z3:=eJ J Z3
   cases Z3
  replace Z3:=eK J Z3;obtain⟨qm,fb,fq,rfl,rfl⟩:=Xj;refine an (so [0,0]) (ao 3 (kR mJ.R [] [] J FP Z3 (mJ.c · (rO dg 0) gn) (λdi Z3=>?_)));rintro _ _ ⟨l9,n19,kF,gQ,rfl,rfl⟩;refine fz J (an (so [0,0]) (ao 8 (kR j6.R [] [] J M1 Z3 (j6.c · (oO fh 2) fh.bW) (λdU Z3=>?_))));rintro _ _ ⟨a20,n20,nS,lT,rfl,rfl⟩;refine fz J (an (so [0,0]) (ha T 2 [9] (so [0,0]) hg pf J (ao 10 (nw T J (λBB=>an (so [0,0]) (ha T 0 [11] (so [0,0]) hg pf J (ae (rx T 1 (am (_,_,_,_,_,_,_,_,_,_,_,_,_,_,_,_,_) [0,5,2,2,2] ⟨oi Z3,dq.self,ff,fq,gQ,lT⟩ J J)))))))))
 rintro _ ⟨x2,x3,x4,x5,x6,x7,b3,a4,n4,b5,H5,a6,n6,H6,a7,n7,H7⟩ ⟨rfl,Zo,ZL,s5,s6,s7⟩ H;refine rc T 3 (kr (nL.R b3 (ll a4 x4 n4) x6 a6 n6) [] [1,1,2] J ac1 H (nL.c (s:=(df.mk (aJ.mk x2 x3 x4) x5 x6 x7)) · (nY Zo (rO dH 0) ff) ZL s5 (oO s6 1) s6.bW s7) (λv17 H=>?_));rintro _ _ ⟨kJ,mj,a23,n23,a24,n24,qX,iI,Qo,Qx,lU,rfl,rfl⟩;refine fz J (ro T 7 (lf T 2 J (ro T 5 ?_)))
 cases H;exact p1 T J [4,0] ⟨a24,n24,qX,lU,J,J⟩ J
end
noncomputable section
def p9.l0:Nat->aJ->(List Int)->Int->Option Bool
 |0,_,_,_=>none
 |k3+1,t,l,x2=>if x2<(List.length l:Int) then(if(0<=x2/\x2<(List.length l:Int)) then((A6.f t (rd l x2)).bind λv4=>(if((v4==0)||(v4==255))=true then(some true) else(if x2>0 then(if(0<=(aa (x2-1))/\(aa (x2-1))<(List.length l:Int)) then(some (decide ((rd l x2)<=(rd l (aa (x2-1)))))) else none) else(some false))).bind λx5=>if x5=true then(some false) else(p9.l0 k3 t l (aa (x2+1)))) else none) else((tq.f t).bind λv7=>some v7)
def p9.f (t:aJ) (l:(List Int)):Option Bool:=p9.l0 fuel t l 0
theorem p9.c (H:p9.f t l=some r) (dH:aS (Fl.int .u8) t.C iv F) (ff:List.length t.C<=iy) (dg:aS (Fl.int .i64) l iu F) (gn:List.length l<=ic):
 QU 266 [(.agg #[(ii t.W),(ii t.H),(ll iv t.C iy)]),(ll iu l ic)] [] F (bb r):=by
 unfold p9.f at H;refine aB Tryz.func266 J J (λW=>rc T 2 (nc T J (λb1=>ro T 12 (lq [1,2,8,9] [0,0] (λ(⟨k3,x2⟩:Nat×Int)=>(p9.l0 k3 t l x2=some r,[(10,(ii x2))],[])) J J (fuel,0) [0,0] H J J ?_))));rintro k3 x2 Z1;replace Z1:p9.l0 (k3+1) t l x2=some r:=Z1;rw[p9.l0] at Z1;refine rc T 6 (cd J Z1 (λZ1=>?_) (λZ1=>?_))
 ·refine rc T 7 ?_;obtain⟨c3,Z1⟩:=az Z1;obtain⟨q2,o2,e2⟩:=dg.addr c3.1 c3.2;refine ix T J e2 c3 (le T 0 (rO dg 0) e2 c3 J J (ro T 6 (lm T 1 J (ro T 1 (k [] J adi Z1 (A6.c · (rO dH 0) ff) (λv4 Z1=>ro T 3 (mq Z1 [1,2,8,9,10] [0,0] (λz6 (x5:Bool)=>(x5=z6,[(36,(bb x5))],[])) J J (λz6 Z5 _=>?_) ?_)))))))
  ·refine rc T 4 (go T [3,4,5] 20 [1,2,5,6,8,9,10] 23 J J J J J J J (ro T 1 (ab 24 J Z5 (λZ5=>?_) (λZ5=>?_))))
   ·refine ro T 14 (am _ [0,0] (oi Z5) J J)
   refine ro T 3 (ad 27 J Z5 (λZ5=>?_) (λZ5=>?_))
   ·refine ro T 4 ?_;obtain⟨c8,Z5⟩:=az Z5;refine ix T J e2 c8 (le T 0 (rO dg 0) e2 c8 J J (ro T 5 (am _ [0,0] (oi Z5) J J)))
   refine ro T 11 (am _ [0,0] (oi Z5) J J)
  rintro _ x5 rfl Z1;refine cb J Z1 (λZ1=>?_) (λZ1=>?_)
  ·refine rc T 11 ?_
   cases Z1;exact p0 T J [0] J
  refine rc T 8 (ar _ [0,0] Z1 J J)
 refine rc T 7 (lm T 1 J (k [] J Jq Z1 (tq.c · (rO dH 0) ff) (λv7 Z1=>ro T 4 ?_)))
 cases Z1;exact p0 T J [0] J
def xO.f (t:aJ) (ai:Int):Option ((List Int)×Int):=(tn.f t [(aZ.mk ai 4 0)]).bind λv1=>some (v1.1,v1.2)
def xO.R (r:((List Int)×Int)) (u:Value) (G:List Hp):Prop:= ∃(a0:Option Addr) (n0:Nat) (H0:Hp),aj (Fl.int .i64) 3 r.1 a0 n0 H0/\u=(.tuple #[(ll a0 r.1 n0),(ii r.2)])/\G=[H0]
theorem xO.c (H:xO.f t ai=some r) (dH:aS (Fl.int .u8) t.C iv F) (ff:List.length t.C<=iy):
 QR 267 [(.agg #[(ii t.W),(ii t.H),(ll iv t.C iy)]),(ii ai)] [] [] F (xO.R r):=by
 unfold xO.f at H;refine aB Tryz.func267 J J (λW=>rc T 2 (nc T J (λb1=>ro T 6 (lm T 1 J (ro T 2 (aW (cU (k:=cI) T [(aZ.mk ai 4 0)] J J J J J J J J J (λa2 H2 s2=>kr tn.R [] [] J SL H (tn.c (l:=[(aZ.mk ai 4 0)]) · (rO dH 0) ff (oO s2 2) s2.bW) (λv1 H=>?_)))))))));rintro _ _ ⟨a3,n3,H3,s3,rfl,rfl⟩;refine fz J (ro T 7 ?_)
 cases H;exact p1 T J [3,0] ⟨a3,n3,H3,s3,J,J⟩ J
def jE.l1:Nat->(List Int)->Int->((List Int)×Int)->List Int->Int->Option (List Int)
 |0,_,_,_,_,_=>none
 |wZ+1,l,x5,v9,bq,aT=>if aT<(List.length l:Int) then(if(0<=aT/\aT<(List.length l:Int)) then(if(0<=(rd l aT)/\(rd l aT)<(List.length v9.1:Int)) then(if(0<=(aa ((aa (aT*(List.length l:Int)))+x5))/\(aa ((aa (aT*(List.length l:Int)))+x5))<(List.length bq:Int)) then(jE.l1 wZ l x5 v9 (List.set bq (Int.toNat (aa ((aa (aT*(List.length l:Int)))+x5))) (rd v9.1 (rd l aT))) (aa (aT+1))) else none) else none) else none) else(some bq)
def jE.l0:Nat->aJ->(List Int)->List Int->Int->Option ((List Int)×Int)
 |0,_,_,_,_=>none
 |k6+1,t,l,x4,x5=>if x5<(List.length l:Int) then((if(0<=x5/\x5<(List.length l:Int)) then((xO.f t (rd l x5)).bind λv9=>jE.l1 fuel l x5 v9 x4 0) else none).bind λx7=>jE.l0 k6 t l x7 (aa (x5+1))) else(some (x4,0))
def jE.f (t:aJ) (l:(List Int)):Option ((List Int)×Int):=(p9.f t l).bind λv1=>if(!v1)=true then(some ([],1)) else(if(0<=(aa ((List.length l:Int)*(List.length l:Int)))/\(aa ((List.length l:Int)*(List.length l:Int)))<=1099511627776) then(jE.l0 fuel t l (List.replicate (Int.toNat (aa ((List.length l:Int)*(List.length l:Int)))) (0:Int)) 0) else none)
def jE.R (r:((List Int)×Int)) (u:Value) (G:List Hp):Prop:= ∃(a0:Option Addr) (n0:Nat) (H0:Hp),aj (Fl.int .i64) 3 r.1 a0 n0 H0/\u=(.tuple #[(ll a0 r.1 n0),(ii r.2)])/\G=[H0]
theorem jE.c (H:jE.f t l=some r) (dH:aS (Fl.int .u8) t.C iv F) (ff:List.length t.C<=iy) (dg:aS (Fl.int .i64) l iu F) (gn:List.length l<=ic):
 QR 238 [(.agg #[(ii t.W),(ii t.H),(ll iv t.C iy)]),(ll iu l ic)] [] [] F (jE.R r):=by
 unfold jE.f at H;refine aB Tryz.func238 J J (λW=>rc T 2 (nc T J (λb1=>ro T 7 (lm T 1 J (ro T 1 (k [] J ac8 H (p9.c · (rO dH 0) ff (rO dg 0) gn) (λv1 H=>ro T 3 (cb J H (λH=>?_) (λH=>?_)))))))))
 ·refine rc T 8 ?_
  cases H;refine br (p1 T J [2,0] ⟨none,0,[],aj.nil,J,J⟩ J)
 refine rc T 14 ?_;obtain⟨c3,H⟩:=az H;refine aW (yj (k:=(Fl.int .i64)) T (0:Int) J J J J J J J J c3 J (λa3 n3 H3 s3=>ro T 12 (lq [1,2,6,24,25] [0,0] (λ(⟨k6,x4,x5,a5,n5,H5⟩:Nat×List Int×Int×Option Addr×Nat×Hp)=>(jE.l0 k6 t l x4 x5=some r/\aj (Fl.int .i64) 3 x4 a5 n5 H5,[(7,(ll a5 x4 n5)),(26,(ii x5))],[H5])) J J (fuel,(List.replicate (Int.toNat (aa ((List.length l:Int)*(List.length l:Int)))) (0:Int)),0,a3,n3,H3) [0,0,0] ⟨H,s3⟩ J J ?_)));rintro k6 ⟨x4,x5,a5,n5,H5⟩ ⟨Z4,s5⟩;rw[jE.l0] at Z4;refine rc T 6 (cd J Z4 (λZ4=>?_) (λZ4=>?_))
 ·refine rc T 2 (mq Z4 [1,2,6,24,25,26] [0,0] (λz8 (⟨x7,a6,n6,H6⟩:List Int×Option Addr×Nat×Hp)=>(x7=z8/\aj (Fl.int .i64) 3 x7 a6 n6 H6,[(7,(ll a6 x7 n6))],[H6])) J J (λz8 Z6 _=>?_) ?_)
  ·refine rc T 4 ?_;obtain⟨c7,Z6⟩:=az Z6;obtain⟨q7,o7,e7⟩:=dg.addr c7.1 c7.2;refine ix T J e7 c7 (le T 0 (rO dg 0) e7 c7 J J (ro T 6 (lm T 1 J (ro T 1 (kr xO.R [] [] J ac9 Z6 (xO.c · (rO dH 0) ff) (λv9 Z6=>?_))))));rintro _ _ ⟨a8,n8,H8,s8,rfl,rfl⟩;refine fz J (ro T 15 (lq [1,2,6,8,10,24,25,26,37,38] [0,0,1] (λ(⟨wZ,bq,aT,cw,n10,bV⟩:Nat×List Int×Int×Option Addr×Nat×Hp)=>(jE.l1 wZ l x5 v9 bq aT=some z8/\aj (Fl.int .i64) 3 bq cw n10 bV,[(7,(ll cw bq n10)),(39,(ii aT))],[bV])) J J (fuel,x4,0,a5,n5,H5) [0,0,1,0] ⟨Z6,s5⟩ J J ?_));rintro wZ ⟨bq,aT,cw,n10,bV⟩ ⟨Z9,bS⟩;rw[jE.l1] at Z9;refine rc T 6 (cd J Z9 (λZ9=>?_) (λZ9=>?_))
   ·refine rc T 7 ?_;obtain⟨dZ,Z9⟩:=az Z9;obtain⟨q11,o11,yw⟩:=dg.addr dZ.1 dZ.2;refine ix T J yw dZ (le T 0 (rO dg 0) yw dZ J J (ro T 13 ?_));obtain⟨gY,Z9⟩:=az Z9;obtain⟨vC,Om,sv⟩:=s8.r.addr gY.1 gY.2;refine ix T J sv gY (le T 0 (oO s8 2) sv gY J J ?_);obtain⟨ja,Z9⟩:=az Z9;obtain⟨Vn,UW,wK⟩:=bS.r.addr ja.1 ja.2;refine ix T J wK ja (aW (kI (k:=(Fl.int .i64)) T 3 0 (rd v9.1 (rd l aT)) J J J J J J bS wK ja J J J (λfx dO=>kf [1,2,6,8,10,24,25,26,37,38,39] [0,0,0,0] [(7,(ll cw (List.set bq (Int.toNat (aa ((aa (aT*(List.length l:Int)))+x5))) (rd v9.1 (rd l aT))) n10))] J J ⟨(by first |rfl |(simp only[ll,List.length_set];rfl)),trivial⟩ (ro T 8 ?_))))
    exact ar (_,_,_,_,_) [0,0,0,0] ⟨Z9,dO⟩ J J
   refine rc T 6 (am (_,_,_,_) [0,0,1] ⟨oi Z9,bS⟩ J J)
  rintro _ ⟨x7,a6,n6,H6⟩ ⟨rfl,s6⟩ Z4;refine rc T 5 (ar (_,_,_,_,_) [0,0,0] ⟨Z4,s6⟩ J J)
 refine rc T 13 ?_
 cases Z4;exact p1 T J [2,0] ⟨a5,n5,H5,s5,J,J⟩ J
end
noncomputable section
def lX.f (s:gv):Option (List Int):=some [s.bC,s.bD,s.bA,s.bx,s.bM,s.bE]
theorem lX.c (H:lX.f s=some r):
 QU 62 [(.agg #[(uu s.bC),(uu s.bD),(uu s.bA),(uu s.bx),(uu s.bM),(uu s.bE)])] [] F (.agg #[(uu (rd r 0)),(uu (rd r 1)),(uu (rd r 2)),(uu (rd r 3)),(uu (rd r 4)),(uu (rd r 5))]):=by
 unfold lX.f at H;refine aB Tryz.func62 J J (λW=>rc T 2 (nc T J (λb1=>nc T J (λb2=>ro T 5 (lf T 1 J (ro T 1 (lf T 1 J (ro T 1 (lf T 1 J (ro T 1 (lf T 1 J (ro T 1 (lf T 1 J (ro T 1 (lf T 1 J (bp J (I6 T J J J J J J) (sg T 2 J (ro T 3 ?_))))))))))))))))))
 cases H;exact pb T J (.cQ (j:=2) [(uu s.bC),(uu s.bD),(uu s.bA),(uu s.bx),(uu s.bM),(uu s.bE)] J J J J J J J .nil) [0] () J J
def rR.f (a:Int) (b:Int):Option Int:=if a>(eF (18446744073709551615-b)) then(some 18446744073709551615) else(some (eF (a+b)))
theorem rR.c (H:rR.f a b=some r):
 QU 106 [(uu a),(uu b)] [] F (uu r):=by
 unfold rR.f at H;refine aB Tryz.func106 J J (λW=>rc T 14 (cd J H (λH=>?_) (λH=>?_)))
 ·refine rc T 7 ?_
  cases H;exact p0 T J [0] J
 refine rc T 11 ?_
 cases H;exact p0 T J [0] J
def mi.l0:Nat->Int->Int->Int->Int->Int->Int->Int->Int->Int->Int->Int->Int->Int->Option gv
 |0,_,_,_,_,_,_,_,_,_,_,_,_,_=>none
 |xa+1,x7,x8,x9,aM,bf,bq,iK,gf,gU,iL,fw,iM,ig=>if ig<6 then(if(0<=ig/\ig<6) then(if(0<=ig/\ig<6) then((rR.f (rd [iK,gf,gU,iL,fw,iM] ig) (rd [x7,x8,x9,aM,bf,bq] ig)).bind λqa=>if(0<=ig/\ig<6) then(mi.l0 xa x7 x8 x9 aM bf bq (rd (List.set [iK,gf,gU,iL,fw,iM] (Int.toNat ig) qa) 0) (rd (List.set [iK,gf,gU,iL,fw,iM] (Int.toNat ig) qa) 1) (rd (List.set [iK,gf,gU,iL,fw,iM] (Int.toNat ig) qa) 2) (rd (List.set [iK,gf,gU,iL,fw,iM] (Int.toNat ig) qa) 3) (rd (List.set [iK,gf,gU,iL,fw,iM] (Int.toNat ig) qa) 4) (rd (List.set [iK,gf,gU,iL,fw,iM] (Int.toNat ig) qa) 5) (aa (ig+1))) else none) else none) else none) else(some (gv.mk iK gf gU iL fw iM))
def mi.f (a:gv) (b:gv):Option gv:=((lX.f a).bind λbZ=>(lX.f b).bind λdi=>some ((rd bZ 0),(rd bZ 1),(rd bZ 2),(rd bZ 3),(rd bZ 4),(rd bZ 5),(rd di 0),(rd di 1),(rd di 2),(rd di 3),(rd di 4),(rd di 5))).bind λ(x1,x2,x3,x4,x5,x6,x7,x8,x9,aM,bf,bq)=>mi.l0 fuel x7 x8 x9 aM bf bq x1 x2 x3 x4 x5 x6 0
theorem mi.c (H:mi.f a b=some r):
 QU 78 [(.agg #[(uu a.bC),(uu a.bD),(uu a.bA),(uu a.bx),(uu a.bM),(uu a.bE)]),(.agg #[(uu b.bC),(uu b.bD),(uu b.bA),(uu b.bx),(uu b.bM),(uu b.bE)])] [] F (.agg #[(uu r.bC),(uu r.bD),(uu r.bA),(uu r.bx),(uu r.bM),(uu r.bE)]):=by
 unfold mi.f at H;refine aB Tryz.func78 J J (λW=>rc T 2 (nc T J (λb1=>nc T J (λb2=>nc T J (λb3=>ro T 2 (mq H [4] [0,2] (λHY (⟨x1,x2,x3,x4,x5,x6,x7,x8,x9,aM,bf,bq,b4,b5⟩:Int×Int×Int×Int×Int×Int×Int×Int×Int×Int×Int×Int×Nat×Nat)=>((x1,x2,x3,x4,x5,x6,x7,x8,x9,aM,bf,bq)=HY,[(5,(pp b4)),(6,(pp b5))],[(cl b4 123 [(uu x1),(uu x2),(uu x3),(uu x4),(uu x5),(uu x6)]),(cl b5 123 [(uu x7),(uu x8),(uu x9),(uu aM),(uu bf),(uu bq)])])) J J (λHY Z1 _=>?_) ?_))))))
 ·refine ks [2,3,4] J (fz J (rz [] mix (bO bN) (λhg pf=>av 0 sz hg pf J (gA T 1 J J J J J J J) (av 2 sz hg pf J (gA T 2 J J J J J J J) (P2 1 4 5 ?_ ?_ ?_)))))
  ·refine kh [] J pR Z1 (lX.c ·) (λbZ Z1=>an sz (P2 3 4 5 ?_ ?_ ?_))
   ·refine kh [] J pR Z1 (lX.c ·) (λdi Z1=>an sz (gw 4 5 ?_ ?_))
    ·refine nw T J (λb6=>an (so [0,0,0,0]) (ao 5 (nw T J (λb7=>an (so [0,0,0,0]) (ao 6 (sf T 4 J (an (so [0,0,0,0]) (ao 7 (sf T 5 J (an (so [0,0,0,0]) (ae (rx T 1 (am (_,_,_,_,_,_,_,_,_,_,_,_,_,_) [0,2,2,2] (oi Z1) J J)))))))))))))
    refine nw T J (λb8=>an (so [0,0,0,0]) (ao 4 (nw T J (λb9=>an (so [0,0,0,0]) (ao 6 (sf T 5 J (an (so [0,0,0,0]) (ao 7 (sf T 4 J (an (so [0,0,0,0]) (ae (rx T 1 (am (_,_,_,_,_,_,_,_,_,_,_,_,_,_) [0,2,3,2] (oi Z1) J J)))))))))))))
   ·refine nw T J (λfL=>an (so [0,0,0,0]) (gw 3 5 ?_ ?_))
    ·refine kh [] J pR Z1 (lX.c ·) (λdU Z1=>an (so [0,0,0,0]) (ao 5 (nw T J (λjG=>an (so [0,0,0,0]) (ao 6 (sf T 4 J (an (so [0,0,0,0]) (ao 7 (sf T 5 J (an (so [0,0,0,0]) (ae (rx T 1 (am (_,_,_,_,_,_,_,_,_,_,_,_,_,_) [0,2,2,2] (oi Z1) J J)))))))))))))
    refine nw T J (λki=>an (so [0,0,0,0]) (ao 3 (kh [] J pR Z1 (lX.c ·) (λv17 Z1=>an (so [0,0,0,0]) (ao 6 (sf T 4 J (an (so [0,0,0,0]) (ao 7 (sf T 5 J (an (so [0,0,0,0]) (ae (rx T 1 (am (_,_,_,_,_,_,_,_,_,_,_,_,_,_) [0,2,2,2] (oi Z1) J J)))))))))))))
   refine nw T J (λZg=>an (so [0,0,0,0]) (gw 3 4 ?_ ?_))
   ·refine kh [] J pR Z1 (lX.c ·) (λfF Z1=>an (so [0,0,0,0]) (ao 4 (nw T J (λIK=>an (so [0,0,0,0]) (ao 6 (sf T 5 J (an (so [0,0,0,0]) (ao 7 (sf T 4 J (an (so [0,0,0,0]) (ae (rx T 1 (am (_,_,_,_,_,_,_,_,_,_,_,_,_,_) [0,2,3,2] (oi Z1) J J)))))))))))))
   refine nw T J (λmX=>an (so [0,0,0,0]) (ao 3 (kh [] J pR Z1 (lX.c ·) (λnO Z1=>an (so [0,0,0,0]) (ao 6 (sf T 5 J (an (so [0,0,0,0]) (ao 7 (sf T 4 J (an (so [0,0,0,0]) (ae (rx T 1 (am (_,_,_,_,_,_,_,_,_,_,_,_,_,_) [0,2,3,2] (oi Z1) J J)))))))))))))
  ·refine nw T J (λpF=>an (so [0,0,0,0]) (gw 1 5 ?_ ?_))
   ·refine kh [] J pR Z1 (lX.c ·) (λv20 Z1=>an (so [0,0,0,0]) (gw 3 5 ?_ ?_))
    ·refine kh [] J pR Z1 (lX.c ·) (λv21 Z1=>an (so [0,0,0,0]) (ao 5 (nw T J (λBA=>an (so [0,0,0,0]) (ao 6 (sf T 4 J (an (so [0,0,0,0]) (ao 7 (sf T 5 J (an (so [0,0,0,0]) (ae (rx T 1 (am (_,_,_,_,_,_,_,_,_,_,_,_,_,_) [0,2,2,2] (oi Z1) J J)))))))))))))
    refine nw T J (λqm=>an (so [0,0,0,0]) (ao 3 (kh [] J pR Z1 (lX.c ·) (λv22 Z1=>an (so [0,0,0,0]) (ao 6 (sf T 4 J (an (so [0,0,0,0]) (ao 7 (sf T 5 J (an (so [0,0,0,0]) (ae (rx T 1 (am (_,_,_,_,_,_,_,_,_,_,_,_,_,_) [0,2,2,2] (oi Z1) J J)))))))))))))
   refine nw T J (λZi=>an (so [0,0,0,0]) (ao 1 (kh [] J pR Z1 (lX.c ·) (λv23 Z1=>an (so [0,0,0,0]) (ao 3 (kh [] J pR Z1 (lX.c ·) (λv24 Z1=>an (so [0,0,0,0]) (ao 6 (sf T 4 J (an (so [0,0,0,0]) (ao 7 (sf T 5 J (an (so [0,0,0,0]) (ae (rx T 1 (am (_,_,_,_,_,_,_,_,_,_,_,_,_,_) [0,2,2,2] (oi Z1) J J))))))))))))))))
  refine nw T J (λIL=>an (so [0,0,0,0]) (gw 1 4 ?_ ?_))
  ·refine kh [] J pR Z1 (lX.c ·) (λv25 Z1=>an (so [0,0,0,0]) (gw 3 4 ?_ ?_))
   ·refine kh [] J pR Z1 (lX.c ·) (λv26 Z1=>an (so [0,0,0,0]) (ao 4 (nw T J (λBB=>an (so [0,0,0,0]) (ao 6 (sf T 5 J (an (so [0,0,0,0]) (ao 7 (sf T 4 J (an (so [0,0,0,0]) (ae (rx T 1 (am (_,_,_,_,_,_,_,_,_,_,_,_,_,_) [0,2,3,2] (oi Z1) J J)))))))))))))
   refine nw T J (λkJ=>an (so [0,0,0,0]) (ao 3 (kh [] J pR Z1 (lX.c ·) (λPl Z1=>an (so [0,0,0,0]) (ao 6 (sf T 5 J (an (so [0,0,0,0]) (ao 7 (sf T 4 J (an (so [0,0,0,0]) (ae (rx T 1 (am (_,_,_,_,_,_,_,_,_,_,_,_,_,_) [0,2,3,2] (oi Z1) J J)))))))))))))
  refine nw T J (λZl=>an (so [0,0,0,0]) (ao 1 (kh [] J pR Z1 (lX.c ·) (λv28 Z1=>an (so [0,0,0,0]) (ao 3 (kh [] J pR Z1 (lX.c ·) (λrS Z1=>an (so [0,0,0,0]) (ao 6 (sf T 5 J (an (so [0,0,0,0]) (ao 7 (sf T 4 J (an (so [0,0,0,0]) (ae (rx T 1 (am (_,_,_,_,_,_,_,_,_,_,_,_,_,_) [0,2,3,2] (oi Z1) J J))))))))))))))))
 rintro _ ⟨x1,x2,x3,x4,x5,x6,x7,x8,x9,aM,bf,bq,b4,b5⟩ rfl H;refine rc T 7 (lq [4,5,6] [0,0,1] (λ(⟨xa,iK,gf,gU,iL,fw,iM,ig⟩:Nat×Int×Int×Int×Int×Int×Int×Int)=>(mi.l0 xa x7 x8 x9 aM bf bq iK gf gU iL fw iM ig=some r,[(12,(ii ig))],[(cl b4 123 [(uu iK),(uu gf),(uu gU),(uu iL),(uu fw),(uu iM)])])) J J (fuel,x1,x2,x3,x4,x5,x6,0) [0,0,1,0] H J J ?_);rintro xa ⟨iK,gf,gU,iL,fw,iM,ig⟩ kG;replace kG:mi.l0 (xa+1) x7 x8 x9 aM bf bq iK gf gU iL fw iM ig=some r:=kG;rw[mi.l0] at kG;refine rc T 6 (cd J kG (λkG=>?_) (λkG=>?_))
 ·refine rc T 10 (fz J (rz [9] mix (bO bN) (λhg pf=>ha T 8 [0,1] sz hg pf J ?_)));obtain⟨Fp,kG⟩:=az kG;refine av 2 sz hg pf J (yB T J J J J J Fp) (av 3 sz hg pf J (aw T J J J J (T9 (kk:= .u64) (xs:=[iK,gf,gU,iL,fw,iM]) (j:=3) J J Fp)) (ha T 5 [4] sz hg pf J ?_));obtain⟨oK,kG⟩:=az kG;refine av 5 sz hg pf J (yB T J J J J J oK) (av 6 sz hg pf J (aw T J J J J (T9 (kk:= .u64) (xs:=[x7,x8,x9,aM,bf,bq]) (j:=2) J J oK)) (ao 7 (kh [] J Jj kG (rR.c ·) (λqa kG=>an sz ?_))));obtain⟨Qw,kG⟩:=az kG;refine av 8 sz hg pf J (yB T J J J J J Qw) (ao 9 (YZ (kk:= .u64) (xs:=[iK,gf,gU,iL,fw,iM]) T 3 [(uu (rd (List.set [iK,gf,gU,iL,fw,iM] (Int.toNat ig) qa) 0)),(uu (rd (List.set [iK,gf,gU,iL,fw,iM] (Int.toNat ig) qa) 1)),(uu (rd (List.set [iK,gf,gU,iL,fw,iM] (Int.toNat ig) qa) 2)),(uu (rd (List.set [iK,gf,gU,iL,fw,iM] (Int.toNat ig) qa) 3)),(uu (rd (List.set [iK,gf,gU,iL,fw,iM] (Int.toNat ig) qa) 4)),(uu (rd (List.set [iK,gf,gU,iL,fw,iM] (Int.toNat ig) qa) 5))] J J J J J J J Qw J (an sl (ae (rx T 7 (ar (_,_,_,_,_,_,_) [0,0,0,0] kG J J))))))
 refine rc T 7 (bp J (yB T J J J J J (by decide)) (lf T 3 J (bp J (yB T J J J J J (by decide)) (lf T 3 J (bp J (yB T J J J J J (by decide)) (lf T 3 J (bp J (yB T J J J J J (by decide)) (lf T 3 J (bp J (yB T J J J J J (by decide)) (lf T 3 J (bp J (yB T J J J J J (by decide)) (lf T 3 J (ro T 1 (sg T 1 J (ro T 1 (rx T 2 ?_))))))))))))))))
 cases kG;exact pb T J (.cQ (j:=1) [(uu iK),(uu gf),(uu gU),(uu iL),(uu fw),(uu iM)] J J J J J J J .nil) [0] () J J
end
noncomputable section
def GJ.f:Option Int:=some 0
theorem GJ.c (H:GJ.f=some r):
 QU 107 [(.pointer none)] [] F (uu r):=by
 unfold GJ.f at H;refine aB Tryz.func107 J J (λW=>rc T 12 (mW J (rc T 7 ?_)))
 cases H;exact p0 T J [0] J
def GK.f (m:dz) (mG:bt):Option Int:=some m.count
theorem GK.c (H:GK.f m mG=some r) (rN:l7 m iD kM mO) (kZ:iq mG kM lp):
 QU 107 [(pp iD)] [mO,lp] F (uu r):=by
 unfold GK.f at H;refine aB Tryz.func107 J J (λW=>rc T 12 (dW J (rc T 3 ?_)));obtain⟨a5,n5,H5,s5,dp⟩:=(λx=>x) rN;refine bz 0 (congrArg some dp) (fz J (rc T 4 (lf T 2 J (ro T 4 ?_))))
 cases H;refine cV [2,2] J dp (p0 T J [2,0,0] J)
def rI.f (g:bt):Option (Option dz):=(iE.f g).bind λv1=>(qc.f v1.1 v1.2).bind λv2=>if(0<=(aa (v2.1*v2.2))/\(aa (v2.1*v2.2))<=1099511627776) then(some (some (dz.mk (List.replicate (Int.toNat (aa (v2.1*v2.2))) (default:pd)) 0 0))) else none
def rI.R (w0:Nat) (r:(Option dz)) (u:Value) (G:List Hp):Prop:= ∃(u0:Value) (G0:List Hp),Xt w0 r u0 G0/\u=u0/\G=G0
theorem rI.c (H:rI.f g=some r) (fC:iq g eX fW):
 QR 150 [(pp eX)] [fW] [fW] F (rI.R eX r):=by
 unfold rI.f at H;refine aB Tryz.func150 J J (λW=>rc T 12 (dW J (rc T 5 (k [0] J tP H (iE.c · fC) (λv1 H=>ro T 2 (k [] J FT H (qc.c ·) (λv2 H=>ro T 13 ?_)))))));obtain⟨c3,H⟩:=az H;refine aW (YE (kd:=Oy) (E:=217) T (default:pd) J J J J J J J ⟨none,0,[],none,0,[],(aj.nil (k:=(Fl.int .i64)) (E:=3)),(aj.nil (k:=(Fl.int .i32)) (E:=21)),J,J⟩ c3 J (λa2 n2 H2 s2=>ro T 1 (nc T J (λb3=>ro T 4 ?_))))
 cases H;refine gj [3,2] J (p1 T J [2,0,0] ⟨_,_,⟨b3,(List.flatten [(cl b3 213 [(pp eX),(ll a2 (List.replicate (Int.toNat (aa (v2.1*v2.2))) (default:pd)) n2),(ii 0),(uu 0)]),H2]),(show l7 (dz.mk (List.replicate (Int.toNat (aa (v2.1*v2.2))) (default:pd)) 0 0) b3 eX (List.flatten [(cl b3 213 [(pp eX),(ll a2 (List.replicate (Int.toNat (aa (v2.1*v2.2))) (default:pd)) n2),(ii 0),(uu 0)]),H2]) from⟨a2,n2,H2,s2,J⟩),J,J⟩,J,J⟩ J)
def nq.l0:Nat->dz->bt->List Int->Int->Option (List Int)
 |0,_,_,_,_=>none
 |k6+1,m,mG,x4,x5=>if x5<(List.length m.parts:Int) then(if(0<=x5/\x5<(List.length m.parts:Int)) then((pP.f mG x5).bind λv7=>if((rd m.parts x5).version !=v7)=true then(if(List.length x4+1<=1099511627776) then(nq.l0 k6 m mG (x4++[x5]) (aa (x5+1))) else none) else(nq.l0 k6 m mG x4 (aa (x5+1)))) else none) else(some x4)
def nq.f (m:dz) (mG:bt):Option (List Int):=(oS.f mG).bind λv1=>if(m.clean==v1)=true then(some []) else(nq.l0 fuel m mG [] 0)
def nq.R (r:(List Int)) (u:Value) (G:List Hp):Prop:= ∃(a0:Option Addr) (n0:Nat) (H0:Hp),aj (Fl.int .i64) 3 r a0 n0 H0/\u=(ll a0 r n0)/\G=[H0]
theorem nq.c (H:nq.f m mG=some r) (rN:l7 m iD kM mO) (kZ:iq mG kM lp):
 QR 97 [(pp iD)] [mO,lp] [mO,lp] F (nq.R r):=by
 unfold nq.f at H;refine aB Tryz.func97 J J (λW=>rc T 7 ?_);obtain⟨a5,n5,H5,s5,dp⟩:=(λx=>x) rN;refine bz 0 (congrArg some dp) (fz J (dj mix ay ?_))
 iterate 6 refine au T J ?_
 refine aN J J J (aw T J J J J (aD (j:=2) J J)) (au T J (au T J (au T J (aN J J J (aw T J J J J (aD (j:=2) J J)) ?_))));obtain⟨v1,V1,H⟩:=fY H;refine wC [0] J J J J J J BQ J (oS.c V1 kZ) (au T J (au T J (cR (rx T 1 (cb J H (λH=>?_) (λH=>?_))))))
 ·refine rc T 7 ?_
  cases H;refine cV [2,2] J dp (br (p1 T J [3,2,0,0] ⟨none,0,[],aj.nil,J,J⟩ J))
 refine rc T 13 (lf T 2 J (ro T 5 (br (lq [0,23] [1,1,0,0] (λ(⟨k6,x4,x5,a8,n8,H8⟩:Nat×List Int×Int×Option Addr×Nat×Hp)=>(nq.l0 k6 m mG x4 x5=some r/\aj (Fl.int .i64) 3 x4 a8 n8 H8,[(3,(ll a8 x4 n8)),(24,(ii x5))],[H8])) J J (fuel,[],0,none,0,[]) [1,1,0,0,0] ⟨H,aj.nil⟩ J J ?_))));rintro k6 ⟨x4,x5,a8,n8,H8⟩ ⟨Z3,s8⟩;rw[nq.l0] at Z3;refine rc T 6 (cd J Z3 (λZ3=>?_) (λZ3=>?_))
 ·refine rc T 11 (dj mix ay (au T J (au T J (au T J (aN J J J (aw T J J J J (aD (j:=1) J J)) (au T J ?_))))));obtain⟨c5,Z3⟩:=az Z3;obtain⟨q9,o9,e9⟩:=s5.r.addr c5.1 c5.2;refine aN J J J (cB T J J J J J e9 c5.1 c5.2) (au T J ?_);obtain⟨_,w12,⟨cw,n10,dt,n11,⟨Oz,m10⟩,⟨VT,m11⟩,rfl⟩⟩:=ml.view s5.r c5;refine aN J J J (aw T J J J J (yR (j:=3) J w12 e9 0 J)) (au T J (au T J (au T J (aN J J J (aw T J J J J (aD (j:=1) J J)) (au T J ?_)))));obtain⟨v7,V6,Z3⟩:=fY Z3;refine wC [2] J J J J J J BR J (pP.c V6 kZ) (au T J (cR (rx T 1 (cb J Z3 (λZ3=>?_) (λZ3=>?_)))))
  ·refine rc T 3 (aW (cU (k:=(Fl.int .i64)) T [x5] J J J J J J J J J (λdy eo dh=>?_)));obtain⟨c8,Z3⟩:=az Z3;refine aW (dM (k:=(Fl.int .i64)) (xs:=x4) T (g:=4) J J J J J J J J J J s8 (oO dh 5) c8 J (λiC n14 fx dO=>ro T 9 (ar (_,_,_,_,_) [0,0,0,0,0] ⟨Z3,dO⟩ J J)))
  refine rc T 8 (ar (_,_,_,_,_) [0,0,0,0,0] ⟨Z3,s8⟩ J J)
 refine rc T 12 ?_
 cases Z3;refine cV [1,2] J dp (p1 T J [2,2,1,0] ⟨a8,n8,H8,s8,J,J⟩ J)
def jj.l1:Nat->Int->List Int->((List Int)×Int)->List Int->Int->Option pd
 |0,_,_,_,_,_=>none
 |Gq+1,x3,x4,fF,ei,bR=>if bR<(List.length fF.1:Int) then(if(0<=bR/\bR<(List.length fF.1:Int)) then(if(0<=bR/\bR<(List.length ei:Int)) then(if((rd fF.1 bR)!=1099511627776)=true then(if(0<=bR/\bR<(List.length (List.set ei (Int.toNat bR) (-1)):Int)) then(jj.l1 Gq x3 x4 fF (List.set (List.set ei (Int.toNat bR) (-1)) (Int.toNat bR) (IntKind.i32.wrap (rd fF.1 bR))) (aa (bR+1))) else none) else(jj.l1 Gq x3 x4 fF (List.set ei (Int.toNat bR) (-1)) (aa (bR+1)))) else none) else none) else(some (pd.mk x3 x4 ei))
def jj.l0:Nat->(Int×Int)->(aJ×Bool)->Int->List Int->List Int->Int->Option pd
 |0,_,_,_,_,_,_=>none
 |yT+1,v1,v2,x3,x4,bc,cn=>if cn<(List.length x4:Int) then(if(0<=cn/\cn<(List.length x4:Int)) then((qR.f v1.1 v1.2 (rd x4 cn)).bind λv17=>if(List.length bc+1<=1099511627776) then(jj.l0 yT v1 v2 x3 x4 (bc++[v17]) (aa (cn+1))) else none) else none) else((jE.f v2.1 bc).bind λfF=>if(0<=(List.length fF.1:Int)/\(List.length fF.1:Int)<=1099511627776) then(jj.l1 fuel x3 x4 fF (List.replicate (Int.toNat (List.length fF.1:Int)) (0:Int)) 0) else none)
def jj.f (m:dz) (bB:Int) (mG:bt):Option pd:=(iE.f mG).bind λv1=>(lO.f mG bB).bind λv2=>((pP.f mG bB).bind λv7=>(jW.f mG bB).bind λv8=>some (v7,v8,([]:List Int))).bind λ(x3,x4,x5)=>jj.l0 fuel v1 v2 x3 x4 [] 0
def jj.R (r:pd) (u:Value) (G:List Hp):Prop:= ∃(a0:Option Addr) (n0:Nat) (H0:Hp) (a1:Option Addr) (n1:Nat) (H1:Hp),aj (Fl.int .i64) 3 r.nodes a0 n0 H0/\aj (Fl.int .i32) 21 r.aQ a1 n1 H1/\u=(.agg #[(ii r.version),(ll a0 r.nodes n0),(ll a1 r.aQ n1)])/\G=[H0,H1]
theorem jj.c (H:jj.f m bB mG=some r) (rN:l7 m iD kM mO) (kZ:iq mG kM lp):
 QR 211 [(pp iD),(ii bB)] [mO,lp] [mO,lp] F (jj.R r):=by
 unfold jj.f at H;refine aB Tryz.func211 J J (λW=>rc T 2 (nc T J (λb3=>ro T 3 ?_)));obtain⟨a6,n6,H6,s6,ju⟩:=(λx=>x) rN;refine bz 0 (congrArg some ju) (fz J (rc T 4 (lf T 3 J (k [0] J tP H (iE.c · kZ) (λv1 H=>ro T 12 (lf T 3 J (ro T 1 (kr lO.R [0] [0] J Sj H (lO.c · kZ) (λv2 H=>?_)))))))));rintro _ _ ⟨a7,n7,H7,s7,rfl,rfl⟩;refine fz J (ro T 3 (nc T J (λb8=>sg T 6 J (ro T 3 (mq H [4,5,6,7] [0,0,4,2,0,1,0] (λz6 (⟨x3,x4,x5,b9,cw,n10,bV,dt,n11,cA⟩:Int×List Int×List Int×Nat×Option Addr×Nat×Hp×Option Addr×Nat×Hp)=>((x3,x4,x5)=z6/\aj (Fl.int .i64) 3 x4 cw n10 bV/\aj (Fl.int .i32) 21 x5 dt n11 cA,[(9,(pp b9))],[(cl b9 217 [(ii x3),(ll cw x4 n10),(ll dt x5 n11)]),bV,cA])) J J (λz6 Z3 _=>?_) ?_)))))
 ·refine ks [0,1,4,5,6,7] J (fz J (rz [] mix (bO bN) (λhg pf=>ha T 12 [0,1,2] sz hg pf J (av 3 sz hg pf J (aw T J J J J (aD (j:=2) J J)) (ha T 7 [4,6,7,8] sz hg pf J (av 9 sz hg pf J (aw T J J J J (aD (j:=2) J J)) (ha T 5 [10] sz hg pf J (gw 5 13 ?_ ?_))))))))
  ·refine kh [5] J BR Z3 (pP.c · kZ) (λv7 Z3=>an sz (gw 11 13 ?_ ?_))
   ·refine kR jW.R [5] [5] J Jm Z3 (jW.c · kZ) (λv8 Z3=>?_);rintro _ _ ⟨a12,n12,dw,dD,rfl,rfl⟩;refine fz J (an (so [0,0,0,0,0,2,0]) (ha T 2 [12] (so [0,0,0,0,0,2,0]) hg pf J (ao 13 (nw T J (λZg=>an (so [0,0,0,0,0,2,0]) (ao 14 (sf T 8 J (an (so [0,0,0,0,0,2,0]) (ae (rx T 1 (br (am (_,_,_,_,_,_,_,_,_,_) [0,0,3,2,0,2,0,1,0,0] ⟨oi Z3,dD,aj.nil⟩ J J))))))))))))
   refine nw T J (λIK=>an (so [0,0,0,0,0,0,0]) (ao 11 (kR jW.R [5] [5] J Jm Z3 (jW.c · kZ) (λv9 Z3=>?_))));rintro _ _ ⟨jT,n15,dF,dK,rfl,rfl⟩;refine fz J (an (so [0,0,0,0,0,3,0]) (ha T 1 [12] (so [0,0,0,0,0,3,0]) hg pf J (ao 14 (sf T 6 J (an (so [0,0,0,0,0,3,0]) (ae (rx T 1 (br (am (_,_,_,_,_,_,_,_,_,_) [0,0,3,2,0,3,0,0,0,0] ⟨oi Z3,dK,aj.nil⟩ J J)))))))))
  refine nw T J (λpF=>an (so [0,0,0,0,0,0,0]) (ao 5 (kh [5] J BR Z3 (pP.c · kZ) (λv10 Z3=>an (so [0,0,0,0,0,0,0]) (ao 11 (kR jW.R [5] [5] J Jm Z3 (jW.c · kZ) (λv11 Z3=>?_)))))));rintro _ _ ⟨a17,n17,dV,fh,rfl,rfl⟩;refine fz J (an (so [0,0,0,0,0,3,0]) (ha T 1 [12] (so [0,0,0,0,0,3,0]) hg pf J (ao 14 (sf T 6 J (an (so [0,0,0,0,0,3,0]) (ae (rx T 1 (br (am (_,_,_,_,_,_,_,_,_,_) [0,0,3,2,0,3,0,0,0,0] ⟨oi Z3,fh,aj.nil⟩ J J)))))))))
 rintro _ ⟨x3,x4,x5,b9,cw,n10,bV,dt,n11,cA⟩ ⟨rfl,bS,cS⟩ H;refine rc T 9 (lf T 7 J (ro T 5 (br (lq [4,5,6,7,9,48,49] [0,0,0,0,3,3,3,0,0,0] (λ(⟨yT,bc,cn,l9,n19,kF⟩:Nat×List Int×Int×Option Addr×Nat×Hp)=>(jj.l0 yT v1 v2 x3 x4 bc cn=some r/\aj (Fl.int .i64) 3 bc l9 n19 kF,[(10,(ll l9 bc n19)),(50,(ii cn))],[kF])) J J (fuel,[],0,none,0,[]) [0,0,0,0,3,3,3,0,0,0,0] ⟨H,aj.nil⟩ J J ?_))));rintro yT ⟨bc,cn,l9,n19,kF⟩ ⟨Z9,gQ⟩;rw[jj.l0] at Z9;refine rc T 6 (cd J Z9 (λZ9=>?_) (λZ9=>?_))
 ·refine rc T 6 ?_;obtain⟨dZ,Z9⟩:=az Z9;obtain⟨VD,UZ,sw⟩:=bS.r.addr dZ.1 dZ.2;refine ix T J sw dZ (le T 0 (oO bS 5) sw dZ J J (ro T 8 (k [] J FN Z9 (qR.c ·) (λv17 Z9=>aW (cU (k:=(Fl.int .i64)) T [v17] J J J J J J J J J (λa21 lj jO=>?_))))));obtain⟨ja,Z9⟩:=az Z9;refine aW (dM (k:=(Fl.int .i64)) (xs:=bc) T (g:=10) J J J J J J J J J J gQ (oO jO 11) ja J (λa22 n22 mj iI=>ro T 9 (ar (_,_,_,_,_) [0,0,0,0,0,0,0,0,0,0,0] ⟨Z9,iI⟩ J J)))
 refine rc T 7 (lm T 2 J (ro T 1 (kr jE.R [] [] J acV Z9 (jE.c · (oO s7 3) s7.bW (oO gQ 10) gQ.bW) (λfF Z9=>?_))));rintro _ _ ⟨a23,n23,jF,gR,rfl,rfl⟩;refine fz J (ro T 11 ?_);obtain⟨yu,Z9⟩:=az Z9;refine aW (yj (k:=(Fl.int .i32)) T (0:Int) J J J J J J J J yu J (λa24 n24 qX lU=>ro T 1 (sg T 4 J (ro T 11 (lq [4,9,72,73] [0,0,3,8,4,4,4] (λ(⟨Gq,ei,bR,a26,n26,oB⟩:Nat×List Int×Int×Option Addr×Nat×Hp)=>(jj.l1 Gq x3 x4 fF ei bR=some r/\aj (Fl.int .i32) 21 ei a26 n26 oB,[(74,(ii bR))],[(cl b9 217 [(ii x3),(ll cw x4 n10),(ll a26 ei n26)]),oB])) J J (fuel,(List.replicate (Int.toNat (List.length fF.1:Int)) (0:Int)),0,a24,n24,qX) [0,0,3,8,4,4,4,2,4] ⟨Z9,lU⟩ J J ?_)))));rintro Gq ⟨ei,bR,a26,n26,oB⟩ ⟨pC,nF⟩;rw[jj.l1] at pC;refine rc T 6 (cd J pC (λpC=>?_) (λpC=>?_))
 ·refine rc T 7 ?_;obtain⟨lz,pC⟩:=az pC;obtain⟨GY,o27,BJ⟩:=gR.r.addr lz.1 lz.2;refine ix T J BJ lz (le T 0 (oO gR 3) BJ lz J J (ro T 7 (lf T 7 J (ro T 1 ?_))));obtain⟨zT,pC⟩:=az pC;obtain⟨q28,o28,IW⟩:=nF.r.addr zT.1 zT.2;refine ix T J IW zT (aW (kI (k:=(Fl.int .i32)) T 8 0 (-1) J J J J J J nF IW zT J J J (λqY qI=>kg [4,9,15,16,72,73,74] [0,0,0,0,0,0,0,1] [0,0,0,0,0,0,0,1,0] [] [(cl b9 217 [(ii x3),(ll cw x4 n10),(ll a26 (List.set ei (Int.toNat bR) (-1)) n26)])] J J trivial (by first |rfl |(simp only[ll,List.length_set];rfl)) (ro T 8 ?_))))
  refine cb J pC (λpC=>?_) (λpC=>?_)
  ·refine rc T 2 (lf T 8 J (ro T 3 ?_));obtain⟨oK,pC⟩:=az pC;refine ix T J IW oK (aW (kI (k:=(Fl.int .i32)) T 7 0 (IntKind.i32.wrap (rd fF.1 bR)) J J J J J J qI IW oK J J J (λqZ pn=>kg [4,9,72,73,74] [0,0,0,0,0,0,0,0] [0,0,0,0,0,0,0,0,0] [] [(cl b9 217 [(ii x3),(ll cw x4 n10),(ll a26 (List.set (List.set ei (Int.toNat bR) (-1)) (Int.toNat bR) (IntKind.i32.wrap (rd fF.1 bR))) n26)])] J J trivial (by first |rfl |(simp only[ll,List.length_set];rfl)) (ro T 8 ?_))))
   exact ar (_,_,_,_,_) [0,0,0,0,0,0,0,1,0] ⟨pC,pn⟩ J J
  refine rc T 8 (ar (_,_,_,_,_) [0,0,0,0,0,0,0,1,0] ⟨pC,qI⟩ J J)
 refine rc T 7 (lm T 7 J (sg T 1 J (ro T 3 ?_)))
 cases pC;refine cV [4,5] J ju (pb T J (.cQ (j:=1) [(ii x3),(ll cw x4 n10),(ll a26 ei n26)] J J J J J J J .nil) [2,5,5,3,0] ⟨(_,_),cw,n10,bV,a26,n26,oB,bS,nF,J,J⟩ J J)
def nt.l0:Nat->bt->(List Int)->dz->Int->Option (Int×dz)
 |0,_,_,_,_=>none
 |k6+1,mG,v1,x4,x5=>if x5<(List.length v1:Int) then(if(0<=x5/\x5<(List.length v1:Int)) then((jj.f x4 (rd v1 x5) mG).bind λv7=>if(0<=(rd v1 x5)/\(rd v1 x5)<(List.length x4.parts:Int)) then((rR.f x4.count 1).bind λv8=>nt.l0 k6 mG v1 (dz.mk (List.set x4.parts (Int.toNat (rd v1 x5)) v7) x4.clean v8) (aa (x5+1))) else none) else none) else((oS.f mG).bind λv9=>some ((List.length v1:Int),(dz.mk x4.parts v9 x4.count)))
def nt.f (m:dz) (mG:bt):Option (Int×dz):=(nq.f m mG).bind λv1=>nt.l0 fuel mG v1 m 0
def nt.R (Z':Nat) (aff:Nat) (r:(Int×dz)) (u:Value) (G:List Hp):Prop:= ∃(H0:Hp),l7 r.2 Z' aff H0/\u=(ii r.1)/\G=[H0]
theorem nt.c (H:nt.f m mG=some r) (rN:l7 m iD kM mO) (kZ:iq mG kM lp):
 QR 181 [(pp iD)] [mO,lp] [lp] F (nt.R iD kM r):=by
 unfold nt.f at H;refine aB Tryz.func181 J J (λW=>rc T 12 (dW J (rc T 5 (kr nq.R [0,0] [0,0] J adU H (nq.c · rN kZ) (λv1 H=>?_)))));rintro _ _ ⟨a3,n3,H3,s3,rfl,rfl⟩;refine fz J (ro T 12 (lq [0,3,10,11] [0,2,0] (λ(⟨k6,x4,x5,H5⟩:Nat×dz×Int×Hp)=>(nt.l0 k6 mG v1 x4 x5=some r/\l7 x4 iD kM H5,[(12,(ii x5))],[H5])) J J (fuel,m,0,mO) [0,2,0,0] ⟨H,rN⟩ J J ?_));rintro k6 ⟨x4,x5,H5⟩ ⟨Z2,s5⟩;rw[nt.l0] at Z2;refine rc T 6 (cd J Z2 (λZ2=>?_) (λZ2=>?_))
 ·refine rc T 6 ?_;obtain⟨c4,Z2⟩:=az Z2;obtain⟨q6,o6,e6⟩:=s3.r.addr c4.1 c4.2;refine ix T J e6 c4 (le T 0 (oO s3 2) e6 c4 J J (ro T 4 ?_));obtain⟨a9,n9,H9,s9,rB⟩:=(λx=>x) s5;refine bz 3 (congrArg some rB) (fz J (fz J (rz [9] mix (bO bN) (λhg pf=>ha T 7 [0,1,2] sz hg pf J (av 3 sz hg pf J (aw T J J J J (aD (j:=3) J J)) (ha T 3 [4,5,6] sz hg pf J (ao 7 ?_)))))));obtain⟨v7,V5,Z2⟩:=fY Z2;refine Fc (As:=[(cl iD 213 [(pp kM),(ll a9 x4.parts n9),(ii x4.clean),(uu x4.count)]),H9,lp]) (jj.R v7) [(cl iD 213 [(pp kM),(ll a9 x4.parts n9),(ii x4.clean),(uu x4.count)]),H9,lp] [3,3,1] J J J J acC J J (IV (A:=[H5,lp]) (A2:=[H5,lp]) (by simp only[rB,List.flatten_cons,List.flatten_append,List.flatten_nil,List.append_nil,List.append_assoc]) (by simp only[rB,List.flatten_cons,List.flatten_append,List.flatten_nil,List.append_nil,List.append_assoc]) (jj.c V5 s5 kZ)) ?_
  rintro _ _ ⟨cw,n10,bV,dt,n11,cA,bS,cS,rfl,rfl⟩;refine fz J (an (so [0,5,0,2,2]) ?_);obtain⟨c6,Z2⟩:=az Z2;obtain⟨vC,Om,sv⟩:=s9.r.addr c6.1 c6.2;refine av 8 (so [0,5,0,2,2]) hg pf J (cB T J J J J J sv c6.1 c6.2) (ao 9 (LB (j:=5) J s9 c6 (λ_ _ dF o15 dK=>?_)));obtain⟨dy,n13,eo,iC,n14,fx,dh,dO,rfl,rfl⟩:=o15;refine LF (LC T 5 0 [(ii v7.version),(ll cw v7.nodes n10),(ll dt v7.aQ n11)] J J J J J J dK sv J J J J (λfV fP=>an sl (ae (gj [2,2] J (LA (j:=3) (q:=7) v7 J fP J J ⟨cw,n10,bV,dt,n11,cA,bS,cS,J,J⟩ (λfb fq=>kg [0,3,10,11,12] [0,0,1,1] [0,0,1,1,0] [] [(cl iD 213 [(pp kM),(ll a9 (List.set x4.parts (Int.toNat (rd v1 x5)) v7) n9),(ii x4.clean),(uu x4.count)])] J J trivial (by first |rfl |(simp only[ll,List.length_set];rfl)) (rx T 6 (lf T 4 J ?_))))))))
  refine k [] J Jj Z2 (rR.c ·) (λv8 Z2=>ro T 2 (sg T 4 J (ro T 8 (gj [4,2] J (ar (_,_,_) [0,1,0,0] ⟨Z2,(show l7 (dz.mk (List.set x4.parts (Int.toNat (rd v1 x5)) v7) x4.clean v8) iD kM (List.flatten [(cl iD 213 [(pp kM),(ll a9 (List.set x4.parts (Int.toNat (rd v1 x5)) v7) n9),(ii x4.clean),(uu v8)]),fb]) from⟨a9,n9,fb,fq,J⟩)⟩ J J)))))
 refine rc T 6 ?_;obtain⟨a21,n21,lj,jO,FE⟩:=(λx=>x) s5;refine bz 3 (congrArg some FE) (fz J (rc T 5 (lf T 3 J (k [1] J BQ Z2 (oS.c · kZ) (λv9 Z2=>ro T 2 (sg T 3 J (ro T 10 ?_)))))))
 cases Z2;refine gj [3,3] J (p1 T J [3,1,0] ⟨(List.flatten [(cl iD 213 [(pp kM),(ll a21 x4.parts n21),(ii v9),(uu x4.count)]),lj]),(show l7 (dz.mk x4.parts v9 x4.count) iD kM (List.flatten [(cl iD 213 [(pp kM),(ll a21 x4.parts n21),(ii v9),(uu x4.count)]),lj]) from⟨a21,n21,lj,jO,J⟩),J,J⟩ J)
def xg.f (m:dz) (bB:Int) (mG:bt):Option (List Int):=(if bB<0 then(some true) else(some (decide (bB≥(List.length m.parts:Int))))).bind λx1=>if x1=true then(some []) else(if(0<=bB/\bB<(List.length m.parts:Int)) then((p8.f ((rd m.parts bB).nodes)).bind λv3=>some v3) else none)
def xg.R (r:(List Int)) (u:Value) (G:List Hp):Prop:= ∃(a0:Option Addr) (n0:Nat) (H0:Hp),aj (Fl.int .i64) 3 r a0 n0 H0/\u=(ll a0 r n0)/\G=[H0]
theorem xg.c (H:xg.f m bB mG=some r) (rN:l7 m iD kM mO) (kZ:iq mG kM lp):
 QR 215 [(pp iD),(ii bB)] [mO,lp] [mO,lp] F (xg.R r):=by
 unfold xg.f at H;refine aB Tryz.func215 J J (λW=>rc T 6 (mq H [0,1] [2,0,0] (λz2 (x1:Bool)=>(x1=z2,[(19,(bb x1))],[])) J J (λz2 Z1 _=>?_) ?_))
 ·obtain⟨a5,n5,H5,s5,dp⟩:=(λx=>x) rN;refine bz 0 (congrArg some dp) (fz J (rc T 8 (ad 11 J Z1 (λZ1=>?_) (λZ1=>?_))))
  ·refine ro T 10 (cV [2,2] J dp (am _ [1,1,0] (oi Z1) J J))
  refine ro T 4 (lf T 2 J (ro T 5 (cV [2,2] J dp (am _ [1,1,0] (oi Z1) J J))))
 rintro _ x1 rfl H;refine cb J H (λH=>?_) (λH=>?_)
 ·refine rc T 7 ?_
  cases H;refine br (p1 T J [3,1,1,0] ⟨none,0,[],aj.nil,J,J⟩ J)
 refine rc T 3 ?_;obtain⟨a9,n9,H9,s9,rB⟩:=(λx=>x) rN;refine bz 1 (congrArg some rB) (fz J (rc T 4 (lf T 2 J (ro T 1 ?_))));obtain⟨c4,H⟩:=az H;obtain⟨Ks,Kj,pL⟩:=s9.r.addr c4.1 c4.2;refine ix T J pL c4 (ro T 1 ?_);obtain⟨_,w13,⟨dt,n11,a12,n12,⟨VT,m11⟩,⟨r12,m12⟩,rfl⟩⟩:=ml.view s9.r c4;refine lg T J (yR (j:=3) J w13 pL 1 J) (kr p8.R [] [] J MY H (p8.c · (rO VT 3) m11) (λv3 H=>?_));rintro _ _ ⟨iC,n14,fx,dO,rfl,rfl⟩;refine fz J (ro T 4 ?_)
 cases H;refine cV [2,2] J rB (p1 T J [2,2,1,0] ⟨iC,n14,fx,dO,J,J⟩ J)
def D6.f (p:pd) (cell:Int):Option (Int×Bool):=(ov.f p.nodes cell).bind λv1=>some (v1.1,v1.2)
theorem D6.c (H:D6.f p cell=some r) (J7:Bf LM On [(ii p.version),(ll Lr p.nodes Od),(ll Lq p.aQ Oc)] F) (R9:aS (Fl.int .i64) p.nodes Lr F) (QB:List.length p.nodes<=Od) (MK:aS (Fl.int .i32) p.aQ Lq F) (ZU:List.length p.aQ<=Oc):
 QU 272 [(.pointer (some ⟨LM,On+0,none⟩)),(ii cell)] [] F (.tuple #[(ii r.1),(bb r.2)]):=by
 unfold D6.f at H;refine aB Tryz.func272 J J (λW=>rc T 11 (lg T J (NT J7 (j:=0) J 1 J) (ro T 1 (k [] J adj H (ov.c · (rO R9 0) QB) (λv1 H=>ro T 7 ?_)))))
 cases H;exact p0 T J [0] J
def sK.f (m:dz) (cell:Int) (mG:bt):Option ((Option Int)×Int×Bool):=(iE.f mG).bind λv1=>(gD.f v1.1 v1.2 cell).bind λv2=>if v2<0 then(some (none,0,false)) else(if(0<=v2/\v2<(List.length m.parts:Int)) then((D6.f (rd m.parts v2) cell).bind λv3=>some ((some v2),v3.1,v3.2)) else none)
def sK.R (xa0:Option Addr) (xl0:Nat) (r:((Option Int)×Int×Bool)) (u:Value) (G:List Hp):Prop:= ∃(u0:Value),XD r.1 xa0 xl0 3 u0/\u=(.tuple #[u0,(ii r.2.1),(bb r.2.2)])/\G=[]
theorem sK.c (H:sK.f m cell mG=some r) (Wk:gu Oy 217 m.parts Lm UK Pz) (kZ:iq mG kM lp):
 QR 243 [(pp iD),(ii cell)] [(cl iD 213 [(pp kM),(ll Lm m.parts UK),(ii m.clean),(uu m.count)]),Pz,lp] [(cl iD 213 [(pp kM),(ll Lm m.parts UK),(ii m.clean),(uu m.count)]),Pz,lp] F (sK.R Lm (List.length m.parts) r):=by
 unfold sK.f at H;refine aB Tryz.func243 J J (λW=>rc T 14 (dW J (rc T 7 (lf T 0 J (k [2] J tP H (iE.c · kZ) (λv1 H=>ro T 12 (k [] J rC H (gD.c ·) (λv2 H=>ro T 10 (cd J H (λH=>?_) (λH=>?_))))))))))
 ·refine rc T 9 ?_
  cases H;exact p1 T J [0,0,0,0] ⟨_,J,J,J⟩ J
 refine rc T 7 (lf T 0 J (ro T 1 ?_));obtain⟨c4,H⟩:=az H;obtain⟨q4,o4,e4⟩:=Wk.r.addr c4.1 c4.2;refine ix T J e4 c4 (ro T 7 ?_);obtain⟨_,w7,⟨a5,n5,a6,n6,⟨r5,m5⟩,⟨r6,m6⟩,rfl⟩⟩:=ml.view Wk.r c4;refine k [] J ada H (D6.c · (Qg w7 e4 (j:=1) J) (rO r5 1) m5 (rO r6 1) m6) (λv3 H=>ro T 18 ?_)
 cases H;exact p1 T J [0,0,0,0] ⟨_,⟨c4,q4,o4,e4,J⟩,J,J⟩ J
def Ch.f (p:pd) (i:Int) (j:Int):Option Int:=if(0<=(aa ((aa (i*(List.length p.nodes:Int)))+j))/\(aa ((aa (i*(List.length p.nodes:Int)))+j))<(List.length p.aQ:Int)) then(if((rd p.aQ (aa ((aa (i*(List.length p.nodes:Int)))+j)))!=(-1))=true then(some (aa (rd p.aQ (aa ((aa (i*(List.length p.nodes:Int)))+j))))) else(some 1099511627776)) else none
theorem Ch.c (H:Ch.f p i j=some r) (J7:Bf LM On [(ii p.version),(ll Lr p.nodes Od),(ll Lq p.aQ Oc)] F) (R9:aS (Fl.int .i64) p.nodes Lr F) (QB:List.length p.nodes<=Od) (MK:aS (Fl.int .i32) p.aQ Lq F) (ZU:List.length p.aQ<=Oc):
 QU 244 [(.pointer (some ⟨LM,On+0,none⟩)),(ii i),(ii j)] [] F (ii r):=by
 unfold Ch.f at H;refine aB Tryz.func244 J J (λW=>rc T 7 (dj mix ay (au T J (au T J (au T J (aN J J J (aw T J J J J (NT J7 (j:=0) J 2 J)) ?_))))))
 iterate 4 refine au T J ?_
 refine aN J J J (aw T J J J J (NT J7 (j:=0) J 1 J)) ?_
 iterate 4 refine au T J ?_
 obtain⟨c1,H⟩:=az H;obtain⟨q1,o1,e1⟩:=MK.addr c1.1 c1.2;refine aN J J J (cB T J J J J J e1 c1.1 c1.2) (aN J J J (aw T J J J J (gM (k:=(Fl.int .i32)) (rO MK 0) e1 c1 0 J)) (au T J (cR (rx T 7 (cb J H (λH=>?_) (λH=>?_))))))
 ·refine rc T 9 ?_
  cases H;exact p0 T J [0] J
 refine rc T 8 ?_
 cases H;exact p0 T J [0] J
def gO.l1:Nat->dz->Int->bt->Int->(Int×Int)->List dR->Int->Option (List dR)
 |0,_,_,_,_,_,_,_=>none
 |lC+1,m,b,mG,eW,v10,aT,bc=>if bc<=3 then((lZ.f v10.1 v10.2 b bc).bind λdU=>(sK.f m dU mG).bind λv17=>c_ v17.1 (if v17.2.2=true then((je.f mG b).bind λfF=>if(List.length aT+1<=1099511627776) then(gO.l1 lC m b mG eW v10 (aT++[(dR.mk dU fF)]) (aa (bc+1))) else none) else(gO.l1 lC m b mG eW v10 aT (aa (bc+1)))) (λW6=>if v17.2.2=true then(if(!(W6==eW))=true then((je.f mG b).bind λnO=>if(List.length aT+1<=1099511627776) then(gO.l1 lC m b mG eW v10 (aT++[(dR.mk dU nO)]) (aa (bc+1))) else none) else(gO.l1 lC m b mG eW v10 aT (aa (bc+1)))) else(gO.l1 lC m b mG eW v10 aT (aa (bc+1))))) else(some aT)
def gO.l0:Nat->dz->Int->bt->((Option Int)×Int×Bool)->Int->List dR->Int->Option (List dR)
 |0,_,_,_,_,_,_,_=>none
 |k6+1,m,b,mG,v1,eW,x4,x5=>if x5<(List.length ((rd m.parts eW).nodes):Int) then((if(0<=x5/\x5<(List.length ((rd m.parts eW).nodes):Int)) then((Ch.f (rd m.parts eW) x5 v1.2.1).bind λv9=>if((x5 !=v1.2.1)&&(v9 !=1099511627776))=true then(if(List.length x4+1<=1099511627776) then(some (x4++[(dR.mk (rd ((rd m.parts eW).nodes) x5) v9)])) else none) else(some x4)) else none).bind λx7=>gO.l0 k6 m b mG v1 eW x7 (aa (x5+1))) else((iE.f mG).bind λv10=>gO.l1 fuel m b mG eW v10 x4 0)
def gO.f (m:dz) (b:Int) (mG:bt):Option (List dR):=(sK.f m b mG).bind λv1=>c_ v1.1 (if(!v1.2.2)=true then(some []) else(none)) (λeW=>if(!v1.2.2)=true then(some []) else(if(0<=(0:Int)/\(0:Int)<=(aa ((List.length ((rd m.parts eW).nodes):Int)+1))/\(aa ((List.length ((rd m.parts eW).nodes):Int)+1))<=1099511627776) then(gO.l0 fuel m b mG v1 eW (List.replicate (Int.toNat 0) (default:dR)) 0) else none))
def gO.R (r:(List dR)) (u:Value) (G:List Hp):Prop:= ∃(a0:Option Addr) (n0:Nat) (H0:Hp),aj pa 283 r a0 n0 H0/\u=(ll a0 r n0)/\G=[H0]
theorem gO.c (H:gO.f m b mG=some r) (rN:l7 m iD kM mO) (kZ:iq mG kM lp):
 QR 219 [(pp iD),(ii b)] [mO,lp] [mO,lp] F (gO.R r):=by
 unfold gO.f at H;refine aB Tryz.func219 J J (λW=>rc T 6 ?_);obtain⟨a5,n5,H5,s5,dp⟩:=(λx=>x) rN;refine bz 0 (congrArg some dp) (fz J (rc T 3 (kr (sK.R a5 (List.length m.parts)) [2,2,0] [2,2,0] J SM H (sK.c · s5 kZ) (λv1 H=>?_))));rintro _ _ ⟨_,X2,rfl,rfl⟩;refine fz J ?_;rcases JQ:v1.1 with _ |eW
 ·replace H:=eJ JQ H;rw[JQ] at X2;obtain rfl:=X2;refine ro T 16 (cb J H (λH=>?_) (λH=>?_))
  ·refine rc T 7 ?_
   cases H;refine cV [1,1] J dp (br (p1 T J [3,2,1,0] ⟨none,0,[],aj.nil,J,J⟩ J))
  refine rc T 5 ?_
  cases H
 replace H:=eK JQ H;rw[JQ] at X2;obtain⟨MC,q6,o6,e6,rfl⟩:=X2;refine ro T 16 (cb J H (λH=>?_) (λH=>?_))
 ·refine rc T 7 ?_
  cases H;refine cV [1,1] J dp (br (p1 T J [3,2,1,0] ⟨none,0,[],aj.nil,J,J⟩ J))
 refine rc T 7 ?_;obtain⟨_,W0,⟨a9,n9,cw,n10,⟨r9,m9⟩,⟨Oz,m10⟩,rfl⟩⟩:=ml.view s5.r MC;refine lg T J (yR (j:=2) J W0 e6 1 J) (ro T 2 ?_);obtain⟨c5,H⟩:=az H;refine aW (YN (k:=pa) T (default:dR) J J J J J J J J c5 J (λa12 n12 dw dD=>ro T 9 (lg T J (yR (j:=2) J W0 e6 1 J) (ro T 5 (lq [0,1,5,6,38,39] [0,0,1,0] (λ(⟨k6,x4,x5,iC,n14,fx⟩:Nat×List dR×Int×Option Addr×Nat×Hp)=>(gO.l0 k6 m b mG v1 eW x4 x5=some r/\aj pa 283 x4 iC n14 fx,[(8,(ll iC x4 n14)),(40,(ii x5))],[fx])) J J (fuel,(List.replicate (Int.toNat 0) (default:dR)),0,a12,n12,dw) [0,0,1,0,0] ⟨H,dD⟩ J J ?_)))));rintro k6 ⟨x4,x5,iC,n14,fx⟩ ⟨Z6,dO⟩;rw[gO.l0] at Z6;refine rc T 6 (cd J Z6 (λZ6=>?_) (λZ6=>?_))
 ·refine rc T 2 (mq Z6 [0,1,5,6,38,39,40] [0,0,0,0] (λz8 (⟨x7,jT,n15,dF⟩:List dR×Option Addr×Nat×Hp)=>(x7=z8/\aj pa 283 x7 jT n15 dF,[(8,(ll jT x7 n15))],[dF])) J J (λz8 Z8 _=>?_) ?_)
  ·refine rc T 4 ?_;obtain⟨c9,Z8⟩:=az Z8;obtain⟨VB,UX,wL⟩:=r9.addr c9.1 c9.2;refine ix T J wL c9 (le T 0 (rO r9 3) wL c9 J J (ro T 9 ?_));obtain⟨_,w19,⟨a17,n17,iY,n18,⟨VU,m17⟩,⟨r18,m18⟩,rfl⟩⟩:=ml.view s5.r MC;refine k [] J acZ Z8 (Ch.c · (Qg w19 e6 (j:=3) J) (rO VU 3) m17 (rO r18 3) m18) (λv9 Z8=>ro T 9 (ga T [4,5,6] 52 [0,1,5,6,8,10,11,38,39,40] 55 J J J J J J J (ro T 2 (cb J Z8 (λZ8=>?_) (λZ8=>?_)))))
   ·refine rc T 5 (aW (cU (k:=pa) T [(dR.mk (rd ((rd m.parts eW).nodes) x5) v9)] J J J J J J J J J (λa20 nS lT=>?_)));obtain⟨gY,Z8⟩:=az Z8;refine aW (dM (k:=pa) (xs:=x4) T (g:=4) J J J J J J J J J J dO (oO lT 5) gY J (λa21 n21 lj jO=>ro T 4 (am (_,_,_,_) [0,0,0,0,0] ⟨oi Z8,jO⟩ J J)))
   refine rc T 3 (am (_,_,_,_) [0,0,0,0,0] ⟨oi Z8,dO⟩ J J)
  rintro _ ⟨x7,jT,n15,dF⟩ ⟨rfl,dK⟩ Z6;refine rc T 5 (ar (_,_,_,_,_) [0,0,0,0,0] ⟨Z6,dK⟩ J J)
 refine rc T 10 (lf T 1 J (k [2] J tP Z6 (iE.c · kZ) (λv10 Z6=>ro T 14 (lq [0,1,5,12,13] [0,0,0,0] (λ(⟨lC,aT,bc,a23,n23,jF⟩:Nat×List dR×Int×Option Addr×Nat×Hp)=>(gO.l1 lC m b mG eW v10 aT bc=some r/\aj pa 283 aT a23 n23 jF,[(8,(ll a23 aT n23)),(14,(ii bc))],[jF])) J J (fuel,x4,0,iC,n14,fx) [0,0,0,0,0] ⟨Z6,dO⟩ J J ?_))));rintro lC ⟨aT,bc,a23,n23,jF⟩ ⟨ck,gR⟩;rw[gO.l1] at ck;refine rc T 7 (cd J ck (λck=>?_) (λck=>?_))
 ·refine rc T 10 (k [] J Ae ck (lZ.c ·) (λdU ck=>ro T 7 (kr (sK.R a5 (List.length m.parts)) [1,2,1] [1,2,1] J SM ck (sK.c · s5 kZ) (λv17 ck=>?_))));rintro _ _ ⟨_,Iu,rfl,rfl⟩;refine fz J ?_;rcases JS:v17.1 with _ |W6
  ·replace ck:=eJ JS ck;rw[JS] at Iu;obtain rfl:=Iu;refine ro T 13 (ab 88 J ck (λck=>?_) (λck=>?_))
   ·refine ro T 2 (bp J (abo T J J J J) (ro T 3 (mW J (rc T 6 (lf T 2 J (ro T 1 (k [4] J u9 ck (je.c · kZ) (λfF ck=>ro T 1 (aW (cU (k:=pa) T [(dR.mk dU fF)] J J J J J J J J J (λa25 gV jB=>?_)))))))))));obtain⟨oK,ck⟩:=az ck;refine aW (dM (k:=pa) (xs:=aT) T (g:=1) J J J J J J J J J J gR (oO jB 5) oK J (λa26 n26 oB nF=>ro T 10 (ar (_,_,_,_,_) [0,1,2,1,0] ⟨ck,nF⟩ J J)))
   refine ro T 6 (dW J (rc T 9 (ar (_,_,_,_,_) [0,1,2,1,0] ⟨ck,gR⟩ J J)))
  replace ck:=eK JS ck;rw[JS] at Iu;obtain⟨abD,q24,o24,e24,rfl⟩:=Iu;refine ro T 13 (ab 88 J ck (λck=>?_) (λck=>?_))
  ·refine ro T 2 (bp J (abq T J J J J J J e24 e6 abD.1 MC.1) (ro T 3 (cb J ck (λck=>?_) (λck=>?_))))
   ·refine rc T 6 (lf T 2 J (ro T 1 (k [4] J u9 ck (je.c · kZ) (λnO ck=>ro T 1 (aW (cU (k:=pa) T [(dR.mk dU nO)] J J J J J J J J J (λIv EM vK=>?_)))))));obtain⟨ZG,ck⟩:=az ck;refine aW (dM (k:=pa) (xs:=aT) T (g:=1) J J J J J J J J J J gR (oO vK 5) ZG J (λa28 n28 ux j4=>ro T 10 (ar (_,_,_,_,_) [0,1,2,1,0] ⟨ck,j4⟩ J J)))
   refine rc T 9 (ar (_,_,_,_,_) [0,1,2,1,0] ⟨ck,gR⟩ J J)
  refine ro T 6 (dW J (rc T 9 (ar (_,_,_,_,_) [0,1,2,1,0] ⟨ck,gR⟩ J J)))
 refine rc T 12 ?_
 cases ck;refine cV [1,2] J dp (p1 T J [2,2,1,0] ⟨a23,n23,jF,gR,J,J⟩ J)
end
end Go.Proofs.YthodkonhneebbaaGreatDoor
