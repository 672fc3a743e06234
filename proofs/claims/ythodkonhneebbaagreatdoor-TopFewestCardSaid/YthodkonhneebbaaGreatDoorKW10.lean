/- What the functions of some packages compute, each as a function of plain Lean, with its contract. No condition. -/
import Derived.Test.YthodkonhneebbaaGreatDoorKWT
import Derived.Test.YthodkonhneebbaaGreatDoorKW5
import Derived.Test.YthodkonhneebbaaGreatDoorKW6
import Derived.Test.YthodkonhneebbaaGreatDoorKWSort
import Derived.Test.YthodkonhneebbaaGreatDoorKW8
import Derived.Test.YthodkonhneebbaaGreatDoorKW7
namespace Go.Proofs.YthodkonhneebbaaGreatDoor
open Go.Hx
set_option maxRecDepth 100000
set_option linter.unusedSimpArgs false
set_option linter.unusedVariables false
set_option maxHeartbeats 4000000
set_option autoImplicit true
set_option relaxedAutoImplicit true
noncomputable section
def Da.f (t:aM) (cell:Int) (side:Int):Option Bool:=if(¬t.W=0) then(if(¬t.W=0) then(if(side==0)=true then(some ((aa (Int.tdiv cell t.W))==0)) else(if(side==1)=true then(some ((Int.tmod cell t.W)==(aa (t.W-1)))) else(if(side==2)=true then(some ((aa (Int.tdiv cell t.W))==(aa (t.H-1)))) else(if(side==3)=true then(some ((Int.tmod cell t.W)==0)) else(some (side==4)))))) else none) else none
theorem Da.c (H:Da.f t cell side=some r) (dS:aU (Fl.int .u8) t.C iz F) (fo:List.length t.C<=iC):
 QU 223 [(.agg #[(ii t.W),(ii t.H),(ll iz t.C iC)]),(ii cell),(ii side)] [] F (bb r):=by
 unfold Da.f at H;refine aG Tryz.func223 J J (λW=>rc T 2 (nc T J (λb1=>ro T 4 (dD mix az (au T J (au T J (aO J J J (aw T J J J J (aI (j:=1) J J)) ?_)))))));obtain⟨c1,H⟩:=aA H;refine aO J J J (vi J J J c1) (au T J (au T J (aO J J J (aw T J J J J (aI (j:=1) J J)) ?_)));obtain⟨c2,H⟩:=aA H;refine aO J J J (vh J J J c2) (au T J (au T J (dg (rx T 14 (cb J H (λH=>?_) (λH=>?_))))))
 ·refine rc T 10 ?_
  cases H;exact p0 T J [0] J
 refine rc T 6 (cb J H (λH=>?_) (λH=>?_))
 ·refine rc T 4 (lf T 1 J (ro T 8 ?_))
  cases H;exact p0 T J [0] J
 refine rc T 6 (cb J H (λH=>?_) (λH=>?_))
 ·refine rc T 4 (lf T 1 J (ro T 8 ?_))
  cases H;exact p0 T J [0] J
 refine rc T 6 (cb J H (λH=>?_) (λH=>?_))
 ·refine rc T 10 ?_
  cases H;exact p0 T J [0] J
 refine rc T 11 ?_
 cases H;exact p0 T J [0] J
def C_.f (s:ba) (ai:aM):Option Bool:=(if s.Cell<0 then(some true) else(if s.Cell≥(List.length ai.C:Int) then(some true) else(if(0<=s.Cell/\s.Cell<(List.length ai.C:Int)) then(if((rd ai.C s.Cell)==255)=true then(some true) else(if s.Key<0 then(some true) else(if s.Key>1073741824 then(some true) else((Da.f ai s.Cell s.cL).bind λv3=>some (!v3))))) else none))).bind λx1=>some x1
theorem C_.c (H:C_.f s ai=some r) (G2:(tQ,Obj.cells #[(ii ai.W),(ii ai.H),(ll IU ai.C Kv)] 139 (0,0))∈F) (DZ:aU (Fl.int .u8) ai.C IU F) (Q2:List.length ai.C<=Kv):
 QU 222 [(.agg #[(ii s.Cell),(ii s.cL),(ii s.Key)]),(pp tQ)] [] F (bb r):=by
 unfold C_.f at H;refine aG Tryz.func222 J J (λW=>rc T 2 (nc T J (λb1=>ro T 3 (mq H [] [0] (λz2 (x1:Bool)=>(x1=z2,[(3,(bb x1))],[])) J J (λz2 Z1 _=>?_) ?_))))
 ·refine rc T 2 (lf T 1 J (ro T 2 (ad 7 J Z1 (λZ1=>?_) (λZ1=>?_))))
  ·refine ro T 38 (am _ [0] (oi Z1) J J)
  refine ro T 1 (lf T 1 J (ro T 1 (lg T J (nM (j:=0) G2 J J) (ro T 4 (ad 15 J Z1 (λZ1=>?_) (λZ1=>?_))))))
  ·refine ro T 30 (am _ [0] (oi Z1) J J)
  refine ro T 1 (lg T J (nM (j:=0) G2 J J) (ro T 1 (lf T 1 J ?_)));obtain⟨c4,Z1⟩:=aA Z1;obtain⟨q2,o2,e2⟩:=DZ.addr c4.1 c4.2;refine ix T J e2 c4 (le T 0 (rO DZ 0) e2 c4 J J (ro T 3 (ab 24 J Z1 (λZ1=>?_) (λZ1=>?_))))
  ·refine ro T 21 (am _ [0] (oi Z1) J J)
  refine ro T 1 (lf T 1 J (ro T 3 (ad 29 J Z1 (λZ1=>?_) (λZ1=>?_))))
  ·refine ro T 16 (am _ [0] (oi Z1) J J)
  refine ro T 1 (lf T 1 J (ro T 3 (ad 34 J Z1 (λZ1=>?_) (λZ1=>?_))))
  ·refine ro T 11 (am _ [0] (oi Z1) J J)
  refine bz J (fX T (cs:=[(ii ai.W),(ii ai.H),(ll IU ai.C Kv)]) J J J J J J (aeU (j:=0) G2 J J)) (ro T 1 (lf T 1 J (ro T 1 (lf T 1 J (k [] J ac' Z1 (Da.c · (rO DZ 0) Q2) (λv3 Z1=>ro T 5 (am _ [0] (oi Z1) J J)))))))
 rintro _ x1 rfl H;refine rc T 1 ?_
 cases H;exact p0 T J [0] J
def qT.l0:Nat->(List ba)->aM->Int->Option Int
 |0,_,_,_=>none
 |k3+1,s,fC,x2=>if x2<(List.length s:Int) then(if(0<=x2/\x2<(List.length s:Int)) then((C_.f (rd s x2) fC).bind λv4=>if v4=true then(some x2) else(qT.l0 k3 s fC (aa (x2+1)))) else none) else(some (-1))
def qT.f (s:(List ba)) (fC:aM):Option Int:=qT.l0 fuel s fC 0
theorem qT.c (H:qT.f s fC=some r) (jG:aU cH s iV F) (rA:List.length s<=iZ) (Cx:(BR,Obj.cells #[(ii fC.W),(ii fC.H),(ll BL fC.C CG)] 139 (0,0))∈F) (B3:aU (Fl.int .u8) fC.C BL F) (BV:List.length fC.C<=CG):
 QU 246 [(ll iV s iZ),(.func (.func 222) #[] #[(pp BR)])] [] F (ii r):=by
 unfold qT.f at H;refine aG Tryz.func246 J J (λW=>rc T 14 (lq [0,1,7] [0] (λ(⟨k3,x2⟩:Nat×Int)=>(qT.l0 k3 s fC x2=some r,[(8,(ii x2))],[])) J J (fuel,0) [0] H J J ?_));rintro k3 x2 Z1;replace Z1:qT.l0 (k3+1) s fC x2=some r:=Z1;rw[qT.l0] at Z1;refine rc T 6 (cd J Z1 (λZ1=>?_) (λZ1=>?_))
 ·refine rc T 15 ?_;obtain⟨c3,Z1⟩:=aA Z1;obtain⟨q1,o1,e1⟩:=jG.addr c3.1 c3.2;refine ix T J e1 c3 (bz J (fX T (cs:=[(ii (rd s x2).Cell),(ii (rd s x2).cL),(ii (rd s x2).Key)]) J J J J J J (ig (k:=cH) (rO jG 0) e1 c3 J)) (k [] J ac_ Z1 (C_.c · (qe Cx (j:=0) J) (rO B3 0) BV) (λv4 Z1=>ro T 2 (cb J Z1 (λZ1=>?_) (λZ1=>?_)))))
  ·refine rc T 12 ?_
   cases Z1;exact p0 T J [0] J
  refine rc T 8 (ar _ [0] Z1 J J)
 refine rc T 11 ?_
 cases Z1;exact p0 T J [0] J
def ER.f (s:(List ba)) (fC:aM):Option Bool:=(qT.f s fC).bind λv1=>some (decide (v1≥0))
theorem ER.c (H:ER.f s fC=some r) (jG:aU cH s iV F) (rA:List.length s<=iZ) (Cx:(BR,Obj.cells #[(ii fC.W),(ii fC.H),(ll BL fC.C CG)] 139 (0,0))∈F) (B3:aU (Fl.int .u8) fC.C BL F) (BV:List.length fC.C<=CG):
 QU 221 [(ll iV s iZ),(.func (.func 222) #[] #[(pp BR)])] [] F (bb r):=by
 unfold ER.f at H;refine aG Tryz.func221 J J (λW=>rc T 9 (k [] J adr H (qT.c · (rO jG 0) rA (qe Cx (j:=0) J) (rO B3 0) BV) (λv1 H=>ro T 5 ?_)))
 cases H;exact p0 T J [0] J
def zG.f (t:aM) (l:(List ba)):Option Bool:=(tF.f t).bind λv1=>if(!v1)=true then(some false) else((ER.f l t).bind λv2=>some (!v2))
theorem zG.c (H:zG.f t l=some r) (dS:aU (Fl.int .u8) t.C iz F) (fo:List.length t.C<=iC) (dh:aU cH l iy F) (gz:List.length l<=iq):
 QU 183 [(.agg #[(ii t.W),(ii t.H),(ll iz t.C iC)]),(ll iy l iq)] [] F (bb r):=by
 unfold zG.f at H;refine aG Tryz.func183 J J (λW=>rc T 2 (nc T J (λb1=>ro T 6 (lm T 1 J (k [] J JF H (tF.c · (rO dS 0) fo) (λv1 H=>ro T 3 (cb J H (λH=>?_) (λH=>?_))))))))
 ·refine rc T 7 ?_
  cases H;exact p0 T J [0] J
 refine rc T 6 (k [] J ac9 H (ER.c · (rO dh 0) gz (Cz (j:=1) J) (rO dS 0) fo) (λv2 H=>ro T 5 ?_))
 cases H;exact p0 T J [0] J
def pL.f (a:ba) (b:ba):Option Int:=(sC.f a.Key b.Key).bind λv1=>(sC.f a.Cell b.Cell).bind λv2=>(sC.f a.cL b.cL).bind λv3=>(mS.f [v1,v2,v3]).bind λv4=>some v4
theorem pL.c (H:pL.f a b=some r):
 QU 209 [(.agg #[(ii a.Cell),(ii a.cL),(ii a.Key)]),(.agg #[(ii b.Cell),(ii b.cL),(ii b.Key)])] [] F (ii r):=by
 unfold pL.f at H;refine aG Tryz.func209 J J (λW=>rc T 2 (nc T J (λb1=>nc T J (λb2=>ro T 4 (ks [2,3] J (fz J (rg [] [0,0,0] mix (bM bL) (λhg pf=>ha T 17 [0] sz hg pf J (av 1 sz hg pf J (aw T J J J J (aI (j:=1) J J)) (ha T 15 [2] sz hg pf J (av 3 sz hg pf J (aw T J J J J (aI (j:=2) J J)) (ha T 13 [5] sz hg pf J (av 6 sz hg pf J (aw T J J J J (aI (j:=1) J J)) (ha T 11 [7] sz hg pf J (av 8 sz hg pf J (aw T J J J J (aI (j:=2) J J)) (ha T 9 [10] sz hg pf J (av 11 sz hg pf J (aw T J J J J (aI (j:=1) J J)) (ha T 7 [12] sz hg pf J (av 13 sz hg pf J (aw T J J J J (aI (j:=2) J J)) (ao 4 (kh [] J Ni H (sC.c ·) (λv1 H=>an sz (ao 9 (kh [] J Ni H (sC.c ·) (λv2 H=>an sz (ao 14 (kh [] J Ni H (sC.c ·) (λv3 H=>an sz (ao 15 (cV (k:=(Fl.int .i64)) T [v1,v2,v3] J J J J J J J J J (λa3 H3 s3=>an (so [0,0,0]) (ao 16 (kh [] J adl H (mS.c · (oO s3 3) s3.bW) (λv4 H=>an (so [0,0,0]) (ha T 0 [17] (so [0,0,0]) hg pf J (ae (rx T 2 ?_)))))))))))))))))))))))))))))))))))))
 cases H;exact p0 T J [0] J
def HP.f:Option Unit:=some ()
theorem HP.c (H:HP.f=some r):
 QU 255 [nl,(ii 0),(ii 0),(.func (.func 209) #[] #[])] [] F (.tuple #[]):=by
 unfold HP.f at H;refine aG Tryz.func255 J J (λW=>rc T 8 (lu [0,1,2,3,8] [0] J J (rc T 8 (eY J (rc T 4 (jf ?_))))))
 cases H;exact p0 T J [0] J
def HQ.f (U6:Int):Option Unit:=(HP.f).bind λv1=>some ()
theorem HQ.c (H:HQ.f U6=some r):
 QU 234 [nl,(ii 0),(ii 0),(ii U6),(.func (.func 209) #[] #[])] [] F (.tuple #[]):=by
 unfold HQ.f at H;refine aG Tryz.func234 J J (λW=>rc T 11 (lu [0,1,2,3,4,10,11] [0] J J (rc T 16 (ov J (rc T 6 (k [] J adx H (HP.c ·) (λv1 H=>ro T 7 ?_)))))))
 cases H;exact p0 T J [0] J
def K0.f:Option Unit:=(G3.f (cY 0)).bind λv1=>(HQ.f v1).bind λv2=>some ()
theorem K0.c (H:K0.f=some r):
 QU 208 [nl,(.func (.func 209) #[] #[])] [] F (.tuple #[]):=by
 unfold K0.f at H;refine aG Tryz.func208 J J (λW=>rc T 12 (k [] J adk H (G3.c ·) (λv1 H=>ro T 1 (k [] J adj H (HQ.c ·) (λv2 H=>ro T 1 (jf ?_))))))
 cases H;exact p0 T J [0] J
def Bd.f (s:(List ba)):Option (List ba):=if List.length s<4611686018427387904 then some (pO (λa b=>Option.getD (pL.f a b) 0) s) else none
def Bd.R (ajp:Option Addr) (ajw:Nat) (aju:Nat) (r:List ba):bm:=λu G=> ∃(H0:Hp),aj cH 285 r ajp ajw H0/\List.length r=aju/\u=(.tuple #[])/\G=[H0]
theorem Rb (x y:Int):sC.f x y=some (if x<y then-1 else if x>y then 1 else 0):=by
 simp[sC.f,cmp_isNaN_int.f];split
 ·rfl
 ·split<;>rfl
theorem Rc (a b c:Int):mS.f [a,b,c]=some (if a=0 then(if b=0 then c else b) else a):=by
 have e1:aa (0+1)=1:=by decide
 have e2:aa (1+1)=2:=by decide
 have e3:aa (2+1)=3:=by decide
 unfold mS.f;rw[cO,mS.l0]
 by_cases ha:a=0
 ·subst ha;simp only[List.length_cons,List.length_nil,rd,e1];rw[mS.l0]
  by_cases hb:b=0
  ·subst hb;simp only[List.length_cons,List.length_nil,rd,e2];rw[mS.l0]
   by_cases hc:c=0
   ·subst hc;simp only[List.length_cons,List.length_nil,rd,e3];rw[mS.l0];simp
   ·simp[rd,hc]
  ·simp[rd,hb]
 ·simp[rd,ha]
theorem ain (a b:ba): ∃v,pL.f a b=some v:=by
 unfold pL.f;simp only[Rb,Rc,Option.bind_some];exact⟨_,J⟩
theorem ail (a b:ba):pL.f a b=some (Option.getD (pL.f a b) 0):=by
 obtain⟨v,h⟩:=ain a b;rw[h];rfl
theorem aik (a b:ba):Option.getD (pL.f a b) 0=(if(if a.Key<b.Key then(-1:Int) else if a.Key>b.Key then 1 else 0)=0 then(if(if a.Cell<b.Cell then(-1:Int) else if a.Cell>b.Cell then 1 else 0)=0 then(if a.cL<b.cL then(-1:Int) else if a.cL>b.cL then 1 else 0) else(if a.Cell<b.Cell then(-1:Int) else if a.Cell>b.Cell then 1 else 0)) else(if a.Key<b.Key then(-1:Int) else if a.Key>b.Key then 1 else 0)):=by
 unfold pL.f;simp only[Rb,Rc,Option.bind_some,Option.getD_some]
theorem Pp (a b:ba):Go.Proofs.ltOf (λa b=>Option.getD (pL.f a b) 0) a b=decide (a.Key<b.Key∨a.Key=b.Key/\(a.Cell<b.Cell∨a.Cell=b.Cell/\a.cL<b.cL)):=by
 unfold Go.Proofs.ltOf;simp only[aik]
 congr 1
 apply propext;constructor
 ·intro h
  by_cases k1:a.Key<b.Key
  ·exact .inl k1
  ·by_cases k2:a.Key>b.Key
   ·simp[k1,k2] at h
   ·by_cases c1:a.Cell<b.Cell
    ·exact .inr ⟨by omega,.inl c1⟩
    ·by_cases c2:a.Cell>b.Cell
     ·simp[k1,k2,c1,c2] at h
     ·by_cases s1:a.cL<b.cL
      ·exact .inr ⟨by omega,.inr ⟨by omega,s1⟩⟩
      ·by_cases s2:a.cL>b.cL
       ·simp[k1,k2,c1,c2,s1,s2] at h
       ·simp[k1,k2,c1,c2,s1,s2] at h
 ·intro h
  by_cases k1:a.Key<b.Key
  ·simp[k1]
  ·by_cases k2:a.Key>b.Key
   ·exfalso;omega
   ·by_cases c1:a.Cell<b.Cell
    ·simp[k1,k2,c1]
    ·by_cases c2:a.Cell>b.Cell
     ·exfalso;omega
     ·have s1:a.cL<b.cL:=U;simp[k1,k2,c1,c2,s1]
theorem aim:Go.Sort.SWO (Go.Proofs.ltOf (λa b=>Option.getD (pL.f a b) 0)) where
 irrefl x:=by rw[Pp];simp
 trans x y z h1 h2:=by rw[Pp] at*;simp only[decide_eq_true_eq] at*;omega
 ntrans x y z h1 h2:=by rw[Pp] at*;simp only[decide_eq_false_iff_not] at*;omega
theorem aiG: ∀w,(isAgg 285).run Tryz.prog w= .ok true w:=λw=>by kernel_rfl
theorem aiJ: ∀w,(Go.sizeOf 285).run Tryz.prog w= .ok 3 w:=λw=>by kernel_rfl
theorem Bd.c {iV:Option Addr} {iZ:Nat} {eG:Hp} {s r:List ba} {F:Hp} (H:Bd.f s=some r) (cX:aj cH 285 s iV iZ eG):
 QR 208 [(ll iV s iZ),(.func (.func 209) #[] #[])] [eG] [] F (Bd.R iV iZ (List.length s) r):=by
 obtain⟨hl,H⟩:=aA H;obtain rfl:=Option.some.inj H;exact aiK Go.Proofs.Tryz.aiH cH aiG aiJ (λa b=>Option.getD (pL.f a b) 0) aim 209 (Go.Proofs.enters_of Tryz.func209 az J) (λx y F=>pL.c (F:=F) (ail x y)) 285 (λF=>K0.c (r:=()) (F:=F) az) s F hl cX
def nf.f (l:(List ba)):Option (List ba):=(rV.f l).bind λv1=>(Bd.f v1).bind λv2=>(jN.f v2).bind λv3=>some v3
def nf.R (r:(List ba)):bm:=λu G=> ∃a0 n0 H0,aj cH 285 r a0 n0 H0/\u=(ll a0 r n0)/\G=[H0]
theorem nf.c (H:nf.f l=some r) (dh:aU cH l iy F) (gz:List.length l<=iq):
 QR 180 [(ll iy l iq)] [] [] F (nf.R r):=by
 unfold nf.f at H;refine aG Tryz.func180 J J (λW=>rc T 8 (kr rV.R [] [] J S6 H (rV.c · (rO dh 0) gz) (λv1 H=>?_)));rintro _ _ ⟨a1,n1,H1,s1,rfl,rfl⟩;refine fz J (ro T 6 (kr (Bd.R a1 n1 (List.length v1)) [] [1] J ac2 H (Bd.c · s1) (λv2 H=>?_)));rintro _ _ ⟨H2,s2,l2,rfl,rfl⟩;refine fz J (kf [] [0,0] [(0,(ll a1 v2 n1))] J J ⟨(by first |rfl |(simp only[ll,l2];rfl)),trivial⟩ (ro T 5 ?_))
 refine kr jN.R [] [1] J ac3 H (jN.c · s2) (λv3 H=>?_);rintro _ _ ⟨a3,n3,H3,s3,rfl,rfl⟩;refine fz J (ro T 2 (ks [2] J (rx T 2 ?_)))
 cases H;exact p1 T J [1,0] ⟨a3,n3,H3,s3,J,J⟩ J
def Bb.f (a:(List ba)) (b:(List ba)):Option Bool:=(qS.f a b).bind λv1=>some v1
theorem Bb.c (H:Bb.f a b=some r) (DY:aU cH a Fs F) (Ma:List.length a<=Hb) (ic:aU cH b j7 F) (gy:List.length b<=jU):
 QU 185 [(ll Fs a Hb),(ll j7 b jU)] [] F (bb r):=by
 unfold Bb.f at H;refine aG Tryz.func185 J J (λW=>rc T 9 (k [] J adb H (qS.c · (rO DY 0) Ma (rO ic 0) gy) (λv1 H=>ro T 4 ?_)))
 cases H;exact p0 T J [0] J
def kN.l0:Nat->(List ba)->Int->Int->Int->Bool->Int->Option Int
 |0,_,_,_,_,_,_=>none
 |k7+1,l,cell,side,x4,x5,x6=>if x6<(List.length l:Int) then(if(0<=x6/\x6<(List.length l:Int)) then((if((rd l x6).Cell==cell)=true then(if((rd l x6).cL==side)=true then(if(!x5)=true then(some true) else(some (decide ((rd l x6).Key<x4)))) else(some false)) else(some false)).bind λx8=>if x8=true then(kN.l0 k7 l cell side ((rd l x6).Key) true (aa (x6+1))) else(kN.l0 k7 l cell side x4 x5 (aa (x6+1)))) else none) else(some x4)
def kN.f (l:(List ba)) (cell:Int) (side:Int):Option Int:=kN.l0 fuel l cell side 1099511627776 false 0
theorem kN.c (H:kN.f l cell side=some r) (dh:aU cH l iy F) (gz:List.length l<=iq):
 QU 250 [(ll iy l iq),(ii cell),(ii side)] [] F (ii r):=by
 unfold kN.f at H;refine aG Tryz.func250 J J (λW=>rc T 20 (lq [1,2,11,12] [0] (λ(⟨k7,x4,x5,x6⟩:Nat×Int×Bool×Int)=>(kN.l0 k7 l cell side x4 x5 x6=some r,[(7,(ii x4)),(8,(bb x5)),(13,(ii x6))],[])) J J (fuel,1099511627776,false,0) [0] H J J ?_));rintro k7 ⟨x4,x5,x6⟩ Z1;replace Z1:kN.l0 (k7+1) l cell side x4 x5 x6=some r:=Z1;rw[kN.l0] at Z1;refine rc T 6 (cd J Z1 (λZ1=>?_) (λZ1=>?_))
 ·refine rc T 6 ?_;obtain⟨c3,Z1⟩:=aA Z1;obtain⟨q1,o1,e1⟩:=dh.addr c3.1 c3.2;refine ix T J e1 c3 (bz J (fX T (cs:=[(ii (rd l x6).Cell),(ii (rd l x6).cL),(ii (rd l x6).Key)]) J J J J J J (ig (k:=cH) (rO dh 0) e1 c3 J)) (nc T J (λb2=>sg T 1 J (ro T 2 (mq Z1 [1,2,7,8,10,11,12,13] [0,0] (λz9 (x8:Bool)=>(x8=z9,[(36,(bb x8))],[])) J J (λz9 Z4 _=>?_) ?_)))))
  ·refine rc T 2 (lf T 1 J (ro T 3 (ab 21 J Z4 (λZ4=>?_) (λZ4=>?_))))
   ·refine ro T 1 (lf T 1 J (ro T 4 (ab 27 J Z4 (λZ4=>?_) (λZ4=>?_))))
    ·refine ro T 3 (ab 30 J Z4 (λZ4=>?_) (λZ4=>?_))
     ·refine ro T 8 (am _ [0,0] (oi Z4) J J)
     refine ro T 1 (lf T 1 J (ro T 6 (am _ [0,0] (oi Z4) J J)))
    refine ro T 11 (am _ [0,0] (oi Z4) J J)
   refine ro T 17 (am _ [0,0] (oi Z4) J J)
  rintro _ x8 rfl Z1;refine cb J Z1 (λZ1=>?_) (λZ1=>?_)
  ·refine rc T 2 (lf T 1 J (ro T 10 (ar (_,_,_) [0] Z1 J J)))
  refine rc T 8 (ar (_,_,_) [0] Z1 J J)
 refine rc T 12 ?_
 cases Z1;exact p0 T J [0] J
end
noncomputable section
def j4.l0:Nat->de->eK->List ba->Option de
 |0,_,_,_=>none
 |zd+1,s,x9,aN=>(if(List.length aN:Int)>0 then(if(0<=(0:Int)/\(0:Int)<(List.length aN:Int)) then((s_.f x9 ((rd aN 0).Key) ((rd aN 0).Cell)).bind λcD=>some (cD.2,cD.1)) else none) else(some (x9,false))).bind λ(bg,aS)=>if aS=true then(if(0<=(1:Int)/\(1:Int)<=(List.length aN:Int)/\(List.length aN:Int)<=(List.length aN:Int)) then(j4.l0 zd s bg (aB aN 1 (List.length aN:Int))) else none) else(some (de.mk s.t bg aN s.aP))
def j4.f (s:de):Option de:=((if(List.length s.todo:Int)>0 then((vW.f s.wait).bind λv5=>some (v5==0)) else(some false)).bind λx3=>if x3=true then(if(0<=(0:Int)/\(0:Int)<(List.length s.todo:Int)) then((xH.f s.wait ((rd s.todo 0).Key)).bind λv6=>some v6.2) else none) else(some s.wait)).bind λx1=>j4.l0 fuel s x1 s.todo
def j4.R (bj:Nat) (y0:Value) (BU:List ba) (BS:Option Addr) (BT:Nat) (r:de):bm:=λu G=> ∃(b0:Nat) (H0:Hp) (a1:Option Addr) (n1:Nat) (a2 n2 H2:_),kt r.wait b0 H0/\dx cH BU BS BT r.todo a1 n1/\List.length r.todo<=n1/\aj (Fl.int .i64) 3 r.aP a2 n2 H2/\u=(.tuple #[])/\G=[(cl bj 369 [(ii r.t.W),(ii r.t.H),y0,(pp b0),(ll a1 r.todo n1),(ll a2 r.aP n2)]),H0,H2]
theorem j4.c (H:j4.f s=some r) (qa:aU (Fl.int .u8) s.t.C ky F) (tS:List.length s.t.C<=kL) (we:kt s.wait pa zW) (po:aU cH s.todo mP F) (jE:List.length s.todo<=mY) (tn:aj (Fl.int .i64) 3 s.aP uS vK wH):
 QR 273 [(pp bj)] [(cl bj 369 [(ii s.t.W),(ii s.t.H),(ll ky s.t.C kL),(pp pa),(ll mP s.todo mY),(ll uS s.aP vK)]),zW,wH] [] F (j4.R bj (ll ky s.t.C kL) s.todo mP mY r):=by
 unfold j4.f at H;refine aG Tryz.func273 J J (λW=>mq H [0] [3,0,1] (λz2 (⟨x1,H4⟩:eK×Hp)=>(x1=z2/\kt x1 pa H4,[],[H4])) J J (λz2 Z1 _=>?_) ?_)
 ·refine mq Z1 [0] [3,0,0,0] (λz4 (x3:Bool)=>(x3=z4,[(15,(bb x3))],[])) J J (λz4 Z2 _=>?_) ?_
  ·refine rc T 4 (lf T 0 J (ro T 3 (ad 8 J Z2 (λZ2=>?_) (λZ2=>?_))))
   ·refine ro T 3 (lf T 0 J (k [1] J Np Z2 (vW.c · we) (λv5 Z2=>ro T 4 (am _ [3,0,0,0] (oi Z2) J J))))
   refine ro T 9 (am _ [3,0,0,0] (oi Z2) J J)
  rintro _ x3 rfl Z1;refine cb J Z1 (λZ1=>?_) (λZ1=>?_)
  ·refine fz J (rz [11] mix (bM bL) (λhg pf=>ha T 9 [0,1,2] sz hg pf J (av 3 sz hg pf J (aw T J J J J (aI (j:=1) J J)) (ha T 5 [4,5,6] sz hg pf J (av 7 sz hg pf J (aw T J J J J (aI (j:=1) J J)) ?_)))));obtain⟨c6,Z1⟩:=aA Z1;obtain⟨q5,o5,e5⟩:=po.addr c6.1 c6.2;refine av 8 sz hg pf J (cT T J J J J J e5 c6.1 c6.2) (ha T 2 [9] sz hg pf J (av 10 sz hg pf J (aw T J J J J (iY (k:=cH) (rO po 0) e5 c6 2 J)) (ao 11 (kR (xH.R pa) [] [2] J adK Z1 (xH.c · we) (λv6 Z1=>?_)))));rintro _ _ ⟨H6,s6,rfl,rfl⟩;refine fz J (an sl (ae (rx T 1 (am (_,_) [0,0,0,0] ⟨oi Z1,s6⟩ J J))))
  refine rc T 2 (am (_,_) [0,0,1,0] ⟨oi Z1,we⟩ J J)
 rintro _ ⟨x1,H4⟩ ⟨rfl,s4⟩ H;refine rc T 1 (lq [0] [0,1] (λ(⟨zd,x9,aN,H9,cw,n10⟩:Nat×eK×List ba×Hp×Option Addr×Nat)=>(j4.l0 zd s x9 aN=some r/\kt x9 pa H9/\dx cH s.todo mP mY aN cw n10/\List.length aN<=n10,[],[(cl bj 369 [(ii s.t.W),(ii s.t.H),(ll ky s.t.C kL),(pp pa),(ll cw aN n10),(ll uS s.aP vK)]),H9])) J J (fuel,x1,s.todo,H4,mP,mY) [0,1,0,0] ⟨H,s4,dx.self,jE⟩ J J ?_);rintro zd ⟨x9,aN,H9,cw,n10⟩ ⟨Z8,s9,BP,FL⟩;rw[j4.l0] at Z8;refine rc T 1 (mq Z8 [0] [0,1,0] (λBw (⟨bg,aS,cB⟩:eK×Bool×Hp)=>((bg,aS)=Bw/\kt bg pa cB,[(54,(bb aS))],[cB])) J J (λBw Z9 _=>?_) ?_)
 ·refine fz J (rz [25] mix (bM bL) (λhg pf=>ha T 24 [0,1,2] sz hg pf J (av 3 sz hg pf J (aw T J J J J (aI (j:=2) J J)) (ha T 20 [4,5,6] sz hg pf J (ad 34 J Z9 (λZ9=>?_) (λZ9=>?_))))))
  ·refine ha T 17 [7,8,9] sz hg pf J (av 10 sz hg pf J (aw T J J J J (aI (j:=2) J J)) (ha T 13 [11,12,13] sz hg pf J (av 14 sz hg pf J (aw T J J J J (aI (j:=2) J J)) ?_)));obtain⟨eH,Z9⟩:=aA Z9;obtain⟨vQ,OL,sE⟩:=(dx.r BP po jE).addr eH.1 eH.2;refine av 15 sz hg pf J (cT T J J J J J sE eH.1 eH.2) (ha T 10 [16] sz hg pf J (av 17 sz hg pf J (aw T J J J J (iY (k:=cH) (oy BP (rO po 0) jE) sE eH 2 J)) (ha T 6 [18,19,20] sz hg pf J (av 21 sz hg pf J (aw T J J J J (aI (j:=2) J J)) (av 22 sz hg pf J (cT T J J J J J sE eH.1 eH.2) (ha T 3 [23] sz hg pf J (av 24 sz hg pf J (aw T J J J J (iY (k:=cH) (oy BP (rO po 0) jE) sE eH 0 J)) (ao 25 (kR (s_.R pa) [] [3] J Tu Z9 (s_.c · s9) (λcD Z9=>?_))))))))));rintro _ _ ⟨eJ,dm,rfl,rfl⟩;refine fz J (an sl (hb T 26 sl hg pf J (ae (rx T 1 (am (_,_,_) [0,1,0,0] ⟨oi Z9,dm⟩ J J)))))
  refine ha T 2 [7,8,9,10,11,12,13,14,15,16,17,18,19,20,21,22,23,24] sz hg pf J (ao 25 (Zw J (an sl (hb T 26 sl hg pf J (ae (rx T 1 (am (_,_,_) [0,1,0,0] ⟨oi Z9,s9⟩ J J)))))))
 rintro _ ⟨bg,aS,cB⟩ ⟨rfl,dj⟩ Z8;refine cb J Z8 (λZ8=>?_) (λZ8=>?_)
 ·refine rc T 8 (lf T 1 J ?_);obtain⟨pc,Z8⟩:=aA Z8;refine bz J (kF T J J J J J J pc FL) (ro T 2 (sg T 1 J (ro T 3 (ar (_,_,_,_,_) [0,1,0,0] ⟨Z8,dj,(dx.sub BP jE pc),(mL pc FL)⟩ J J))))
 refine rc T 4 (jf ?_)
 cases Z8;exact p1 T J [1,2,1,0] ⟨pa,cB,cw,n10,uS,vK,wH,dj,BP,FL,tn,J,J⟩ J
def kP.f (s:de) (ai:Int) (key:Int):Option de:=(if(0<=ai/\ai<(List.length s.t.C:Int)) then(if((rd s.t.C ai)!=255)=true then(if(0<=ai/\ai<(List.length s.aP:Int)) then(some ((rd s.aP ai)==1099511627776)) else none) else(some false)) else none).bind λx1=>if x1=true then((s_.f s.wait key ai).bind λv3=>some (de.mk s.t v3.2 s.todo s.aP)) else(some s)
def kP.R (bj:Nat) (y0:Value) (BU:List ba) (BS:Option Addr) (BT:Nat) (r:de):bm:=λu G=> ∃(b0:Nat) (H0:Hp) (a1:Option Addr) (n1:Nat) (a2 n2 H2:_),kt r.wait b0 H0/\dx cH BU BS BT r.todo a1 n1/\List.length r.todo<=n1/\aj (Fl.int .i64) 3 r.aP a2 n2 H2/\u=(.tuple #[])/\G=[(cl bj 369 [(ii r.t.W),(ii r.t.H),y0,(pp b0),(ll a1 r.todo n1),(ll a2 r.aP n2)]),H0,H2]
theorem kP.c (H:kP.f s ai key=some r) (qa:aU (Fl.int .u8) s.t.C ky F) (tS:List.length s.t.C<=kL) (we:kt s.wait pa zW) (po:aU cH s.todo mP F) (jE:List.length s.todo<=mY) (tn:aj (Fl.int .i64) 3 s.aP uS vK wH):
 QR 294 [(pp bj),(ii ai),(ii key)] [(cl bj 369 [(ii s.t.W),(ii s.t.H),(ll ky s.t.C kL),(pp pa),(ll mP s.todo mY),(ll uS s.aP vK)]),zW,wH] [] F (kP.R bj (ll ky s.t.C kL) s.todo mP mY r):=by
 unfold kP.f at H;refine aG Tryz.func294 J J (λW=>mq H [0,1,2] [3,0,0,0] (λz2 (x1:Bool)=>(x1=z2,[(24,(bb x1))],[])) J J (λz2 Z1 _=>?_) ?_)
 ·refine rc T 5 (lf T 0 J (ro T 1 ?_));obtain⟨c2,Z1⟩:=aA Z1;obtain⟨q4,o4,e4⟩:=qa.addr c2.1 c2.2;refine ix T J e4 c2 (le T 0 (rO qa 3) e4 c2 J J (ro T 2 (ab 15 J Z1 (λZ1=>?_) (λZ1=>?_))))
  ·refine ro T 3 (lf T 0 J (ro T 1 ?_));obtain⟨c4,Z1⟩:=aA Z1;obtain⟨q5,o5,e5⟩:=tn.r.addr c4.1 c4.2;refine ix T J e5 c4 (le T 0 (oO tn 2) e5 c4 J J (ro T 4 (am _ [3,0,0,0] (oi Z1) J J)))
  refine ro T 11 (am _ [3,0,0,0] (oi Z1) J J)
 rintro _ x1 rfl H;refine cb J H (λH=>?_) (λH=>?_)
 ·refine rc T 4 (lf T 1 J (ro T 2 (kr (s_.R pa) [] [2] J Tu H (s_.c · we) (λv3 H=>?_))));rintro _ _ ⟨H6,s6,rfl,rfl⟩;refine fz J (ro T 1 (jf ?_))
  cases H;exact p1 T J [1,2,1,0] ⟨pa,H6,mP,mY,uS,vK,wH,s6,dx.self,jE,tn,J,J⟩ J
 refine rc T 1 (jf ?_)
 cases H;exact p1 T J [1,1,1,0] ⟨pa,zW,mP,mY,uS,vK,wH,we,dx.self,jE,tn,J,J⟩ J
def xS.f (s:de) (ai:Int):Option de:=if(0<=ai/\ai<(List.length s.aP:Int)) then(if(0<=ai/\ai<(List.length s.t.C:Int)) then(if(¬s.t.W=0) then(if(¬s.t.W=0) then((if(aa (Int.tdiv ai s.t.W))>0 then((kP.f s (aa (ai-s.t.W)) (aa ((rd s.aP ai)+(aa (rd s.t.C ai))))).bind λv7=>some (v7.t.W,v7.t.H,v7.wait,v7.todo,v7.aP)) else(some (s.t.W,s.t.H,s.wait,s.todo,s.aP))).bind λ(x1,x2,x3,x4,x5)=>(if(Int.tmod ai s.t.W)<(aa (x1-1)) then((kP.f (de.mk (aM.mk x1 x2 s.t.C) x3 x4 x5) (aa (ai+1)) (aa ((rd s.aP ai)+(aa (rd s.t.C ai))))).bind λdq=>some (dq.t.W,dq.t.H,dq.wait,dq.todo,dq.aP)) else(some (x1,x2,x3,x4,x5))).bind λ(x8,x9,aN,bd,bg)=>if(aa (Int.tdiv ai s.t.W))<(aa (x9-1)) then((kP.f (de.mk (aM.mk x8 x9 s.t.C) aN bd bg) (aa (ai+x8)) (aa ((rd s.aP ai)+(aa (rd s.t.C ai))))).bind λcD=>if(Int.tmod ai s.t.W)>0 then((kP.f (de.mk (aM.mk cD.t.W cD.t.H s.t.C) cD.wait cD.todo cD.aP) (aa (ai-1)) (aa ((rd s.aP ai)+(aa (rd s.t.C ai))))).bind λdG=>some (de.mk (aM.mk dG.t.W dG.t.H s.t.C) dG.wait dG.todo dG.aP)) else(some (de.mk (aM.mk cD.t.W cD.t.H s.t.C) cD.wait cD.todo cD.aP))) else(if(Int.tmod ai s.t.W)>0 then((kP.f (de.mk (aM.mk x8 x9 s.t.C) aN bd bg) (aa (ai-1)) (aa ((rd s.aP ai)+(aa (rd s.t.C ai))))).bind λv17=>some (de.mk (aM.mk v17.t.W v17.t.H s.t.C) v17.wait v17.todo v17.aP)) else(some (de.mk (aM.mk x8 x9 s.t.C) aN bd bg)))) else none) else none) else none) else none
def xS.R (bj:Nat) (y0:Value) (BU:List ba) (BS:Option Addr) (BT:Nat) (r:de):bm:=λu G=> ∃(b0:Nat) (H0:Hp) (a1:Option Addr) (n1:Nat) (a2 n2 H2:_),kt r.wait b0 H0/\dx cH BU BS BT r.todo a1 n1/\List.length r.todo<=n1/\aj (Fl.int .i64) 3 r.aP a2 n2 H2/\u=(.tuple #[])/\G=[(cl bj 369 [(ii r.t.W),(ii r.t.H),y0,(pp b0),(ll a1 r.todo n1),(ll a2 r.aP n2)]),H0,H2]
theorem xS.c (H:xS.f s ai=some r) (qa:aU (Fl.int .u8) s.t.C ky F) (tS:List.length s.t.C<=kL) (we:kt s.wait pa zW) (po:aU cH s.todo mP F) (jE:List.length s.todo<=mY) (tn:aj (Fl.int .i64) 3 s.aP uS vK wH):
 QR 276 [(pp bj),(ii ai)] [(cl bj 369 [(ii s.t.W),(ii s.t.H),(ll ky s.t.C kL),(pp pa),(ll mP s.todo mY),(ll uS s.aP vK)]),zW,wH] [] F (xS.R bj (ll ky s.t.C kL) s.todo mP mY r):=by
 unfold xS.f at H;refine aG Tryz.func276 J J (λW=>rc T 1 (dD mix az (au T J (au T J (au T J (aO J J J (aw T J J J J (aI (j:=0) J J)) (au T J ?_)))))));obtain⟨c1,H⟩:=aA H;obtain⟨q4,o4,e4⟩:=tn.r.addr c1.1 c1.2;refine aO J J J (cT T J J J J J e4 c1.1 c1.2) (aO J J J (aw T J J J J (iY (k:=(Fl.int .i64)) (oO tn 2) e4 c1 0 J)) ?_)
 iterate 4 refine au T J ?_
 refine aO J J J (aw T J J J J (aI (j:=0) J J)) (au T J ?_);obtain⟨c2,H⟩:=aA H;obtain⟨q5,o5,e5⟩:=qa.addr c2.1 c2.2;refine aO J J J (cT T J J J J J e5 c2.1 c2.2) (aO J J J (aw T J J J J (iY (k:=(Fl.int .u8)) (rO qa 3) e5 c2 0 J)) (au T J (au T J (au T J (dg (rx T 2 (dD mix az ?_)))))))
 iterate 5 refine au T J ?_
 refine aO J J J (aw T J J J J (aI (j:=0) J J)) ?_;obtain⟨c3,H⟩:=aA H;refine aO J J J (vi J J J c3) ?_
 iterate 5 refine au T J ?_
 refine aO J J J (aw T J J J J (aI (j:=0) J J)) ?_;obtain⟨c4,H⟩:=aA H;refine aO J J J (vh J J J c4) (au T J (au T J (dg (rx T 1 (mq H [0,1,4,5,6] [3] (λz6 (⟨x1,x2,x3,x4,x5,b6,H6,a7,n7,a8,n8,H8⟩:Int×Int×eK×List ba×List Int×Nat×Hp×Option Addr×Nat×Option Addr×Nat×Hp)=>((x1,x2,x3,x4,x5)=z6/\kt x3 b6 H6/\dx cH s.todo mP mY x4 a7 n7/\List.length x4<=n7/\aj (Fl.int .i64) 3 x5 a8 n8 H8,[],[(cl bj 369 [(ii x1),(ii x2),(ll ky s.t.C kL),(pp b6),(ll a7 x4 n7),(ll a8 x5 n8)]),H6,H8])) J J (λz6 Z5 _=>?_) ?_)))))
 ·refine rc T 6 (cd J Z5 (λZ5=>?_) (λZ5=>?_))
  ·refine rc T 7 (lf T 0 J (ro T 2 (kr (kP.R bj (ll ky s.t.C kL) s.todo mP mY) [] [0,0,0] J Gb Z5 (kP.c · (rO qa 0) tS we (rO po 0) jE tn) (λv7 Z5=>?_))));rintro _ _ ⟨b9,H9,cw,n10,dA,n11,cB,s9,BP,FL,dj,rfl,rfl⟩;refine fz J (ro T 2 (am (_,_,_,_,_,_,_,_,_,_,_,_) [0,0,0,0] ⟨oi Z5,s9,BP,FL,dj⟩ J J))
  refine rc T 2 (am (_,_,_,_,_,_,_,_,_,_,_,_) [3,0,0,0] ⟨oi Z5,we,dx.self,jE,tn⟩ J J)
 rintro _ ⟨x1,x2,x3,x4,x5,b6,H6,a7,n7,a8,n8,H8⟩ ⟨rfl,s6,LZ,Q1,s8⟩ H;refine mq H [0,1,4,5,6] [0] (λBv (⟨x8,x9,aN,bd,bg,kz,dz,dH,n13,iT,n14,fV⟩:Int×Int×eK×List ba×List Int×Nat×Hp×Option Addr×Nat×Option Addr×Nat×Hp)=>((x8,x9,aN,bd,bg)=Bv/\kt aN kz dz/\dx cH s.todo mP mY bd dH n13/\List.length bd<=n13/\aj (Fl.int .i64) 3 bg iT n14 fV,[],[(cl bj 369 [(ii x8),(ii x9),(ll ky s.t.C kL),(pp kz),(ll dH bd n13),(ll iT bg n14)]),dz,fV])) J J (λBv Z8 _=>?_) ?_
 ·refine rc T 7 (lf T 1 J (ro T 4 (cd J Z8 (λZ8=>?_) (λZ8=>?_))))
  ·refine rc T 5 (kr (kP.R bj (ll ky s.t.C kL) x4 a7 n7) [] [1,1,1] J Gb Z8 (kP.c (s:=(de.mk (aM.mk x1 x2 s.t.C) x3 x4 x5)) · (rO qa 0) tS s6 (oy LZ (rO po 0) jE) Q1 s8) (λdq Z8=>?_));rintro _ _ ⟨nt,dP,j6,n16,a17,n17,eF,dV,ZK,aad,fq,rfl,rfl⟩;refine fz J (ro T 2 (am (_,_,_,_,_,_,_,_,_,_,_,_) [0,0,0,0] ⟨oi Z8,dV,(dx.trans LZ jE ZK),aad,fq⟩ J J))
  refine rc T 2 (am (_,_,_,_,_,_,_,_,_,_,_,_) [0,0,0,0] ⟨oi Z8,s6,LZ,Q1,s8⟩ J J)
 rintro _ ⟨x8,x9,aN,bd,bg,kz,dz,dH,n13,iT,n14,fV⟩ ⟨rfl,dL,BQ,I6,gC⟩ H;refine rc T 8 (lf T 1 J (ro T 4 (cd J H (λH=>?_) (λH=>?_))))
 ·refine rc T 7 (lf T 1 J (ro T 2 (kr (kP.R bj (ll ky s.t.C kL) bd dH n13) [] [1,1,1] J Gb H (kP.c (s:=(de.mk (aM.mk x8 x9 s.t.C) aN bd bg)) · (rO qa 0) tS dL (oy BQ (rO po 0) jE) I6 gC) (λcD H=>?_))));rintro _ _ ⟨pW,fe,mr,n19,a20,n20,oh,ft,LX,QW,me,rfl,rfl⟩;refine fz J (ro T 8 (cd J H (λH=>?_) (λH=>?_)))
  ·refine rc T 5 (kr (kP.R bj (ll ky s.t.C kL) cD.todo mr n19) [] [1,1,1] J Gb H (kP.c (s:=(de.mk (aM.mk cD.t.W cD.t.H s.t.C) cD.wait cD.todo cD.aP)) · (rO qa 0) tS ft (oy LX (oy BQ (rO po 0) jE) I6) QW me) (λdG H=>?_));rintro _ _ ⟨Ac,lC,a22,n22,a23,n23,jQ,jY,ZM,aag,g_,rfl,rfl⟩;refine fz J (ro T 1 (jf ?_))
   cases H;exact p1 T J [1,1,1,0] ⟨Ac,lC,a22,n22,a23,n23,jQ,jY,(dx.trans (dx.trans BQ jE LX) jE ZM),aag,g_,J,J⟩ J
  refine rc T 1 (jf ?_)
  cases H;exact p1 T J [1,1,1,0] ⟨pW,fe,mr,n19,a20,n20,oh,ft,(dx.trans BQ jE LX),QW,me,J,J⟩ J
 refine rc T 8 (cd J H (λH=>?_) (λH=>?_))
 ·refine rc T 5 (kr (kP.R bj (ll ky s.t.C kL) bd dH n13) [] [1,1,1] J Gb H (kP.c (s:=(de.mk (aM.mk x8 x9 s.t.C) aN bd bg)) · (rO qa 0) tS dL (oy BQ (rO po 0) jE) I6 gC) (λv17 H=>?_));rintro _ _ ⟨FH,qx,a25,n25,a26,n26,oo,lO,ZO,aah,mF,rfl,rfl⟩;refine fz J (ro T 1 (jf ?_))
  cases H;exact p1 T J [1,1,1,0] ⟨FH,qx,a25,n25,a26,n26,oo,lO,(dx.trans BQ jE ZO),aah,mF,J,J⟩ J
 refine rc T 1 (jf ?_)
 cases H;exact p1 T J [1,1,1,0] ⟨kz,dz,dH,n13,iT,n14,fV,dL,BQ,I6,gC,J,J⟩ J
def nZ.l0:Nat->de->Int->Int->eK->List ba->List Int->Option de
 |0,_,_,_,_,_,_=>none
 |GL+1,s,x7,x8,x9,aN,bd=>(vW.f x9).bind λlz=>if lz>0 then((oI.f x9).bind λdq=>if(0<=dq.2.1/\dq.2.1<(List.length bd:Int)) then(if((rd bd dq.2.1)==1099511627776)=true then((xS.f (de.mk (aM.mk x7 x8 s.t.C) dq.2.2.2 aN (List.set bd (Int.toNat dq.2.1) dq.1)) dq.2.1).bind λcD=>(j4.f (de.mk (aM.mk cD.t.W cD.t.H s.t.C) cD.wait cD.todo cD.aP)).bind λdG=>nZ.l0 GL s dG.t.W dG.t.H dG.wait dG.todo dG.aP) else((j4.f (de.mk (aM.mk x7 x8 s.t.C) dq.2.2.2 aN bd)).bind λv17=>nZ.l0 GL s v17.t.W v17.t.H v17.wait v17.todo v17.aP)) else none) else(some (de.mk (aM.mk x7 x8 s.t.C) x9 aN bd))
def nZ.f (s:de):Option de:=(j4.f s).bind λv1=>nZ.l0 fuel s v1.t.W v1.t.H v1.wait v1.todo v1.aP
def nZ.R (bj:Nat) (y0:Value) (BU:List ba) (BS:Option Addr) (BT:Nat) (r:de):bm:=λu G=> ∃(b0:Nat) (H0:Hp) (a1:Option Addr) (n1:Nat) (a2 n2 H2:_),kt r.wait b0 H0/\dx cH BU BS BT r.todo a1 n1/\List.length r.todo<=n1/\aj (Fl.int .i64) 3 r.aP a2 n2 H2/\u=(.tuple #[])/\G=[(cl bj 369 [(ii r.t.W),(ii r.t.H),y0,(pp b0),(ll a1 r.todo n1),(ll a2 r.aP n2)]),H0,H2]
theorem nZ.c (H:nZ.f s=some r) (qa:aU (Fl.int .u8) s.t.C ky F) (tS:List.length s.t.C<=kL) (we:kt s.wait pa zW) (po:aU cH s.todo mP F) (jE:List.length s.todo<=mY) (tn:aj (Fl.int .i64) 3 s.aP uS vK wH):
 QR 249 [(pp bj)] [(cl bj 369 [(ii s.t.W),(ii s.t.H),(ll ky s.t.C kL),(pp pa),(ll mP s.todo mY),(ll uS s.aP vK)]),zW,wH] [] F (nZ.R bj (ll ky s.t.C kL) s.todo mP mY r):=by
 unfold nZ.f at H;refine aG Tryz.func249 J J (λW=>rc T 3 (kr (j4.R bj (ll ky s.t.C kL) s.todo mP mY) [] [0,0,0] J Nn H (j4.c · (rO qa 0) tS we (rO po 0) jE tn) (λv1 H=>?_)));rintro _ _ ⟨b4,H4,a5,n5,a6,n6,H6,s4,FJ,QZ,s6,rfl,rfl⟩;refine fz J (ro T 3 (lq [0] [0] (λ(⟨GL,x7,x8,x9,aN,bd,fR,bZ,dA,n11,a12,n12,dz⟩:Nat×Int×Int×eK×List ba×List Int×Nat×Hp×Option Addr×Nat×Option Addr×Nat×Hp)=>(nZ.l0 GL s x7 x8 x9 aN bd=some r/\kt x9 fR bZ/\dx cH s.todo mP mY aN dA n11/\List.length aN<=n11/\aj (Fl.int .i64) 3 bd a12 n12 dz,[],[(cl bj 369 [(ii x7),(ii x8),(ll ky s.t.C kL),(pp fR),(ll dA aN n11),(ll a12 bd n12)]),bZ,dz])) J J (fuel,v1.t.W,v1.t.H,v1.wait,v1.todo,v1.aP,b4,H4,a5,n5,a6,n6,H6) [0,0,0,0] ⟨H,s4,FJ,QZ,s6⟩ J J ?_));rintro GL ⟨x7,x8,x9,aN,bd,fR,bZ,dA,n11,a12,n12,dz⟩ ⟨Z2,bU,yx,Af,dL⟩;rw[nZ.l0] at Z2;refine rc T 6 (lf T 1 J (k [2] J Np Z2 (vW.c · bU) (λlz Z2=>ro T 3 (cd J Z2 (λZ2=>?_) (λZ2=>?_)))))
 ·refine rc T 9 (lf T 1 J (kr (oI.R fR) [] [2] J adE Z2 (oI.c · bU) (λdq Z2=>?_)));rintro _ _ ⟨eJ,dm,rfl,rfl⟩;refine fz J (ro T 14 (lf T 1 J (ro T 1 ?_)));obtain⟨c6,Z2⟩:=aA Z2;obtain⟨VU,Vr,wX⟩:=dL.r.addr c6.1 c6.2;refine ix T J wX c6 (le T 0 (oO dL 2) wX c6 J J (ro T 3 (cb J Z2 (λZ2=>?_) (λZ2=>?_))))
  ·refine rc T 5 (lf T 1 J (ro T 2 (ix T J wX c6 (aZ (kU (k:=(Fl.int .i64)) T 2 0 dq.1 J J J J J J dL wX c6 J J J (λdP dV=>kg [0,3] [0,1,1] [0,1,1,0] [] [(cl bj 369 [(ii x7),(ii x8),(ll ky s.t.C kL),(pp fR),(ll dA aN n11),(ll a12 (List.set bd (Int.toNat dq.2.1) dq.1) n12)])] J J trivial dN (ro T 5 (kr (xS.R bj (ll ky s.t.C kL) aN dA n11) [] [3,2,1] J adF Z2 (xS.c (s:=(de.mk (aM.mk x7 x8 s.t.C) dq.2.2.2 aN (List.set bd (Int.toNat dq.2.1) dq.1))) · (rO qa 0) tS dm (oy yx (rO po 0) jE) Af dV) (λcD Z2=>?_)))))))));rintro _ _ ⟨pV,gk,a17,n17,iU,n18,fe,gd,QL,aae,ft,rfl,rfl⟩;refine fz J (ro T 1 (ks [0] J (rx T 4 (kr (j4.R bj (ll ky s.t.C kL) cD.todo a17 n17) [] [1,1,1] J Nn Z2 (j4.c (s:=(de.mk (aM.mk cD.t.W cD.t.H s.t.C) cD.wait cD.todo cD.aP)) · (rO qa 0) tS gd (oy QL (oy yx (rO po 0) jE) Af) aae ft) (λdG Z2=>?_)))));rintro _ _ ⟨QM,kn,a20,n20,a21,n21,lC,gp,ZL,aaf,jY,rfl,rfl⟩;refine fz J (ro T 2 (ar (_,_,_,_,_,_,_,_,_,_,_,_) [0,0,0,0] ⟨Z2,gp,(dx.trans (dx.trans yx jE QL) jE ZL),aaf,jY⟩ J J))
  refine rc T 5 (kr (j4.R bj (ll ky s.t.C kL) aN dA n11) [] [1,2,1] J Nn Z2 (j4.c (s:=(de.mk (aM.mk x7 x8 s.t.C) dq.2.2.2 aN bd)) · (rO qa 0) tS dm (oy yx (rO po 0) jE) Af dL) (λv17 Z2=>?_));rintro _ _ ⟨kA,mN,a23,n23,a24,n24,qx,iO,QN,QY,lO,rfl,rfl⟩;refine fz J (ro T 2 (ar (_,_,_,_,_,_,_,_,_,_,_,_) [0,0,0,0] ⟨Z2,iO,(dx.trans yx jE QN),QY,lO⟩ J J))
 refine rc T 4 (jf ?_)
 cases Z2;exact p1 T J [1,1,1,0] ⟨fR,bZ,dA,n11,a12,n12,dz,bU,yx,Af,dL,J,J⟩ J
def tD.f (t:aM) (l:(List ba)):Option ((List Int)×Int):=(zG.f t l).bind λv1=>if(!v1)=true then(some ([],1)) else(((vV.f 0).bind λv9=>du v9 (none) (λXC=>(nf.f l).bind λv10=>(km.f [1099511627776] (List.length t.C:Int)).bind λv11=>some (t.W,t.H,t.C,XC,v10,v11))).bind λ(x2,x3,x4,x5,x6,x7)=>(nZ.f (de.mk (aM.mk x2 x3 x4) x5 x6 x7)).bind λv17=>some (v17.aP,0))
def tD.R (r:((List Int)×Int)):bm:=λu G=> ∃a0 n0 H0,aj (Fl.int .i64) 3 r.1 a0 n0 H0/\u=(.tuple #[(ll a0 r.1 n0),(ii r.2)])/\G=[H0]
theorem tD.c (H:tD.f t l=some r) (dS:aU (Fl.int .u8) t.C iz F) (fo:List.length t.C<=iC) (dh:aU cH l iy F) (gz:List.length l<=iq):
 QR 228 [(.agg #[(ii t.W),(ii t.H),(ll iz t.C iC)]),(ll iy l iq)] [] [] F (tD.R r):=by
 unfold tD.f at H;refine aG Tryz.func228 J J (λW=>rc T 2 (nc T J (λb1=>ro T 7 (lm T 1 J (ro T 1 (k [] J S4 H (zG.c · (rO dS 0) fo (rO dh 0) gz) (λv1 H=>ro T 3 (cb J H (λH=>?_) (λH=>?_)))))))))
 ·refine rc T 8 ?_
  cases H;refine bC (p1 T J [2,0] ⟨none,0,[],aj.nil,J,J⟩ J)
 refine rc T 2 (mq H [] [0] (λz8 (⟨x2,x3,x4,x5,x6,x7,b3,a4,n4,b5,H5,a6,n6,H6,a7,n7,H7⟩:Int×Int×List Int×eK×List ba×List Int×Nat×Option Addr×Nat×Nat×Hp×Option Addr×Nat×Hp×Option Addr×Nat×Hp)=>((x2,x3,x4,x5,x6,x7)=z8/\dx (Fl.int .u8) t.C iz iC x4 a4 n4/\List.length x4<=n4/\kt x5 b5 H5/\aj cH 285 x6 a6 n6 H6/\aj (Fl.int .i64) 3 x7 a7 n7 H7,[(6,(pp b3))],[(cl b3 369 [(ii x2),(ii x3),(ll a4 x4 n4),(pp b5),(ll a6 x6 n6),(ll a7 x7 n7)]),H5,H6,H7])) J J (λz8 Z3 _=>?_) ?_)
 ·refine ks [1,2] J (fz J (rz [] mix (bM bL) (λhg pf=>av 0 sz hg pf J (gA T 1 J J J J J J J) (ha T 9 [2,5] sz hg pf J (av 6 sz hg pf J (aw T J J J J (aI (j:=1) J J)) (ha T 7 [7] sz hg pf J (fk 1 4 ?_ ?_)))))))
  ·refine kR vV.R [] [] J Tk Z3 (vV.c ·) (λv9 Z3=>?_);rintro _ _ ⟨_,_,O5,rfl,rfl⟩;rcases v9 with _ |XC
   ·replace Z3:=fi J Z3
    cases Z3
   replace Z3:=fj J Z3;obtain⟨b8,H8,s8,rfl,rfl⟩:=O5;refine an (so [0,0]) (fk 3 4 ?_ ?_)
   ·refine kR nf.R [] [] J Ga Z3 (nf.c · (rO dh 0) gz) (λv10 Z3=>?_);rintro _ _ ⟨a9,n9,H9,s9,rfl,rfl⟩;refine fz J (an (so [0,0]) (ao 4 (cV (k:=(Fl.int .i64)) T [1099511627776] J J J J J J J J J (λcw bZ bU=>an (so [0,0]) (ao 8 (kR km.R [] [] J Nl Z3 (km.c · (oO bU 4) bU.bW) (λv11 Z3=>?_)))))));rintro _ _ ⟨dA,n11,cB,dj,rfl,rfl⟩;refine fz J (an (so [0,0]) (ha T 2 [9] (so [0,0]) hg pf J (ao 10 (nw T J (λkz=>an (so [0,0]) (ha T 0 [11] (so [0,0]) hg pf J (ae (rx T 1 (am (_,_,_,_,_,_,_,_,_,_,_,_,_,_,_,_,_) [0,5,1,1,2] ⟨oi Z3,dx.self,fo,s8,s9,dj⟩ J J)))))))))
   refine cV (k:=(Fl.int .i64)) T [1099511627776] J J J J J J J J J (λdH eJ dm=>an (so [0,0]) (ao 3 (kR nf.R [] [] J Ga Z3 (nf.c · (rO dh 0) gz) (λv12 Z3=>?_))));rintro _ _ ⟨iT,n14,fV,gC,rfl,rfl⟩;refine fz J (an (so [0,0]) (ao 8 (kR km.R [] [] J Nl Z3 (km.c · (oO dm 3) dm.bW) (λlz Z3=>?_))));rintro _ _ ⟨jz,n15,dP,dV,rfl,rfl⟩;refine fz J (an (so [0,0]) (ha T 2 [9] (so [0,0]) hg pf J (ao 10 (nw T J (λpV=>an (so [0,0]) (ha T 0 [11] (so [0,0]) hg pf J (ae (rx T 1 (am (_,_,_,_,_,_,_,_,_,_,_,_,_,_,_,_,_) [0,5,1,2,2] ⟨oi Z3,dx.self,fo,s8,gC,dV⟩ J J)))))))))
  refine cV (k:=(Fl.int .i64)) T [1099511627776] J J J J J J J J J (λa17 eF fq=>an (so [0,0]) (ao 1 (kR vV.R [] [] J Tk Z3 (vV.c ·) (λdq Z3=>?_))));rintro _ _ ⟨_,_,XP,rfl,rfl⟩;rcases dq with _ |akb
  ·replace Z3:=fi J Z3
   cases Z3
  replace Z3:=fj J Z3;obtain⟨pW,fe,ft,rfl,rfl⟩:=XP;refine an (so [0,0]) (ao 3 (kR nf.R [] [] J Ga Z3 (nf.c · (rO dh 0) gz) (λcD Z3=>?_)));rintro _ _ ⟨mr,n19,kn,gp,rfl,rfl⟩;refine fz J (an (so [0,0]) (ao 8 (kR km.R [] [] J Nl Z3 (km.c · (oO fq 2) fq.bW) (λdG Z3=>?_))));rintro _ _ ⟨a20,n20,oh,me,rfl,rfl⟩;refine fz J (an (so [0,0]) (ha T 2 [9] (so [0,0]) hg pf J (ao 10 (nw T J (λAc=>an (so [0,0]) (ha T 0 [11] (so [0,0]) hg pf J (ae (rx T 1 (am (_,_,_,_,_,_,_,_,_,_,_,_,_,_,_,_,_) [0,5,2,2,2] ⟨oi Z3,dx.self,fo,ft,gp,me⟩ J J)))))))))
 rintro _ ⟨x2,x3,x4,x5,x6,x7,b3,a4,n4,b5,H5,a6,n6,H6,a7,n7,H7⟩ ⟨rfl,ZQ,c4_,s5,s6,s7⟩ H;refine rc T 3 (kr (nZ.R b3 (ll a4 x4 n4) x6 a6 n6) [] [1,1,2] J ads H (nZ.c (s:=(de.mk (aM.mk x2 x3 x4) x5 x6 x7)) · (oy ZQ (rO dS 0) fo) c4_ s5 (oO s6 1) s6.bW s7) (λv17 H=>?_));rintro _ _ ⟨kA,mN,a23,n23,a24,n24,qx,iO,QN,QY,lO,rfl,rfl⟩;refine fz J (ro T 7 (lf T 2 J (ro T 5 ?_)))
 cases H;exact p1 T J [4,0] ⟨a24,n24,qx,lO,J,J⟩ J
end
noncomputable section
def qq.l0:Nat->aM->(List Int)->Int->Option Bool
 |0,_,_,_=>none
 |k3+1,t,l,x2=>if x2<(List.length l:Int) then(if(0<=x2/\x2<(List.length l:Int)) then((Bk.f t (rd l x2)).bind λv4=>(if((v4==0)||(v4==255))=true then(some true) else(if x2>0 then(if(0<=(aa (x2-1))/\(aa (x2-1))<(List.length l:Int)) then(some (decide ((rd l x2)<=(rd l (aa (x2-1)))))) else none) else(some false))).bind λx5=>if x5=true then(some false) else(qq.l0 k3 t l (aa (x2+1)))) else none) else((tF.f t).bind λv7=>some v7)
def qq.f (t:aM) (l:(List Int)):Option Bool:=qq.l0 fuel t l 0
theorem qq.c (H:qq.f t l=some r) (dS:aU (Fl.int .u8) t.C iz F) (fo:List.length t.C<=iC) (dh:aU (Fl.int .i64) l iy F) (gz:List.length l<=iq):
 QU 266 [(.agg #[(ii t.W),(ii t.H),(ll iz t.C iC)]),(ll iy l iq)] [] F (bb r):=by
 unfold qq.f at H;refine aG Tryz.func266 J J (λW=>rc T 2 (nc T J (λb1=>ro T 12 (lq [1,2,8,9] [0,0] (λ(⟨k3,x2⟩:Nat×Int)=>(qq.l0 k3 t l x2=some r,[(10,(ii x2))],[])) J J (fuel,0) [0,0] H J J ?_))));rintro k3 x2 Z1;replace Z1:qq.l0 (k3+1) t l x2=some r:=Z1;rw[qq.l0] at Z1;refine rc T 6 (cd J Z1 (λZ1=>?_) (λZ1=>?_))
 ·refine rc T 7 ?_;obtain⟨c3,Z1⟩:=aA Z1;obtain⟨q2,o2,e2⟩:=dh.addr c3.1 c3.2;refine ix T J e2 c3 (le T 0 (rO dh 0) e2 c3 J J (ro T 6 (lm T 1 J (ro T 1 (k [] J adI Z1 (Bk.c · (rO dS 0) fo) (λv4 Z1=>ro T 3 (mq Z1 [1,2,8,9,10] [0,0] (λz6 (x5:Bool)=>(x5=z6,[(36,(bb x5))],[])) J J (λz6 Z5 _=>?_) ?_)))))))
  ·refine rc T 4 (go T [3,4,5] 20 [1,2,5,6,8,9,10] 23 J J J J J J J (ro T 1 (ab 24 J Z5 (λZ5=>?_) (λZ5=>?_))))
   ·refine ro T 14 (am _ [0,0] (oi Z5) J J)
   refine ro T 3 (ad 27 J Z5 (λZ5=>?_) (λZ5=>?_))
   ·refine ro T 4 ?_;obtain⟨c8,Z5⟩:=aA Z5;refine ix T J e2 c8 (le T 0 (rO dh 0) e2 c8 J J (ro T 5 (am _ [0,0] (oi Z5) J J)))
   refine ro T 11 (am _ [0,0] (oi Z5) J J)
  rintro _ x5 rfl Z1;refine cb J Z1 (λZ1=>?_) (λZ1=>?_)
  ·refine rc T 11 ?_
   cases Z1;exact p0 T J [0] J
  refine rc T 8 (ar _ [0,0] Z1 J J)
 refine rc T 7 (lm T 1 J (k [] J JF Z1 (tF.c · (rO dS 0) fo) (λv7 Z1=>ro T 4 ?_)))
 cases Z1;exact p0 T J [0] J
def xU.f (t:aM) (ai:Int):Option ((List Int)×Int):=(tD.f t [(ba.mk ai 4 0)]).bind λv1=>some (v1.1,v1.2)
def xU.R (r:((List Int)×Int)):bm:=λu G=> ∃a0 n0 H0,aj (Fl.int .i64) 3 r.1 a0 n0 H0/\u=(.tuple #[(ll a0 r.1 n0),(ii r.2)])/\G=[H0]
theorem xU.c (H:xU.f t ai=some r) (dS:aU (Fl.int .u8) t.C iz F) (fo:List.length t.C<=iC):
 QR 267 [(.agg #[(ii t.W),(ii t.H),(ll iz t.C iC)]),(ii ai)] [] [] F (xU.R r):=by
 unfold xU.f at H;refine aG Tryz.func267 J J (λW=>rc T 2 (nc T J (λb1=>ro T 6 (lm T 1 J (ro T 2 (aZ (cV (k:=cH) T [(ba.mk ai 4 0)] J J J J J J J J J (λa2 H2 s2=>kr tD.R [] [] J Tg H (tD.c (l:=[(ba.mk ai 4 0)]) · (rO dS 0) fo (oO s2 2) s2.bW) (λv1 H=>?_)))))))));rintro _ _ ⟨a3,n3,H3,s3,rfl,rfl⟩;refine fz J (ro T 7 ?_)
 cases H;exact p1 T J [3,0] ⟨a3,n3,H3,s3,J,J⟩ J
def jO.l1:Nat->(List Int)->Int->((List Int)×Int)->List Int->Int->Option (List Int)
 |0,_,_,_,_,_=>none
 |xk+1,l,x5,v9,bg,aS=>if aS<(List.length l:Int) then(if(0<=aS/\aS<(List.length l:Int)) then(if(0<=(rd l aS)/\(rd l aS)<(List.length v9.1:Int)) then(if(0<=(aa ((aa (aS*(List.length l:Int)))+x5))/\(aa ((aa (aS*(List.length l:Int)))+x5))<(List.length bg:Int)) then(jO.l1 xk l x5 v9 (List.set bg (Int.toNat (aa ((aa (aS*(List.length l:Int)))+x5))) (rd v9.1 (rd l aS))) (aa (aS+1))) else none) else none) else none) else(some bg)
def jO.l0:Nat->aM->(List Int)->List Int->Int->Option ((List Int)×Int)
 |0,_,_,_,_=>none
 |k6+1,t,l,x4,x5=>if x5<(List.length l:Int) then((if(0<=x5/\x5<(List.length l:Int)) then((xU.f t (rd l x5)).bind λv9=>jO.l1 fuel l x5 v9 x4 0) else none).bind λx7=>jO.l0 k6 t l x7 (aa (x5+1))) else(some (x4,0))
def jO.f (t:aM) (l:(List Int)):Option ((List Int)×Int):=(qq.f t l).bind λv1=>if(!v1)=true then(some ([],1)) else(if(0<=(aa ((List.length l:Int)*(List.length l:Int)))/\(aa ((List.length l:Int)*(List.length l:Int)))<=1099511627776) then(jO.l0 fuel t l (List.replicate (Int.toNat (aa ((List.length l:Int)*(List.length l:Int)))) (0:Int)) 0) else none)
def jO.R (r:((List Int)×Int)):bm:=λu G=> ∃a0 n0 H0,aj (Fl.int .i64) 3 r.1 a0 n0 H0/\u=(.tuple #[(ll a0 r.1 n0),(ii r.2)])/\G=[H0]
theorem jO.c (H:jO.f t l=some r) (dS:aU (Fl.int .u8) t.C iz F) (fo:List.length t.C<=iC) (dh:aU (Fl.int .i64) l iy F) (gz:List.length l<=iq):
 QR 238 [(.agg #[(ii t.W),(ii t.H),(ll iz t.C iC)]),(ll iy l iq)] [] [] F (jO.R r):=by
 unfold jO.f at H;refine aG Tryz.func238 J J (λW=>rc T 2 (nc T J (λb1=>ro T 7 (lm T 1 J (ro T 1 (k [] J adz H (qq.c · (rO dS 0) fo (rO dh 0) gz) (λv1 H=>ro T 3 (cb J H (λH=>?_) (λH=>?_)))))))))
 ·refine rc T 8 ?_
  cases H;refine bC (p1 T J [2,0] ⟨none,0,[],aj.nil,J,J⟩ J)
 refine rc T 14 ?_;obtain⟨c3,H⟩:=aA H;refine aZ (yu (k:=(Fl.int .i64)) T (0:Int) J J J J J J J J c3 J (λa3 n3 H3 s3=>ro T 12 (lq [1,2,6,24,25] [0,0] (λ(⟨k6,x4,x5,a5,n5,H5⟩:Nat×List Int×Int×Option Addr×Nat×Hp)=>(jO.l0 k6 t l x4 x5=some r/\aj (Fl.int .i64) 3 x4 a5 n5 H5,[(7,(ll a5 x4 n5)),(26,(ii x5))],[H5])) J J (fuel,(List.replicate (Int.toNat (aa ((List.length l:Int)*(List.length l:Int)))) (0:Int)),0,a3,n3,H3) [0,0,0] ⟨H,s3⟩ J J ?_)));rintro k6 ⟨x4,x5,a5,n5,H5⟩ ⟨Z4,s5⟩;rw[jO.l0] at Z4;refine rc T 6 (cd J Z4 (λZ4=>?_) (λZ4=>?_))
 ·refine rc T 2 (mq Z4 [1,2,6,24,25,26] [0,0] (λz8 (⟨x7,a6,n6,H6⟩:List Int×Option Addr×Nat×Hp)=>(x7=z8/\aj (Fl.int .i64) 3 x7 a6 n6 H6,[(7,(ll a6 x7 n6))],[H6])) J J (λz8 Z6 _=>?_) ?_)
  ·refine rc T 4 ?_;obtain⟨c7,Z6⟩:=aA Z6;obtain⟨q7,o7,e7⟩:=dh.addr c7.1 c7.2;refine ix T J e7 c7 (le T 0 (rO dh 0) e7 c7 J J (ro T 6 (lm T 1 J (ro T 1 (kr xU.R [] [] J adA Z6 (xU.c · (rO dS 0) fo) (λv9 Z6=>?_))))));rintro _ _ ⟨a8,n8,H8,s8,rfl,rfl⟩;refine fz J (ro T 15 (lq [1,2,6,8,10,24,25,26,37,38] [0,0,1] (λ(⟨xk,bg,aS,cw,n10,bZ⟩:Nat×List Int×Int×Option Addr×Nat×Hp)=>(jO.l1 xk l x5 v9 bg aS=some z8/\aj (Fl.int .i64) 3 bg cw n10 bZ,[(7,(ll cw bg n10)),(39,(ii aS))],[bZ])) J J (fuel,x4,0,a5,n5,H5) [0,0,1,0] ⟨Z6,s5⟩ J J ?_));rintro xk ⟨bg,aS,cw,n10,bZ⟩ ⟨Z9,bU⟩;rw[jO.l1] at Z9;refine rc T 6 (cd J Z9 (λZ9=>?_) (λZ9=>?_))
   ·refine rc T 7 ?_;obtain⟨eH,Z9⟩:=aA Z9;obtain⟨q11,o11,yE⟩:=dh.addr eH.1 eH.2;refine ix T J yE eH (le T 0 (rO dh 0) yE eH J J (ro T 13 ?_));obtain⟨fW,Z9⟩:=aA Z9;obtain⟨vQ,OL,sE⟩:=s8.r.addr fW.1 fW.2;refine ix T J sE fW (le T 0 (oO s8 2) sE fW J J ?_);obtain⟨jg,Z9⟩:=aA Z9;obtain⟨VT,Vq,wW⟩:=bU.r.addr jg.1 jg.2;refine ix T J wW jg (aZ (kU (k:=(Fl.int .i64)) T 3 0 (rd v9.1 (rd l aS)) J J J J J J bU wW jg J J J (λfV gC=>kf [1,2,6,8,10,24,25,26,37,38,39] [0,0,0,0] [(7,(ll cw (List.set bg (Int.toNat (aa ((aa (aS*(List.length l:Int)))+x5))) (rd v9.1 (rd l aS))) n10))] J J ⟨dN,trivial⟩ (ro T 8 (ar (_,_,_,_,_) [0,0,0,0] ⟨Z9,gC⟩ J J)))))
   refine rc T 6 (am (_,_,_,_) [0,0,1] ⟨oi Z9,bU⟩ J J)
  rintro _ ⟨x7,a6,n6,H6⟩ ⟨rfl,s6⟩ Z4;refine rc T 5 (ar (_,_,_,_,_) [0,0,0] ⟨Z4,s6⟩ J J)
 refine rc T 13 ?_
 cases Z4;exact p1 T J [2,0] ⟨a5,n5,H5,s5,J,J⟩ J
end
noncomputable section
def fF.f (s:fx):Option (List Int):=some [s.bB,s.bw,s.bk,s.bn,s.bF,s.bE]
theorem fF.c (H:fF.f s=some r):
 QU 62 [(.agg #[(uu s.bB),(uu s.bw),(uu s.bk),(uu s.bn),(uu s.bF),(uu s.bE)])] [] F (.agg #[(uu (rd r 0)),(uu (rd r 1)),(uu (rd r 2)),(uu (rd r 3)),(uu (rd r 4)),(uu (rd r 5))]):=by
 unfold fF.f at H;refine aG Tryz.func62 J J (λW=>rc T 2 (nc T J (λb1=>nc T J (λb2=>ro T 5 (lf T 1 J (ro T 1 (lf T 1 J (ro T 1 (lf T 1 J (ro T 1 (lf T 1 J (ro T 1 (lf T 1 J (ro T 1 (lf T 1 J (bz J (Jk T J J J J J J) (sg T 2 J (ro T 3 ?_))))))))))))))))))
 cases H;exact pb T J (.cN (j:=2) [(uu s.bB),(uu s.bw),(uu s.bk),(uu s.bn),(uu s.bF),(uu s.bE)] J J J J J J J .nil) [0] () J J
def rZ.f (a:Int) (b:Int):Option Int:=if a>(cY (18446744073709551615-b)) then(some 18446744073709551615) else(some (cY (a+b)))
theorem rZ.c (H:rZ.f a b=some r):
 QU 106 [(uu a),(uu b)] [] F (uu r):=by
 unfold rZ.f at H;refine aG Tryz.func106 J J (λW=>rc T 14 (cd J H (λH=>?_) (λH=>?_)))
 ·refine rc T 7 ?_
  cases H;exact p0 T J [0] J
 refine rc T 11 ?_
 cases H;exact p0 T J [0] J
def mM.l0:Nat->Int->Int->Int->Int->Int->Int->Int->Int->Int->Int->Int->Int->Int->Option fx
 |0,_,_,_,_,_,_,_,_,_,_,_,_,_=>none
 |xm+1,x7,x8,x9,aN,bd,bg,iQ,gu,hJ,iR,fI,iS,iu=>if iu<6 then(if(0<=iu/\iu<6) then(if(0<=iu/\iu<6) then((rZ.f (rd [iQ,gu,hJ,iR,fI,iS] iu) (rd [x7,x8,x9,aN,bd,bg] iu)).bind λqt=>if(0<=iu/\iu<6) then(mM.l0 xm x7 x8 x9 aN bd bg (rd (List.set [iQ,gu,hJ,iR,fI,iS] (Int.toNat iu) qt) 0) (rd (List.set [iQ,gu,hJ,iR,fI,iS] (Int.toNat iu) qt) 1) (rd (List.set [iQ,gu,hJ,iR,fI,iS] (Int.toNat iu) qt) 2) (rd (List.set [iQ,gu,hJ,iR,fI,iS] (Int.toNat iu) qt) 3) (rd (List.set [iQ,gu,hJ,iR,fI,iS] (Int.toNat iu) qt) 4) (rd (List.set [iQ,gu,hJ,iR,fI,iS] (Int.toNat iu) qt) 5) (aa (iu+1))) else none) else none) else none) else(some (fx.mk iQ gu hJ iR fI iS))
def mM.f (a:fx) (b:fx):Option fx:=((fF.f a).bind λdq=>(fF.f b).bind λcD=>some ((rd dq 0),(rd dq 1),(rd dq 2),(rd dq 3),(rd dq 4),(rd dq 5),(rd cD 0),(rd cD 1),(rd cD 2),(rd cD 3),(rd cD 4),(rd cD 5))).bind λ(x1,x2,x3,x4,x5,x6,x7,x8,x9,aN,bd,bg)=>mM.l0 fuel x7 x8 x9 aN bd bg x1 x2 x3 x4 x5 x6 0
theorem mM.c (H:mM.f a b=some r):
 QU 78 [(.agg #[(uu a.bB),(uu a.bw),(uu a.bk),(uu a.bn),(uu a.bF),(uu a.bE)]),(.agg #[(uu b.bB),(uu b.bw),(uu b.bk),(uu b.bn),(uu b.bF),(uu b.bE)])] [] F (.agg #[(uu r.bB),(uu r.bw),(uu r.bk),(uu r.bn),(uu r.bF),(uu r.bE)]):=by
 unfold mM.f at H;refine aG Tryz.func78 J J (λW=>rc T 2 (nc T J (λb1=>nc T J (λb2=>nc T J (λb3=>ro T 2 (mq H [4] [0,2] (λBv (⟨x1,x2,x3,x4,x5,x6,x7,x8,x9,aN,bd,bg,b4,b5⟩:Int×Int×Int×Int×Int×Int×Int×Int×Int×Int×Int×Int×Nat×Nat)=>((x1,x2,x3,x4,x5,x6,x7,x8,x9,aN,bd,bg)=Bv,[(5,(pp b4)),(6,(pp b5))],[(cl b4 123 [(uu x1),(uu x2),(uu x3),(uu x4),(uu x5),(uu x6)]),(cl b5 123 [(uu x7),(uu x8),(uu x9),(uu aN),(uu bd),(uu bg)])])) J J (λBv Z1 _=>?_) ?_))))))
 ·refine ks [2,3,4] J (fz J (rz [] mix (bM bL) (λhg pf=>av 0 sz hg pf J (gA T 1 J J J J J J J) (av 2 sz hg pf J (gA T 2 J J J J J J J) (IZ 1 4 5 ?_ ?_ ?_)))))
  ·refine kh [] J iB Z1 (fF.c ·) (λdq Z1=>an sz (IZ 3 4 5 ?_ ?_ ?_))
   ·refine kh [] J iB Z1 (fF.c ·) (λcD Z1=>an sz (fk 4 5 ?_ ?_))
    ·refine nw T J (λb6=>an (so [0,0,0,0]) (ao 5 (nw T J (λb7=>an (so [0,0,0,0]) (ao 6 (sf T 4 J (an (so [0,0,0,0]) (ao 7 (sf T 5 J (an (so [0,0,0,0]) (ae (rx T 1 (am (_,_,_,_,_,_,_,_,_,_,_,_,_,_) [0,2,2,2] (oi Z1) J J)))))))))))))
    refine nw T J (λb8=>an (so [0,0,0,0]) (ao 4 (nw T J (λb9=>an (so [0,0,0,0]) (ao 6 (sf T 5 J (an (so [0,0,0,0]) (ao 7 (sf T 4 J (an (so [0,0,0,0]) (ae (rx T 1 (am (_,_,_,_,_,_,_,_,_,_,_,_,_,_) [0,2,3,2] (oi Z1) J J)))))))))))))
   ·refine nw T J (λfR=>an (so [0,0,0,0]) (fk 3 5 ?_ ?_))
    ·refine kh [] J iB Z1 (fF.c ·) (λdG Z1=>an (so [0,0,0,0]) (ao 5 (nw T J (λjC=>an (so [0,0,0,0]) (ao 6 (sf T 4 J (an (so [0,0,0,0]) (ao 7 (sf T 5 J (an (so [0,0,0,0]) (ae (rx T 1 (am (_,_,_,_,_,_,_,_,_,_,_,_,_,_) [0,2,2,2] (oi Z1) J J)))))))))))))
    refine nw T J (λkz=>an (so [0,0,0,0]) (ao 3 (kh [] J iB Z1 (fF.c ·) (λv17 Z1=>an (so [0,0,0,0]) (ao 6 (sf T 4 J (an (so [0,0,0,0]) (ao 7 (sf T 5 J (an (so [0,0,0,0]) (ae (rx T 1 (am (_,_,_,_,_,_,_,_,_,_,_,_,_,_) [0,2,2,2] (oi Z1) J J)))))))))))))
   refine nw T J (λQK=>an (so [0,0,0,0]) (fk 3 4 ?_ ?_))
   ·refine kh [] J iB Z1 (fF.c ·) (λfG Z1=>an (so [0,0,0,0]) (ao 4 (nw T J (λFG=>an (so [0,0,0,0]) (ao 6 (sf T 5 J (an (so [0,0,0,0]) (ao 7 (sf T 4 J (an (so [0,0,0,0]) (ae (rx T 1 (am (_,_,_,_,_,_,_,_,_,_,_,_,_,_) [0,2,3,2] (oi Z1) J J)))))))))))))
   refine nw T J (λnt=>an (so [0,0,0,0]) (ao 3 (kh [] J iB Z1 (fF.c ·) (λnj Z1=>an (so [0,0,0,0]) (ao 6 (sf T 5 J (an (so [0,0,0,0]) (ao 7 (sf T 4 J (an (so [0,0,0,0]) (ae (rx T 1 (am (_,_,_,_,_,_,_,_,_,_,_,_,_,_) [0,2,3,2] (oi Z1) J J)))))))))))))
  ·refine nw T J (λpV=>an (so [0,0,0,0]) (fk 1 5 ?_ ?_))
   ·refine kh [] J iB Z1 (fF.c ·) (λv20 Z1=>an (so [0,0,0,0]) (fk 3 5 ?_ ?_))
    ·refine kh [] J iB Z1 (fF.c ·) (λv21 Z1=>an (so [0,0,0,0]) (ao 5 (nw T J (λAb=>an (so [0,0,0,0]) (ao 6 (sf T 4 J (an (so [0,0,0,0]) (ao 7 (sf T 5 J (an (so [0,0,0,0]) (ae (rx T 1 (am (_,_,_,_,_,_,_,_,_,_,_,_,_,_) [0,2,2,2] (oi Z1) J J)))))))))))))
    refine nw T J (λpW=>an (so [0,0,0,0]) (ao 3 (kh [] J iB Z1 (fF.c ·) (λv22 Z1=>an (so [0,0,0,0]) (ao 6 (sf T 4 J (an (so [0,0,0,0]) (ao 7 (sf T 5 J (an (so [0,0,0,0]) (ae (rx T 1 (am (_,_,_,_,_,_,_,_,_,_,_,_,_,_) [0,2,2,2] (oi Z1) J J)))))))))))))
   refine nw T J (λQM=>an (so [0,0,0,0]) (ao 1 (kh [] J iB Z1 (fF.c ·) (λv23 Z1=>an (so [0,0,0,0]) (ao 3 (kh [] J iB Z1 (fF.c ·) (λv24 Z1=>an (so [0,0,0,0]) (ao 6 (sf T 4 J (an (so [0,0,0,0]) (ao 7 (sf T 5 J (an (so [0,0,0,0]) (ae (rx T 1 (am (_,_,_,_,_,_,_,_,_,_,_,_,_,_) [0,2,2,2] (oi Z1) J J))))))))))))))))
  refine nw T J (λDH=>an (so [0,0,0,0]) (fk 1 4 ?_ ?_))
  ·refine kh [] J iB Z1 (fF.c ·) (λv25 Z1=>an (so [0,0,0,0]) (fk 3 4 ?_ ?_))
   ·refine kh [] J iB Z1 (fF.c ·) (λv26 Z1=>an (so [0,0,0,0]) (ao 4 (nw T J (λAc=>an (so [0,0,0,0]) (ao 6 (sf T 5 J (an (so [0,0,0,0]) (ao 7 (sf T 4 J (an (so [0,0,0,0]) (ae (rx T 1 (am (_,_,_,_,_,_,_,_,_,_,_,_,_,_) [0,2,3,2] (oi Z1) J J)))))))))))))
   refine nw T J (λkA=>an (so [0,0,0,0]) (ao 3 (kh [] J iB Z1 (fF.c ·) (λLc Z1=>an (so [0,0,0,0]) (ao 6 (sf T 5 J (an (so [0,0,0,0]) (ao 7 (sf T 4 J (an (so [0,0,0,0]) (ae (rx T 1 (am (_,_,_,_,_,_,_,_,_,_,_,_,_,_) [0,2,3,2] (oi Z1) J J)))))))))))))
  refine nw T J (λZN=>an (so [0,0,0,0]) (ao 1 (kh [] J iB Z1 (fF.c ·) (λv28 Z1=>an (so [0,0,0,0]) (ao 3 (kh [] J iB Z1 (fF.c ·) (λq_ Z1=>an (so [0,0,0,0]) (ao 6 (sf T 5 J (an (so [0,0,0,0]) (ao 7 (sf T 4 J (an (so [0,0,0,0]) (ae (rx T 1 (am (_,_,_,_,_,_,_,_,_,_,_,_,_,_) [0,2,3,2] (oi Z1) J J))))))))))))))))
 rintro _ ⟨x1,x2,x3,x4,x5,x6,x7,x8,x9,aN,bd,bg,b4,b5⟩ rfl H;refine rc T 7 (lq [4,5,6] [0,0,1] (λ(⟨xm,iQ,gu,hJ,iR,fI,iS,iu⟩:Nat×Int×Int×Int×Int×Int×Int×Int)=>(mM.l0 xm x7 x8 x9 aN bd bg iQ gu hJ iR fI iS iu=some r,[(12,(ii iu))],[(cl b4 123 [(uu iQ),(uu gu),(uu hJ),(uu iR),(uu fI),(uu iS)])])) J J (fuel,x1,x2,x3,x4,x5,x6,0) [0,0,1,0] H J J ?_);rintro xm ⟨iQ,gu,hJ,iR,fI,iS,iu⟩ fw;replace fw:mM.l0 (xm+1) x7 x8 x9 aN bd bg iQ gu hJ iR fI iS iu=some r:=fw;rw[mM.l0] at fw;refine rc T 6 (cd J fw (λfw=>?_) (λfw=>?_))
 ·refine rc T 10 (fz J (rz [9] mix (bM bL) (λhg pf=>ha T 8 [0,1] sz hg pf J ?_)));obtain⟨Ah,fw⟩:=aA fw;refine av 2 sz hg pf J (vg T J J J J J Ah) (av 3 sz hg pf J (aw T J J J J (J_ (kk:= .u64) (xs:=[iQ,gu,hJ,iR,fI,iS]) (j:=3) J J Ah)) (ha T 5 [4] sz hg pf J ?_));obtain⟨mQ,fw⟩:=aA fw;refine av 5 sz hg pf J (vg T J J J J J mQ) (av 6 sz hg pf J (aw T J J J J (J_ (kk:= .u64) (xs:=[x7,x8,x9,aN,bd,bg]) (j:=2) J J mQ)) (ao 7 (kh [] J Jy fw (rZ.c ·) (λqt fw=>an sz ?_))));obtain⟨QX,fw⟩:=aA fw;refine av 8 sz hg pf J (vg T J J J J J QX) (ao 9 (Zr (kk:= .u64) (xs:=[iQ,gu,hJ,iR,fI,iS]) T 3 [(uu (rd (List.set [iQ,gu,hJ,iR,fI,iS] (Int.toNat iu) qt) 0)),(uu (rd (List.set [iQ,gu,hJ,iR,fI,iS] (Int.toNat iu) qt) 1)),(uu (rd (List.set [iQ,gu,hJ,iR,fI,iS] (Int.toNat iu) qt) 2)),(uu (rd (List.set [iQ,gu,hJ,iR,fI,iS] (Int.toNat iu) qt) 3)),(uu (rd (List.set [iQ,gu,hJ,iR,fI,iS] (Int.toNat iu) qt) 4)),(uu (rd (List.set [iQ,gu,hJ,iR,fI,iS] (Int.toNat iu) qt) 5))] J J J J J J J QX J (an sl (ae (rx T 7 (ar (_,_,_,_,_,_,_) [0,0,0,0] fw J J))))))
 refine rc T 7 (bz J (vg T J J J J J (by decide)) (lf T 3 J (bz J (vg T J J J J J (by decide)) (lf T 3 J (bz J (vg T J J J J J (by decide)) (lf T 3 J (bz J (vg T J J J J J (by decide)) (lf T 3 J (bz J (vg T J J J J J (by decide)) (lf T 3 J (bz J (vg T J J J J J (by decide)) (lf T 3 J (ro T 1 (sg T 1 J (ro T 1 (rx T 2 ?_))))))))))))))))
 cases fw;exact pb T J (.cN (j:=1) [(uu iQ),(uu gu),(uu hJ),(uu iR),(uu fI),(uu iS)] J J J J J J J .nil) [0] () J J
def pP.l0:Nat->Int->Int->Int->Int->Int->Int->Int->Int->Int->Int->Int->Int->Int->Option Bool
 |0,_,_,_,_,_,_,_,_,_,_,_,_,_=>none
 |GO+1,x1,x2,x3,x4,x5,x6,x7,x8,x9,aN,bd,bg,ml=>if ml<6 then(if(0<=ml/\ml<6) then(if(0<=ml/\ml<6) then(if(rd [x1,x2,x3,x4,x5,x6] ml)>(rd [x7,x8,x9,aN,bd,bg] ml) then(some false) else(pP.l0 GO x1 x2 x3 x4 x5 x6 x7 x8 x9 aN bd bg (aa (ml+1)))) else none) else none) else(some true)
def pP.f (a:fx) (b:fx):Option Bool:=((fF.f a).bind λdq=>(fF.f b).bind λcD=>some ((rd dq 0),(rd dq 1),(rd dq 2),(rd dq 3),(rd dq 4),(rd dq 5),(rd cD 0),(rd cD 1),(rd cD 2),(rd cD 3),(rd cD 4),(rd cD 5))).bind λ(x1,x2,x3,x4,x5,x6,x7,x8,x9,aN,bd,bg)=>pP.l0 fuel x1 x2 x3 x4 x5 x6 x7 x8 x9 aN bd bg 0
theorem pP.c (H:pP.f a b=some r):
 QU 30 [(.agg #[(uu a.bB),(uu a.bw),(uu a.bk),(uu a.bn),(uu a.bF),(uu a.bE)]),(.agg #[(uu b.bB),(uu b.bw),(uu b.bk),(uu b.bn),(uu b.bF),(uu b.bE)])] [] F (bb r):=by
 unfold pP.f at H;refine aG Tryz.func30 J J (λW=>rc T 2 (nc T J (λb1=>nc T J (λb2=>ro T 3 (mq H [] [0] (λBv (⟨x1,x2,x3,x4,x5,x6,x7,x8,x9,aN,bd,bg,b3,b4⟩:Int×Int×Int×Int×Int×Int×Int×Int×Int×Int×Int×Int×Nat×Nat)=>((x1,x2,x3,x4,x5,x6,x7,x8,x9,aN,bd,bg)=Bv,[(5,(pp b3)),(6,(pp b4))],[(cl b3 123 [(uu x1),(uu x2),(uu x3),(uu x4),(uu x5),(uu x6)]),(cl b4 123 [(uu x7),(uu x8),(uu x9),(uu aN),(uu bd),(uu bg)])])) J J (λBv Z1 _=>?_) ?_)))))
 ·refine ks [2,3] J (fz J (rz [] mix (bM bL) (λhg pf=>av 0 sz hg pf J (gA T 1 J J J J J J J) (av 2 sz hg pf J (gA T 2 J J J J J J J) (IZ 1 4 5 ?_ ?_ ?_)))))
  ·refine kh [] J iB Z1 (fF.c ·) (λdq Z1=>an sz (IZ 3 4 5 ?_ ?_ ?_))
   ·refine kh [] J iB Z1 (fF.c ·) (λcD Z1=>an sz (fk 4 5 ?_ ?_))
    ·refine nw T J (λb5=>an (so [0,0,0]) (ao 5 (nw T J (λb6=>an (so [0,0,0]) (ao 6 (sf T 3 J (an (so [0,0,0]) (ao 7 (sf T 4 J (an (so [0,0,0]) (ae (rx T 1 (am (_,_,_,_,_,_,_,_,_,_,_,_,_,_) [0,2,2] (oi Z1) J J)))))))))))))
    refine nw T J (λb7=>an (so [0,0,0]) (ao 4 (nw T J (λb8=>an (so [0,0,0]) (ao 6 (sf T 4 J (an (so [0,0,0]) (ao 7 (sf T 3 J (an (so [0,0,0]) (ae (rx T 1 (am (_,_,_,_,_,_,_,_,_,_,_,_,_,_) [0,3,2] (oi Z1) J J)))))))))))))
   ·refine nw T J (λb9=>an (so [0,0,0]) (fk 3 5 ?_ ?_))
    ·refine kh [] J iB Z1 (fF.c ·) (λdG Z1=>an (so [0,0,0]) (ao 5 (nw T J (λfR=>an (so [0,0,0]) (ao 6 (sf T 3 J (an (so [0,0,0]) (ao 7 (sf T 4 J (an (so [0,0,0]) (ae (rx T 1 (am (_,_,_,_,_,_,_,_,_,_,_,_,_,_) [0,2,2] (oi Z1) J J)))))))))))))
    refine nw T J (λjC=>an (so [0,0,0]) (ao 3 (kh [] J iB Z1 (fF.c ·) (λv17 Z1=>an (so [0,0,0]) (ao 6 (sf T 3 J (an (so [0,0,0]) (ao 7 (sf T 4 J (an (so [0,0,0]) (ae (rx T 1 (am (_,_,_,_,_,_,_,_,_,_,_,_,_,_) [0,2,2] (oi Z1) J J)))))))))))))
   refine nw T J (λkz=>an (so [0,0,0]) (fk 3 4 ?_ ?_))
   ·refine kh [] J iB Z1 (fF.c ·) (λfG Z1=>an (so [0,0,0]) (ao 4 (nw T J (λQK=>an (so [0,0,0]) (ao 6 (sf T 4 J (an (so [0,0,0]) (ao 7 (sf T 3 J (an (so [0,0,0]) (ae (rx T 1 (am (_,_,_,_,_,_,_,_,_,_,_,_,_,_) [0,3,2] (oi Z1) J J)))))))))))))
   refine nw T J (λFG=>an (so [0,0,0]) (ao 3 (kh [] J iB Z1 (fF.c ·) (λnj Z1=>an (so [0,0,0]) (ao 6 (sf T 4 J (an (so [0,0,0]) (ao 7 (sf T 3 J (an (so [0,0,0]) (ae (rx T 1 (am (_,_,_,_,_,_,_,_,_,_,_,_,_,_) [0,3,2] (oi Z1) J J)))))))))))))
  ·refine nw T J (λnt=>an (so [0,0,0]) (fk 1 5 ?_ ?_))
   ·refine kh [] J iB Z1 (fF.c ·) (λv20 Z1=>an (so [0,0,0]) (fk 3 5 ?_ ?_))
    ·refine kh [] J iB Z1 (fF.c ·) (λv21 Z1=>an (so [0,0,0]) (ao 5 (nw T J (λpV=>an (so [0,0,0]) (ao 6 (sf T 3 J (an (so [0,0,0]) (ao 7 (sf T 4 J (an (so [0,0,0]) (ae (rx T 1 (am (_,_,_,_,_,_,_,_,_,_,_,_,_,_) [0,2,2] (oi Z1) J J)))))))))))))
    refine nw T J (λAb=>an (so [0,0,0]) (ao 3 (kh [] J iB Z1 (fF.c ·) (λv22 Z1=>an (so [0,0,0]) (ao 6 (sf T 3 J (an (so [0,0,0]) (ao 7 (sf T 4 J (an (so [0,0,0]) (ae (rx T 1 (am (_,_,_,_,_,_,_,_,_,_,_,_,_,_) [0,2,2] (oi Z1) J J)))))))))))))
   refine nw T J (λpW=>an (so [0,0,0]) (ao 1 (kh [] J iB Z1 (fF.c ·) (λv23 Z1=>an (so [0,0,0]) (ao 3 (kh [] J iB Z1 (fF.c ·) (λv24 Z1=>an (so [0,0,0]) (ao 6 (sf T 3 J (an (so [0,0,0]) (ao 7 (sf T 4 J (an (so [0,0,0]) (ae (rx T 1 (am (_,_,_,_,_,_,_,_,_,_,_,_,_,_) [0,2,2] (oi Z1) J J))))))))))))))))
  refine nw T J (λQM=>an (so [0,0,0]) (fk 1 4 ?_ ?_))
  ·refine kh [] J iB Z1 (fF.c ·) (λv25 Z1=>an (so [0,0,0]) (fk 3 4 ?_ ?_))
   ·refine kh [] J iB Z1 (fF.c ·) (λv26 Z1=>an (so [0,0,0]) (ao 4 (nw T J (λDH=>an (so [0,0,0]) (ao 6 (sf T 4 J (an (so [0,0,0]) (ao 7 (sf T 3 J (an (so [0,0,0]) (ae (rx T 1 (am (_,_,_,_,_,_,_,_,_,_,_,_,_,_) [0,3,2] (oi Z1) J J)))))))))))))
   refine nw T J (λAc=>an (so [0,0,0]) (ao 3 (kh [] J iB Z1 (fF.c ·) (λLc Z1=>an (so [0,0,0]) (ao 6 (sf T 4 J (an (so [0,0,0]) (ao 7 (sf T 3 J (an (so [0,0,0]) (ae (rx T 1 (am (_,_,_,_,_,_,_,_,_,_,_,_,_,_) [0,3,2] (oi Z1) J J)))))))))))))
  refine nw T J (λkA=>an (so [0,0,0]) (ao 1 (kh [] J iB Z1 (fF.c ·) (λv28 Z1=>an (so [0,0,0]) (ao 3 (kh [] J iB Z1 (fF.c ·) (λq_ Z1=>an (so [0,0,0]) (ao 6 (sf T 4 J (an (so [0,0,0]) (ao 7 (sf T 3 J (an (so [0,0,0]) (ae (rx T 1 (am (_,_,_,_,_,_,_,_,_,_,_,_,_,_) [0,3,2] (oi Z1) J J))))))))))))))))
 rintro _ ⟨x1,x2,x3,x4,x5,x6,x7,x8,x9,aN,bd,bg,b3,b4⟩ rfl H;refine rc T 7 (lq [5,6] [0,0,0] (λ(⟨GO,ml⟩:Nat×Int)=>(pP.l0 GO x1 x2 x3 x4 x5 x6 x7 x8 x9 aN bd bg ml=some r,[(12,(ii ml))],[])) J J (fuel,0) [0,0,0] H J J ?_);rintro GO ml fw;replace fw:pP.l0 (GO+1) x1 x2 x3 x4 x5 x6 x7 x8 x9 aN bd bg ml=some r:=fw;rw[pP.l0] at fw;refine rc T 6 (cd J fw (λfw=>?_) (λfw=>?_))
 ·refine rc T 11 (dD mix az (au T J ?_));obtain⟨Ah,fw⟩:=aA fw;refine aO J J J (vg T J J J J J Ah) (aO J J J (aw T J J J J (J_ (kk:= .u64) (xs:=[x1,x2,x3,x4,x5,x6]) (j:=1) J J Ah)) (au T J ?_));obtain⟨mQ,fw⟩:=aA fw;refine aO J J J (vg T J J J J J mQ) (aO J J J (aw T J J J J (J_ (kk:= .u64) (xs:=[x7,x8,x9,aN,bd,bg]) (j:=2) J J mQ)) (au T J (dg (rx T 1 (cd J fw (λfw=>?_) (λfw=>?_))))))
  ·refine rc T 11 ?_
   cases fw;exact p0 T J [0] J
  refine rc T 8 (ar _ [0,0,0] fw J J)
 refine rc T 11 ?_
 cases fw;exact p0 T J [0] J
end
noncomputable section
def G5.f:Option Int:=some 0
theorem G5.c (H:G5.f=some r):
 QU 107 [(.pointer none)] [] F (uu r):=by
 unfold G5.f at H;refine aG Tryz.func107 J J (λW=>rc T 12 (ov J (rc T 7 ?_)))
 cases H;exact p0 T J [0] J
def G6.f (m:dJ) (mG:bA):Option Int:=some m.count
theorem G6.c (H:G6.f m mG=some r) (rU:mO m iH kX nn) (ly:iF mG kX lE):
 QU 107 [(pp iH)] [nn,lE] F (uu r):=by
 unfold G6.f at H;refine aG Tryz.func107 J J (λW=>rc T 12 (eY J (rc T 3 ?_)));obtain⟨a5,n5,H5,s5,dt⟩:=(λx=>x) rU;refine bS 0 (congrArg some dt) (fz J (rc T 4 (lf T 2 J (ro T 4 ?_))))
 cases H;refine dr [2,2] J dt (p0 T J [2,0,0] J)
def rP.f (g:bA):Option (Option dJ):=(iJ.f g).bind λv1=>(qu.f v1.1 v1.2).bind λv2=>if(0<=(aa (v2.1*v2.2))/\(aa (v2.1*v2.2))<=1099511627776) then(some (some (dJ.mk (List.replicate (Int.toNat (aa (v2.1*v2.2))) (default:pB)) 0 0))) else none
def rP.R (w0:Nat) (r:(Option dJ)):bm:=λu G=> ∃(u0:Value) (G0:List Hp),XZ w0 r u0 G0/\u=u0/\G=G0
theorem rP.c (H:rP.f g=some r) (fN:iF g fg gm):
 QR 150 [(pp fg)] [gm] [gm] F (rP.R fg r):=by
 unfold rP.f at H;refine aG Tryz.func150 J J (λW=>rc T 12 (eY J (rc T 5 (k [0] J tZ H (iJ.c · fN) (λv1 H=>ro T 2 (k [] J Gd H (qu.c ·) (λv2 H=>ro T 13 ?_)))))));obtain⟨c3,H⟩:=aA H;refine aZ (Y8 (kd:=OV) (E:=217) T (default:pB) J J J J J J J ⟨none,0,[],none,0,[],(aj.nil (k:=(Fl.int .i64)) (E:=3)),(aj.nil (k:=(Fl.int .i32)) (E:=21)),J,J⟩ c3 J (λa2 n2 H2 s2=>ro T 1 (nc T J (λb3=>ro T 4 ?_))))
 cases H;refine gw [3,2] J (p1 T J [2,0,0] ⟨_,_,⟨b3,(List.flatten [(cl b3 213 [(pp fg),(ll a2 (List.replicate (Int.toNat (aa (v2.1*v2.2))) (default:pB)) n2),(ii 0),(uu 0)]),H2]),(show mO (dJ.mk (List.replicate (Int.toNat (aa (v2.1*v2.2))) (default:pB)) 0 0) b3 fg (List.flatten [(cl b3 213 [(pp fg),(ll a2 (List.replicate (Int.toNat (aa (v2.1*v2.2))) (default:pB)) n2),(ii 0),(uu 0)]),H2]) from⟨a2,n2,H2,s2,J⟩),J,J⟩,J,J⟩ J)
def nO.l0:Nat->dJ->bA->List Int->Int->Option (List Int)
 |0,_,_,_,_=>none
 |k6+1,m,mG,x4,x5=>if x5<(List.length m.parts:Int) then(if(0<=x5/\x5<(List.length m.parts:Int)) then((p_.f mG x5).bind λv7=>if((rd m.parts x5).version !=v7)=true then(if(List.length x4+1<=1099511627776) then(nO.l0 k6 m mG (x4++[x5]) (aa (x5+1))) else none) else(nO.l0 k6 m mG x4 (aa (x5+1)))) else none) else(some x4)
def nO.f (m:dJ) (mG:bA):Option (List Int):=(pk.f mG).bind λv1=>if(m.clean==v1)=true then(some []) else(nO.l0 fuel m mG [] 0)
def nO.R (r:(List Int)):bm:=λu G=> ∃a0 n0 H0,aj (Fl.int .i64) 3 r a0 n0 H0/\u=(ll a0 r n0)/\G=[H0]
theorem nO.c (H:nO.f m mG=some r) (rU:mO m iH kX nn) (ly:iF mG kX lE):
 QR 97 [(pp iH)] [nn,lE] [nn,lE] F (nO.R r):=by
 unfold nO.f at H;refine aG Tryz.func97 J J (λW=>rc T 7 ?_);obtain⟨a5,n5,H5,s5,dt⟩:=(λx=>x) rU;refine bS 0 (congrArg some dt) (fz J (dD mix az ?_))
 iterate 6 refine au T J ?_
 refine aO J J J (aw T J J J J (aI (j:=2) J J)) (au T J (au T J (au T J (aO J J J (aw T J J J J (aI (j:=2) J J)) ?_))));obtain⟨v1,V1,H⟩:=gx H;refine wO [0] J J J J J J B6 J (pk.c V1 ly) (au T J (au T J (dg (rx T 1 (cb J H (λH=>?_) (λH=>?_))))))
 ·refine rc T 7 ?_
  cases H;refine dr [2,2] J dt (bC (p1 T J [3,2,0,0] ⟨none,0,[],aj.nil,J,J⟩ J))
 refine rc T 13 (lf T 2 J (ro T 5 (bC (lq [0,23] [1,1,0,0] (λ(⟨k6,x4,x5,a8,n8,H8⟩:Nat×List Int×Int×Option Addr×Nat×Hp)=>(nO.l0 k6 m mG x4 x5=some r/\aj (Fl.int .i64) 3 x4 a8 n8 H8,[(3,(ll a8 x4 n8)),(24,(ii x5))],[H8])) J J (fuel,[],0,none,0,[]) [1,1,0,0,0] ⟨H,aj.nil⟩ J J ?_))));rintro k6 ⟨x4,x5,a8,n8,H8⟩ ⟨Z3,s8⟩;rw[nO.l0] at Z3;refine rc T 6 (cd J Z3 (λZ3=>?_) (λZ3=>?_))
 ·refine rc T 11 (dD mix az (au T J (au T J (au T J (aO J J J (aw T J J J J (aI (j:=1) J J)) (au T J ?_))))));obtain⟨c5,Z3⟩:=aA Z3;obtain⟨q9,o9,e9⟩:=s5.r.addr c5.1 c5.2;refine aO J J J (cT T J J J J J e9 c5.1 c5.2) (au T J ?_);obtain⟨_,w12,⟨cw,n10,dA,n11,⟨KM,m10⟩,⟨Wu,m11⟩,rfl⟩⟩:=mo.view s5.r c5;refine aO J J J (aw T J J J J (zb (j:=3) J w12 e9 0 J)) (au T J (au T J (au T J (aO J J J (aw T J J J J (aI (j:=1) J J)) (au T J ?_)))));obtain⟨v7,V6,Z3⟩:=gx Z3;refine wO [2] J J J J J J B7 J (p_.c V6 ly) (au T J (dg (rx T 1 (cb J Z3 (λZ3=>?_) (λZ3=>?_)))))
  ·refine rc T 3 (aZ (cV (k:=(Fl.int .i64)) T [x5] J J J J J J J J J (λdH eJ dm=>?_)));obtain⟨c8,Z3⟩:=aA Z3;refine aZ (ez (k:=(Fl.int .i64)) (xs:=x4) T (g:=4) J J J J J J J J J J s8 (oO dm 5) c8 J (λiT n14 fV gC=>ro T 9 (ar (_,_,_,_,_) [0,0,0,0,0] ⟨Z3,gC⟩ J J)))
  refine rc T 8 (ar (_,_,_,_,_) [0,0,0,0,0] ⟨Z3,s8⟩ J J)
 refine rc T 12 ?_
 cases Z3;refine dr [1,2] J dt (p1 T J [2,2,1,0] ⟨a8,n8,H8,s8,J,J⟩ J)
def jn.l1:Nat->Int->List Int->((List Int)×Int)->List Int->Int->Option pB
 |0,_,_,_,_,_=>none
 |GN+1,x3,x4,fG,dM,bX=>if bX<(List.length fG.1:Int) then(if(0<=bX/\bX<(List.length fG.1:Int)) then(if(0<=bX/\bX<(List.length dM:Int)) then(if((rd fG.1 bX)!=1099511627776)=true then(if(0<=bX/\bX<(List.length (List.set dM (Int.toNat bX) (-1)):Int)) then(jn.l1 GN x3 x4 fG (List.set (List.set dM (Int.toNat bX) (-1)) (Int.toNat bX) (IntKind.i32.wrap (rd fG.1 bX))) (aa (bX+1))) else none) else(jn.l1 GN x3 x4 fG (List.set dM (Int.toNat bX) (-1)) (aa (bX+1)))) else none) else none) else(some (pB.mk x3 x4 dM))
def jn.l0:Nat->(Int×Int)->(aM×Bool)->Int->List Int->List Int->Int->Option pB
 |0,_,_,_,_,_,_=>none
 |ze+1,v1,v2,x3,x4,bf,cm=>if cm<(List.length x4:Int) then(if(0<=cm/\cm<(List.length x4:Int)) then((ra.f v1.1 v1.2 (rd x4 cm)).bind λv17=>if(List.length bf+1<=1099511627776) then(jn.l0 ze v1 v2 x3 x4 (bf++[v17]) (aa (cm+1))) else none) else none) else((jO.f v2.1 bf).bind λfG=>if(0<=(List.length fG.1:Int)/\(List.length fG.1:Int)<=1099511627776) then(jn.l1 fuel x3 x4 fG (List.replicate (Int.toNat (List.length fG.1:Int)) (0:Int)) 0) else none)
def jn.f (m:dJ) (bG:Int) (mG:bA):Option pB:=(iJ.f mG).bind λv1=>(l6.f mG bG).bind λv2=>((p_.f mG bG).bind λv7=>(j8.f mG bG).bind λv8=>some (v7,v8,([]:List Int))).bind λ(x3,x4,x5)=>jn.l0 fuel v1 v2 x3 x4 [] 0
def jn.R (r:pB):bm:=λu G=> ∃a0 n0 H0 a1 n1 H1,aj (Fl.int .i64) 3 r.nodes a0 n0 H0/\aj (Fl.int .i32) 21 r.aP a1 n1 H1/\u=(.agg #[(ii r.version),(ll a0 r.nodes n0),(ll a1 r.aP n1)])/\G=[H0,H1]
theorem jn.c (H:jn.f m bG mG=some r) (rU:mO m iH kX nn) (ly:iF mG kX lE):
 QR 211 [(pp iH),(ii bG)] [nn,lE] [nn,lE] F (jn.R r):=by
 unfold jn.f at H;refine aG Tryz.func211 J J (λW=>rc T 2 (nc T J (λb3=>ro T 3 ?_)));obtain⟨a6,n6,H6,s6,kY⟩:=(λx=>x) rU;refine bS 0 (congrArg some kY) (fz J (rc T 4 (lf T 3 J (k [0] J tZ H (iJ.c · ly) (λv1 H=>ro T 12 (lf T 3 J (ro T 1 (kr l6.R [0] [0] J SN H (l6.c · ly) (λv2 H=>?_)))))))));rintro _ _ ⟨a7,n7,H7,s7,rfl,rfl⟩;refine fz J (ro T 3 (nc T J (λb8=>sg T 6 J (ro T 3 (mq H [4,5,6,7] [0,0,4,2,0,1,0] (λz6 (⟨x3,x4,x5,b9,cw,n10,bZ,dA,n11,cB⟩:Int×List Int×List Int×Nat×Option Addr×Nat×Hp×Option Addr×Nat×Hp)=>((x3,x4,x5)=z6/\aj (Fl.int .i64) 3 x4 cw n10 bZ/\aj (Fl.int .i32) 21 x5 dA n11 cB,[(9,(pp b9))],[(cl b9 217 [(ii x3),(ll cw x4 n10),(ll dA x5 n11)]),bZ,cB])) J J (λz6 Z3 _=>?_) ?_)))))
 ·refine ks [0,1,4,5,6,7] J (fz J (rz [] mix (bM bL) (λhg pf=>ha T 12 [0,1,2] sz hg pf J (av 3 sz hg pf J (aw T J J J J (aI (j:=2) J J)) (ha T 7 [4,6,7,8] sz hg pf J (av 9 sz hg pf J (aw T J J J J (aI (j:=2) J J)) (ha T 5 [10] sz hg pf J (fk 5 13 ?_ ?_))))))))
  ·refine kh [5] J B7 Z3 (p_.c · ly) (λv7 Z3=>an sz (fk 11 13 ?_ ?_))
   ·refine kR j8.R [5] [5] J JB Z3 (j8.c · ly) (λv8 Z3=>?_);rintro _ _ ⟨a12,n12,dz,dL,rfl,rfl⟩;refine fz J (an (so [0,0,0,0,0,2,0]) (ha T 2 [12] (so [0,0,0,0,0,2,0]) hg pf J (ao 13 (nw T J (λQK=>an (so [0,0,0,0,0,2,0]) (ao 14 (sf T 8 J (an (so [0,0,0,0,0,2,0]) (ae (rx T 1 (bC (am (_,_,_,_,_,_,_,_,_,_) [0,0,3,2,0,2,0,1,0,0] ⟨oi Z3,dL,aj.nil⟩ J J))))))))))))
   refine nw T J (λFG=>an (so [0,0,0,0,0,0,0]) (ao 11 (kR j8.R [5] [5] J JB Z3 (j8.c · ly) (λv9 Z3=>?_))));rintro _ _ ⟨jz,n15,dP,dV,rfl,rfl⟩;refine fz J (an (so [0,0,0,0,0,3,0]) (ha T 1 [12] (so [0,0,0,0,0,3,0]) hg pf J (ao 14 (sf T 6 J (an (so [0,0,0,0,0,3,0]) (ae (rx T 1 (bC (am (_,_,_,_,_,_,_,_,_,_) [0,0,3,2,0,3,0,0,0,0] ⟨oi Z3,dV,aj.nil⟩ J J)))))))))
  refine nw T J (λpV=>an (so [0,0,0,0,0,0,0]) (ao 5 (kh [5] J B7 Z3 (p_.c · ly) (λv10 Z3=>an (so [0,0,0,0,0,0,0]) (ao 11 (kR j8.R [5] [5] J JB Z3 (j8.c · ly) (λv11 Z3=>?_)))))));rintro _ _ ⟨a17,n17,eF,fq,rfl,rfl⟩;refine fz J (an (so [0,0,0,0,0,3,0]) (ha T 1 [12] (so [0,0,0,0,0,3,0]) hg pf J (ao 14 (sf T 6 J (an (so [0,0,0,0,0,3,0]) (ae (rx T 1 (bC (am (_,_,_,_,_,_,_,_,_,_) [0,0,3,2,0,3,0,0,0,0] ⟨oi Z3,fq,aj.nil⟩ J J)))))))))
 rintro _ ⟨x3,x4,x5,b9,cw,n10,bZ,dA,n11,cB⟩ ⟨rfl,bU,dj⟩ H;refine rc T 9 (lf T 7 J (ro T 5 (bC (lq [4,5,6,7,9,48,49] [0,0,0,0,3,3,3,0,0,0] (λ(⟨ze,bf,cm,mr,n19,kn⟩:Nat×List Int×Int×Option Addr×Nat×Hp)=>(jn.l0 ze v1 v2 x3 x4 bf cm=some r/\aj (Fl.int .i64) 3 bf mr n19 kn,[(10,(ll mr bf n19)),(50,(ii cm))],[kn])) J J (fuel,[],0,none,0,[]) [0,0,0,0,3,3,3,0,0,0,0] ⟨H,aj.nil⟩ J J ?_))));rintro ze ⟨bf,cm,mr,n19,kn⟩ ⟨Z9,gp⟩;rw[jn.l0] at Z9;refine rc T 6 (cd J Z9 (λZ9=>?_) (λZ9=>?_))
 ·refine rc T 6 ?_;obtain⟨eH,Z9⟩:=aA Z9;obtain⟨q20,o20,Au⟩:=bU.r.addr eH.1 eH.2;refine ix T J Au eH (le T 0 (oO bU 5) Au eH J J (ro T 8 (k [] J F9 Z9 (ra.c ·) (λv17 Z9=>aZ (cV (k:=(Fl.int .i64)) T [v17] J J J J J J J J J (λa21 lC jY=>?_))))));obtain⟨jg,Z9⟩:=aA Z9;refine aZ (ez (k:=(Fl.int .i64)) (xs:=bf) T (g:=10) J J J J J J J J J J gp (oO jY 11) jg J (λa22 n22 mN iO=>ro T 9 (ar (_,_,_,_,_) [0,0,0,0,0,0,0,0,0,0,0] ⟨Z9,iO⟩ J J)))
 refine rc T 7 (lm T 2 J (ro T 1 (kr jO.R [] [] J adm Z9 (jO.c · (oO s7 3) s7.bW (oO gp 10) gp.bW) (λfG Z9=>?_))));rintro _ _ ⟨a23,n23,jQ,g_,rfl,rfl⟩;refine fz J (ro T 11 ?_);obtain⟨yC,Z9⟩:=aA Z9;refine aZ (yu (k:=(Fl.int .i32)) T (0:Int) J J J J J J J J yC J (λa24 n24 qx lO=>ro T 1 (sg T 4 J (ro T 11 (lq [4,9,72,73] [0,0,3,8,4,4,4] (λ(⟨GN,dM,bX,a26,n26,oo⟩:Nat×List Int×Int×Option Addr×Nat×Hp)=>(jn.l1 GN x3 x4 fG dM bX=some r/\aj (Fl.int .i32) 21 dM a26 n26 oo,[(74,(ii bX))],[(cl b9 217 [(ii x3),(ll cw x4 n10),(ll a26 dM n26)]),oo])) J J (fuel,(List.replicate (Int.toNat (List.length fG.1:Int)) (0:Int)),0,a24,n24,qx) [0,0,3,8,4,4,4,2,4] ⟨Z9,lO⟩ J J ?_)))));rintro GN ⟨dM,bX,a26,n26,oo⟩ ⟨pT,mF⟩;rw[jn.l1] at pT;refine rc T 6 (cd J pT (λpT=>?_) (λpT=>?_))
 ·refine rc T 7 ?_;obtain⟨lI,pT⟩:=aA pT;obtain⟨Hm,o27,BX⟩:=g_.r.addr lI.1 lI.2;refine ix T J BX lI (le T 0 (oO g_ 3) BX lI J J (ro T 7 (lf T 7 J (ro T 1 ?_))));obtain⟨Ag,pT⟩:=aA pT;obtain⟨q28,o28,Ja⟩:=mF.r.addr Ag.1 Ag.2;refine ix T J Ja Ag (aZ (kU (k:=(Fl.int .i32)) T 8 0 (-1) J J J J J J mF Ja Ag J J J (λrk qQ=>kg [4,9,15,16,72,73,74] [0,0,0,0,0,0,0,1] [0,0,0,0,0,0,0,1,0] [] [(cl b9 217 [(ii x3),(ll cw x4 n10),(ll a26 (List.set dM (Int.toNat bX) (-1)) n26)])] J J trivial dN (ro T 8 (cb J pT (λpT=>?_) (λpT=>?_))))))
  ·refine rc T 2 (lf T 8 J (ro T 3 ?_));obtain⟨mQ,pT⟩:=aA pT;refine ix T J Ja mQ (aZ (kU (k:=(Fl.int .i32)) T 7 0 (IntKind.i32.wrap (rd fG.1 bX)) J J J J J J qQ Ja mQ J J J (λrl pH=>kg [4,9,72,73,74] [0,0,0,0,0,0,0,0] [0,0,0,0,0,0,0,0,0] [] [(cl b9 217 [(ii x3),(ll cw x4 n10),(ll a26 (List.set (List.set dM (Int.toNat bX) (-1)) (Int.toNat bX) (IntKind.i32.wrap (rd fG.1 bX))) n26)])] J J trivial dN (ro T 8 (ar (_,_,_,_,_) [0,0,0,0,0,0,0,1,0] ⟨pT,pH⟩ J J)))))
  refine rc T 8 (ar (_,_,_,_,_) [0,0,0,0,0,0,0,1,0] ⟨pT,qQ⟩ J J)
 refine rc T 7 (lm T 7 J (sg T 1 J (ro T 3 ?_)))
 cases pT;refine dr [4,5] J kY (pb T J (.cN (j:=1) [(ii x3),(ll cw x4 n10),(ll a26 dM n26)] J J J J J J J .nil) [2,5,5,3,0] ⟨(_,_),cw,n10,bZ,a26,n26,oo,bU,mF,J,J⟩ J J)
def nP.l0:Nat->bA->(List Int)->dJ->Int->Option (Int×dJ)
 |0,_,_,_,_=>none
 |k6+1,mG,v1,x4,x5=>if x5<(List.length v1:Int) then(if(0<=x5/\x5<(List.length v1:Int)) then((jn.f x4 (rd v1 x5) mG).bind λv7=>if(0<=(rd v1 x5)/\(rd v1 x5)<(List.length x4.parts:Int)) then((rZ.f x4.count 1).bind λv8=>nP.l0 k6 mG v1 (dJ.mk (List.set x4.parts (Int.toNat (rd v1 x5)) v7) x4.clean v8) (aa (x5+1))) else none) else none) else((pk.f mG).bind λv9=>some ((List.length v1:Int),(dJ.mk x4.parts v9 x4.count)))
def nP.f (m:dJ) (mG:bA):Option (Int×dJ):=(nO.f m mG).bind λv1=>nP.l0 fuel mG v1 m 0
def nP.R (aav:Nat) (afA:Nat) (r:(Int×dJ)):bm:=λu G=> ∃(H0:Hp),mO r.2 aav afA H0/\u=(ii r.1)/\G=[H0]
theorem nP.c (H:nP.f m mG=some r) (rU:mO m iH kX nn) (ly:iF mG kX lE):
 QR 181 [(pp iH)] [nn,lE] [lE] F (nP.R iH kX r):=by
 unfold nP.f at H;refine aG Tryz.func181 J J (λW=>rc T 12 (eY J (rc T 5 (kr nO.R [0,0] [0,0] J aee H (nO.c · rU ly) (λv1 H=>?_)))));rintro _ _ ⟨a3,n3,H3,s3,rfl,rfl⟩;refine fz J (ro T 12 (lq [0,3,10,11] [0,2,0] (λ(⟨k6,x4,x5,H5⟩:Nat×dJ×Int×Hp)=>(nP.l0 k6 mG v1 x4 x5=some r/\mO x4 iH kX H5,[(12,(ii x5))],[H5])) J J (fuel,m,0,nn) [0,2,0,0] ⟨H,rU⟩ J J ?_));rintro k6 ⟨x4,x5,H5⟩ ⟨Z2,s5⟩;rw[nP.l0] at Z2;refine rc T 6 (cd J Z2 (λZ2=>?_) (λZ2=>?_))
 ·refine rc T 6 ?_;obtain⟨c4,Z2⟩:=aA Z2;obtain⟨q6,o6,e6⟩:=s3.r.addr c4.1 c4.2;refine ix T J e6 c4 (le T 0 (oO s3 2) e6 c4 J J (ro T 4 ?_));obtain⟨a9,n9,H9,s9,rH⟩:=(λx=>x) s5;refine bS 3 (congrArg some rH) (fz J (fz J (rz [9] mix (bM bL) (λhg pf=>ha T 7 [0,1,2] sz hg pf J (av 3 sz hg pf J (aw T J J J J (aI (j:=3) J J)) (ha T 3 [4,5,6] sz hg pf J (ao 7 ?_)))))));obtain⟨v7,V5,Z2⟩:=gx Z2;refine FB (As:=[(cl iH 213 [(pp kX),(ll a9 x4.parts n9),(ii x4.clean),(uu x4.count)]),H9,lE]) (jn.R v7) [(cl iH 213 [(pp kX),(ll a9 x4.parts n9),(ii x4.clean),(uu x4.count)]),H9,lE] [3,3,1] J J J J ac4 J J (I_ (A:=[H5,lE]) (A2:=[H5,lE]) (by simp only[rH,List.flatten_cons,List.flatten_append,List.flatten_nil,List.append_nil,List.append_assoc]) (by simp only[rH,List.flatten_cons,List.flatten_append,List.flatten_nil,List.append_nil,List.append_assoc]) (jn.c V5 s5 ly)) ?_
  rintro _ _ ⟨cw,n10,bZ,dA,n11,cB,bU,dj,rfl,rfl⟩;refine fz J (an (so [0,5,0,2,2]) ?_);obtain⟨c6,Z2⟩:=aA Z2;obtain⟨vQ,OL,sE⟩:=s9.r.addr c6.1 c6.2;refine av 8 (so [0,5,0,2,2]) hg pf J (cT T J J J J J sE c6.1 c6.2) (ao 9 (LQ (j:=5) J s9 c6 (λ_ _ dP o15 dV=>?_)));obtain⟨dH,n13,eJ,iT,n14,fV,dm,gC,rfl,rfl⟩:=o15;refine LU (LR T 5 0 [(ii v7.version),(ll cw v7.nodes n10),(ll dA v7.aP n11)] J J J J J J dV sE J J J J (λgk gd=>an sl (ae (gw [2,2] J (LP (j:=3) (q:=7) v7 J gd J J ⟨cw,n10,bZ,dA,n11,cB,bU,dj,J,J⟩ (λfe ft=>kg [0,3,10,11,12] [0,0,1,1] [0,0,1,1,0] [] [(cl iH 213 [(pp kX),(ll a9 (List.set x4.parts (Int.toNat (rd v1 x5)) v7) n9),(ii x4.clean),(uu x4.count)])] J J trivial dN (rx T 6 (lf T 4 J (k [] J Jy Z2 (rZ.c ·) (λv8 Z2=>ro T 2 (sg T 4 J (ro T 8 (gw [4,2] J (ar (_,_,_) [0,1,0,0] ⟨Z2,(show mO (dJ.mk (List.set x4.parts (Int.toNat (rd v1 x5)) v7) x4.clean v8) iH kX (List.flatten [(cl iH 213 [(pp kX),(ll a9 (List.set x4.parts (Int.toNat (rd v1 x5)) v7) n9),(ii x4.clean),(uu v8)]),fe]) from⟨a9,n9,fe,ft,J⟩)⟩ J J))))))))))))))
 refine rc T 6 ?_;obtain⟨a21,n21,lC,jY,F2⟩:=(λx=>x) s5;refine bS 3 (congrArg some F2) (fz J (rc T 5 (lf T 3 J (k [1] J B6 Z2 (pk.c · ly) (λv9 Z2=>ro T 2 (sg T 3 J (ro T 10 ?_)))))))
 cases Z2;refine gw [3,3] J (p1 T J [3,1,0] ⟨(List.flatten [(cl iH 213 [(pp kX),(ll a21 x4.parts n21),(ii v9),(uu x4.count)]),lC]),(show mO (dJ.mk x4.parts v9 x4.count) iH kX (List.flatten [(cl iH 213 [(pp kX),(ll a21 x4.parts n21),(ii v9),(uu x4.count)]),lC]) from⟨a21,n21,lC,jY,J⟩),J,J⟩ J)
def xu.f (m:dJ) (bG:Int) (mG:bA):Option (List Int):=(if bG<0 then(some true) else(some (decide (bG≥(List.length m.parts:Int))))).bind λx1=>if x1=true then(some []) else(if(0<=bG/\bG<(List.length m.parts:Int)) then((qo.f ((rd m.parts bG).nodes)).bind λv3=>some v3) else none)
def xu.R (r:(List Int)):bm:=λu G=> ∃a0 n0 H0,aj (Fl.int .i64) 3 r a0 n0 H0/\u=(ll a0 r n0)/\G=[H0]
theorem xu.c (H:xu.f m bG mG=some r) (rU:mO m iH kX nn) (ly:iF mG kX lE):
 QR 215 [(pp iH),(ii bG)] [nn,lE] [nn,lE] F (xu.R r):=by
 unfold xu.f at H;refine aG Tryz.func215 J J (λW=>rc T 6 (mq H [0,1] [2,0,0] (λz2 (x1:Bool)=>(x1=z2,[(19,(bb x1))],[])) J J (λz2 Z1 _=>?_) ?_))
 ·obtain⟨a5,n5,H5,s5,dt⟩:=(λx=>x) rU;refine bS 0 (congrArg some dt) (fz J (rc T 8 (ad 11 J Z1 (λZ1=>?_) (λZ1=>?_))))
  ·refine ro T 10 (dr [2,2] J dt (am _ [1,1,0] (oi Z1) J J))
  refine ro T 4 (lf T 2 J (ro T 5 (dr [2,2] J dt (am _ [1,1,0] (oi Z1) J J))))
 rintro _ x1 rfl H;refine cb J H (λH=>?_) (λH=>?_)
 ·refine rc T 7 ?_
  cases H;refine bC (p1 T J [3,1,1,0] ⟨none,0,[],aj.nil,J,J⟩ J)
 refine rc T 3 ?_;obtain⟨a9,n9,H9,s9,rH⟩:=(λx=>x) rU;refine bS 1 (congrArg some rH) (fz J (rc T 4 (lf T 2 J (ro T 1 ?_))));obtain⟨c4,H⟩:=aA H;obtain⟨KL,KB,pZ⟩:=s9.r.addr c4.1 c4.2;refine ix T J pZ c4 (ro T 1 ?_);obtain⟨_,w13,⟨dA,n11,a12,n12,⟨Wu,m11⟩,⟨r12,m12⟩,rfl⟩⟩:=mo.view s9.r c4;refine lg T J (zb (j:=3) J w13 pZ 1 J) (kr qo.R [] [] J Nh H (qo.c · (rO Wu 3) m11) (λv3 H=>?_));rintro _ _ ⟨iT,n14,fV,gC,rfl,rfl⟩;refine fz J (ro T 4 ?_)
 cases H;refine dr [2,2] J rH (p1 T J [2,2,1,0] ⟨iT,n14,fV,gC,J,J⟩ J)
def Eo.f (p:pB) (cell:Int):Option (Int×Bool):=(oJ.f p.nodes cell).bind λv1=>some (v1.1,v1.2)
theorem Eo.c (H:Eo.f p cell=some r) (Km:Bx L1 OM [(ii p.version),(ll LG p.nodes OC),(ll LF p.aP OB)] F) (SC:aU (Fl.int .i64) p.nodes LG F) (Q3:List.length p.nodes<=OC) (M1:aU (Fl.int .i32) p.aP LF F) (aan:List.length p.aP<=OB):
 QU 272 [(.pointer (some ⟨L1,OM+0,none⟩)),(ii cell)] [] F (.tuple #[(ii r.1),(bb r.2)]):=by
 unfold Eo.f at H;refine aG Tryz.func272 J J (λW=>rc T 11 (lg T J (Oa Km (j:=0) J 1 J) (ro T 1 (k [] J adJ H (oJ.c · (rO SC 0) Q3) (λv1 H=>ro T 7 ?_)))))
 cases H;exact p0 T J [0] J
def sQ.f (m:dJ) (cell:Int) (mG:bA):Option ((Option Int)×Int×Bool):=(iJ.f mG).bind λv1=>(gN.f v1.1 v1.2 cell).bind λv2=>if v2<0 then(some (none,0,false)) else(if(0<=v2/\v2<(List.length m.parts:Int)) then((Eo.f (rd m.parts v2) cell).bind λv3=>some ((some v2),v3.1,v3.2)) else none)
def sQ.R (xa0:Option Addr) (xl0:Nat) (r:((Option Int)×Int×Bool)):bm:=λu G=> ∃(u0:Value),X' r.1 xa0 xl0 3 u0/\u=(.tuple #[u0,(ii r.2.1),(bb r.2.2)])/\G=[]
theorem sQ.c (H:sQ.f m cell mG=some r) (WQ:gF OV 217 m.parts LC Vg P0) (ly:iF mG kX lE):
 QR 243 [(pp iH),(ii cell)] [(cl iH 213 [(pp kX),(ll LC m.parts Vg),(ii m.clean),(uu m.count)]),P0,lE] [(cl iH 213 [(pp kX),(ll LC m.parts Vg),(ii m.clean),(uu m.count)]),P0,lE] F (sQ.R LC (List.length m.parts) r):=by
 unfold sQ.f at H;refine aG Tryz.func243 J J (λW=>rc T 14 (eY J (rc T 7 (lf T 0 J (k [2] J tZ H (iJ.c · ly) (λv1 H=>ro T 12 (k [] J rI H (gN.c ·) (λv2 H=>ro T 10 (cd J H (λH=>?_) (λH=>?_))))))))))
 ·refine rc T 9 ?_
  cases H;exact p1 T J [0,0,0,0] ⟨_,J,J,J⟩ J
 refine rc T 7 (lf T 0 J (ro T 1 ?_));obtain⟨c4,H⟩:=aA H;obtain⟨q4,o4,e4⟩:=WQ.r.addr c4.1 c4.2;refine ix T J e4 c4 (ro T 7 ?_);obtain⟨_,w7,⟨a5,n5,a6,n6,⟨r5,m5⟩,⟨r6,m6⟩,rfl⟩⟩:=mo.view WQ.r c4;refine k [] J adD H (Eo.c · (QD w7 e4 (j:=1) J) (rO r5 1) m5 (rO r6 1) m6) (λv3 H=>ro T 18 ?_)
 cases H;exact p1 T J [0,0,0,0] ⟨_,⟨c4,q4,o4,e4,J⟩,J,J⟩ J
def CA.f (p:pB) (i:Int) (j:Int):Option Int:=if(0<=(aa ((aa (i*(List.length p.nodes:Int)))+j))/\(aa ((aa (i*(List.length p.nodes:Int)))+j))<(List.length p.aP:Int)) then(if((rd p.aP (aa ((aa (i*(List.length p.nodes:Int)))+j)))!=(-1))=true then(some (aa (rd p.aP (aa ((aa (i*(List.length p.nodes:Int)))+j))))) else(some 1099511627776)) else none
theorem CA.c (H:CA.f p i j=some r) (Km:Bx L1 OM [(ii p.version),(ll LG p.nodes OC),(ll LF p.aP OB)] F) (SC:aU (Fl.int .i64) p.nodes LG F) (Q3:List.length p.nodes<=OC) (M1:aU (Fl.int .i32) p.aP LF F) (aan:List.length p.aP<=OB):
 QU 244 [(.pointer (some ⟨L1,OM+0,none⟩)),(ii i),(ii j)] [] F (ii r):=by
 unfold CA.f at H;refine aG Tryz.func244 J J (λW=>rc T 7 (dD mix az (au T J (au T J (au T J (aO J J J (aw T J J J J (Oa Km (j:=0) J 2 J)) ?_))))))
 iterate 4 refine au T J ?_
 refine aO J J J (aw T J J J J (Oa Km (j:=0) J 1 J)) ?_
 iterate 4 refine au T J ?_
 obtain⟨c1,H⟩:=aA H;obtain⟨q1,o1,e1⟩:=M1.addr c1.1 c1.2;refine aO J J J (cT T J J J J J e1 c1.1 c1.2) (aO J J J (aw T J J J J (iY (k:=(Fl.int .i32)) (rO M1 0) e1 c1 0 J)) (au T J (dg (rx T 7 (cb J H (λH=>?_) (λH=>?_))))))
 ·refine rc T 9 ?_
  cases H;exact p0 T J [0] J
 refine rc T 8 ?_
 cases H;exact p0 T J [0] J
def gX.l1:Nat->dJ->Int->bA->Int->(Int×Int)->List ek->Int->Option (List ek)
 |0,_,_,_,_,_,_,_=>none
 |lK+1,m,b,mG,fc,v10,aS,bf=>if bf<=3 then((mh.f v10.1 v10.2 b bf).bind λdG=>(sQ.f m dG mG).bind λv17=>du v17.1 (if v17.2.2=true then((jh.f mG b).bind λfG=>if(List.length aS+1<=1099511627776) then(gX.l1 lK m b mG fc v10 (aS++[(ek.mk dG fG)]) (aa (bf+1))) else none) else(gX.l1 lK m b mG fc v10 aS (aa (bf+1)))) (λXB=>if v17.2.2=true then(if(!(XB==fc))=true then((jh.f mG b).bind λnj=>if(List.length aS+1<=1099511627776) then(gX.l1 lK m b mG fc v10 (aS++[(ek.mk dG nj)]) (aa (bf+1))) else none) else(gX.l1 lK m b mG fc v10 aS (aa (bf+1)))) else(gX.l1 lK m b mG fc v10 aS (aa (bf+1))))) else(some aS)
def gX.l0:Nat->dJ->Int->bA->((Option Int)×Int×Bool)->Int->List ek->Int->Option (List ek)
 |0,_,_,_,_,_,_,_=>none
 |k6+1,m,b,mG,v1,fc,x4,x5=>if x5<(List.length ((rd m.parts fc).nodes):Int) then((if(0<=x5/\x5<(List.length ((rd m.parts fc).nodes):Int)) then((CA.f (rd m.parts fc) x5 v1.2.1).bind λv9=>if((x5 !=v1.2.1)&&(v9 !=1099511627776))=true then(if(List.length x4+1<=1099511627776) then(some (x4++[(ek.mk (rd ((rd m.parts fc).nodes) x5) v9)])) else none) else(some x4)) else none).bind λx7=>gX.l0 k6 m b mG v1 fc x7 (aa (x5+1))) else((iJ.f mG).bind λv10=>gX.l1 fuel m b mG fc v10 x4 0)
def gX.f (m:dJ) (b:Int) (mG:bA):Option (List ek):=(sQ.f m b mG).bind λv1=>du v1.1 (if(!v1.2.2)=true then(some []) else(none)) (λfc=>if(!v1.2.2)=true then(some []) else(if(0<=(0:Int)/\(0:Int)<=(aa ((List.length ((rd m.parts fc).nodes):Int)+1))/\(aa ((List.length ((rd m.parts fc).nodes):Int)+1))<=1099511627776) then(gX.l0 fuel m b mG v1 fc (List.replicate (Int.toNat 0) (default:ek)) 0) else none))
def gX.R (r:(List ek)):bm:=λu G=> ∃a0 n0 H0,aj pz 283 r a0 n0 H0/\u=(ll a0 r n0)/\G=[H0]
theorem gX.c (H:gX.f m b mG=some r) (rU:mO m iH kX nn) (ly:iF mG kX lE):
 QR 219 [(pp iH),(ii b)] [nn,lE] [nn,lE] F (gX.R r):=by
 unfold gX.f at H;refine aG Tryz.func219 J J (λW=>rc T 6 ?_);obtain⟨a5,n5,H5,s5,dt⟩:=(λx=>x) rU;refine bS 0 (congrArg some dt) (fz J (rc T 3 (kr (sQ.R a5 (List.length m.parts)) [2,2,0] [2,2,0] J Ti H (sQ.c · s5 ly) (λv1 H=>?_))));rintro _ _ ⟨_,X2,rfl,rfl⟩;refine fz J ?_;rcases J4:v1.1 with _ |fc
 ·replace H:=fi J4 H;rw[J4] at X2;obtain rfl:=X2;refine ro T 16 (cb J H (λH=>?_) (λH=>?_))
  ·refine rc T 7 ?_
   cases H;refine dr [1,1] J dt (bC (p1 T J [3,2,1,0] ⟨none,0,[],aj.nil,J,J⟩ J))
  refine rc T 5 ?_
  cases H
 replace H:=fj J4 H;rw[J4] at X2;obtain⟨MS,q6,o6,e6,rfl⟩:=X2;refine ro T 16 (cb J H (λH=>?_) (λH=>?_))
 ·refine rc T 7 ?_
  cases H;refine dr [1,1] J dt (bC (p1 T J [3,2,1,0] ⟨none,0,[],aj.nil,J,J⟩ J))
 refine rc T 7 ?_;obtain⟨_,Lh,⟨a9,n9,cw,n10,⟨r9,m9⟩,⟨KM,m10⟩,rfl⟩⟩:=mo.view s5.r MS;refine lg T J (zb (j:=2) J Lh e6 1 J) (ro T 2 ?_);obtain⟨c5,H⟩:=aA H;refine aZ (Zf (k:=pz) T (default:ek) J J J J J J J J c5 J (λa12 n12 dz dL=>ro T 9 (lg T J (zb (j:=2) J Lh e6 1 J) (ro T 5 (lq [0,1,5,6,38,39] [0,0,1,0] (λ(⟨k6,x4,x5,iT,n14,fV⟩:Nat×List ek×Int×Option Addr×Nat×Hp)=>(gX.l0 k6 m b mG v1 fc x4 x5=some r/\aj pz 283 x4 iT n14 fV,[(8,(ll iT x4 n14)),(40,(ii x5))],[fV])) J J (fuel,(List.replicate (Int.toNat 0) (default:ek)),0,a12,n12,dz) [0,0,1,0,0] ⟨H,dL⟩ J J ?_)))));rintro k6 ⟨x4,x5,iT,n14,fV⟩ ⟨Z6,gC⟩;rw[gX.l0] at Z6;refine rc T 6 (cd J Z6 (λZ6=>?_) (λZ6=>?_))
 ·refine rc T 2 (mq Z6 [0,1,5,6,38,39,40] [0,0,0,0] (λz8 (⟨x7,jz,n15,dP⟩:List ek×Option Addr×Nat×Hp)=>(x7=z8/\aj pz 283 x7 jz n15 dP,[(8,(ll jz x7 n15))],[dP])) J J (λz8 Z8 _=>?_) ?_)
  ·refine rc T 4 ?_;obtain⟨c9,Z8⟩:=aA Z8;obtain⟨q16,o16,FT⟩:=r9.addr c9.1 c9.2;refine ix T J FT c9 (le T 0 (rO r9 3) FT c9 J J (ro T 9 ?_));obtain⟨_,w19,⟨a17,n17,iU,n18,⟨r17,m17⟩,⟨r18,m18⟩,rfl⟩⟩:=mo.view s5.r MS;refine k [] J adq Z8 (CA.c · (QD w19 e6 (j:=3) J) (rO r17 3) m17 (rO r18 3) m18) (λv9 Z8=>ro T 9 (ga T [4,5,6] 52 [0,1,5,6,8,10,11,38,39,40] 55 J J J J J J J (ro T 2 (cb J Z8 (λZ8=>?_) (λZ8=>?_)))))
   ·refine rc T 5 (aZ (cV (k:=pz) T [(ek.mk (rd ((rd m.parts fc).nodes) x5) v9)] J J J J J J J J J (λa20 oh me=>?_)));obtain⟨fW,Z8⟩:=aA Z8;refine aZ (ez (k:=pz) (xs:=x4) T (g:=4) J J J J J J J J J J gC (oO me 5) fW J (λa21 n21 lC jY=>ro T 4 (am (_,_,_,_) [0,0,0,0,0] ⟨oi Z8,jY⟩ J J)))
   refine rc T 3 (am (_,_,_,_) [0,0,0,0,0] ⟨oi Z8,gC⟩ J J)
  rintro _ ⟨x7,jz,n15,dP⟩ ⟨rfl,dV⟩ Z6;refine rc T 5 (ar (_,_,_,_,_) [0,0,0,0,0] ⟨Z6,dV⟩ J J)
 refine rc T 10 (lf T 1 J (k [2] J tZ Z6 (iJ.c · ly) (λv10 Z6=>ro T 14 (lq [0,1,5,12,13] [0,0,0,0] (λ(⟨lK,aS,bf,a23,n23,jQ⟩:Nat×List ek×Int×Option Addr×Nat×Hp)=>(gX.l1 lK m b mG fc v10 aS bf=some r/\aj pz 283 aS a23 n23 jQ,[(8,(ll a23 aS n23)),(14,(ii bf))],[jQ])) J J (fuel,x4,0,iT,n14,fV) [0,0,0,0,0] ⟨Z6,gC⟩ J J ?_))));rintro lK ⟨aS,bf,a23,n23,jQ⟩ ⟨cj,g_⟩;rw[gX.l1] at cj;refine rc T 7 (cd J cj (λcj=>?_) (λcj=>?_))
 ·refine rc T 10 (k [] J AA cj (mh.c ·) (λdG cj=>ro T 7 (kr (sQ.R a5 (List.length m.parts)) [1,2,1] [1,2,1] J Ti cj (sQ.c · s5 ly) (λv17 cj=>?_))));rintro _ _ ⟨_,IK,rfl,rfl⟩;refine fz J ?_;rcases J6:v17.1 with _ |XB
  ·replace cj:=fi J6 cj;rw[J6] at IK;obtain rfl:=IK;refine ro T 13 (ab 88 J cj (λcj=>?_) (λcj=>?_))
   ·refine ro T 2 (bz J (abT T J J J J) (ro T 3 (ov J (rc T 6 (lf T 2 J (ro T 1 (k [4] J vn cj (jh.c · ly) (λfG cj=>ro T 1 (aZ (cV (k:=pz) T [(ek.mk dG fG)] J J J J J J J J J (λa25 gS jt=>?_)))))))))));obtain⟨mQ,cj⟩:=aA cj;refine aZ (ez (k:=pz) (xs:=aS) T (g:=1) J J J J J J J J J J g_ (oO jt 5) mQ J (λa26 n26 oo mF=>ro T 10 (ar (_,_,_,_,_) [0,1,2,1,0] ⟨cj,mF⟩ J J)))
   refine ro T 6 (eY J (rc T 9 (ar (_,_,_,_,_) [0,1,2,1,0] ⟨cj,g_⟩ J J)))
  replace cj:=fj J6 cj;rw[J6] at IK;obtain⟨ab7,q24,o24,e24,rfl⟩:=IK;refine ro T 13 (ab 88 J cj (λcj=>?_) (λcj=>?_))
  ·refine ro T 2 (bz J (abU T J J J J J J e24 e6 ab7.1 MS.1) (ro T 3 (cb J cj (λcj=>?_) (λcj=>?_))))
   ·refine rc T 6 (lf T 2 J (ro T 1 (k [4] J vn cj (jh.c · ly) (λnj cj=>ro T 1 (aZ (cV (k:=pz) T [(ek.mk dG nj)] J J J J J J J J J (λIL E9 vX=>?_)))))));obtain⟨c25,cj⟩:=aA cj;refine aZ (ez (k:=pz) (xs:=aS) T (g:=1) J J J J J J J J J J g_ (oO vX 5) c25 J (λa28 n28 uH ki=>ro T 10 (ar (_,_,_,_,_) [0,1,2,1,0] ⟨cj,ki⟩ J J)))
   refine rc T 9 (ar (_,_,_,_,_) [0,1,2,1,0] ⟨cj,g_⟩ J J)
  refine ro T 6 (eY J (rc T 9 (ar (_,_,_,_,_) [0,1,2,1,0] ⟨cj,g_⟩ J J)))
 refine rc T 12 ?_
 cases cj;refine dr [1,2] J dt (p1 T J [2,2,1,0] ⟨a23,n23,jQ,g_,J,J⟩ J)
end
end Go.Proofs.YthodkonhneebbaaGreatDoor
