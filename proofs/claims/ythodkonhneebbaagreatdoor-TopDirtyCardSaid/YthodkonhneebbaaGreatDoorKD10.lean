/- What the functions of some packages compute, each as a function of plain Lean, with its contract. No condition. -/
import Derived.Test.YthodkonhneebbaaGreatDoorKDT
import Derived.Test.YthodkonhneebbaaGreatDoorKD5
import Derived.Test.YthodkonhneebbaaGreatDoorKDSort
import Derived.Test.YthodkonhneebbaaGreatDoorKD8
import Derived.Test.YthodkonhneebbaaGreatDoorKD7
import Derived.Test.YthodkonhneebbaaGreatDoorKD6
namespace Go.Proofs.YthodkonhneebbaaGreatDoor
open Go.Hx
set_option maxRecDepth 100000
set_option linter.unusedSimpArgs false
set_option linter.unusedVariables false
set_option maxHeartbeats 4000000
set_option autoImplicit true
set_option relaxedAutoImplicit true
noncomputable section
def C7.f (t:aL) (cell:Int) (side:Int):Option Bool:=if(¬t.W=0) then(if(¬t.W=0) then(if(side==0)=true then(some ((aa (Int.tdiv cell t.W))==0)) else(if(side==1)=true then(some ((Int.tmod cell t.W)==(aa (t.W-1)))) else(if(side==2)=true then(some ((aa (Int.tdiv cell t.W))==(aa (t.H-1)))) else(if(side==3)=true then(some ((Int.tmod cell t.W)==0)) else(some (side==4)))))) else none) else none
theorem C7.c (H:C7.f t cell side=some r) (dR:aT (Fl.int .u8) t.C il F) (fi:List.length t.C<=iv):
 QU 223 [(.agg #[(ii t.W),(ii t.H),(ll il t.C iv)]),(ii cell),(ii side)] [] F (bb r):=by
 unfold C7.f at H;refine aD Tryz.func223 J J (λW=>rc T 2 (nc T J (λb1=>ro T 4 (du mix ay (au T J (au T J (aO J J J (aw T J J J J (aH (j:=1) J J)) ?_)))))));obtain⟨c1,H⟩:=az H;refine aO J J J (vp J J J c1) (au T J (au T J (aO J J J (aw T J J J J (aH (j:=1) J J)) ?_)));obtain⟨c2,H⟩:=az H;refine aO J J J (vn J J J c2) (au T J (au T J (cZ (rx T 14 (cb J H (λH=>?_) (λH=>?_))))))
 ·refine rc T 10 ?_
  cases H;exact p0 T J [0] J
 refine rc T 6 (cb J H (λH=>?_) (λH=>?_))
 ·refine rc T 4 (lf T 1 J (ro T 8 ?_))
  cases H;exact p0 T J [0] J
 refine rc T 6 (cb J H (λH=>?_) (λH=>?_))
 ·refine rc T 4 (lf T 1 J (ro T 8 ?_))
  cases H;exact p0 T J [0] J
 refine rc T 6 (cb J H (λH=>?_) (λH=>?_))
 ·refine rc T 10 ?_
  cases H;exact p0 T J [0] J
 refine rc T 11 ?_
 cases H;exact p0 T J [0] J
def C6.f (s:a_) (ai:aL):Option Bool:=(if s.Cell<0 then(some true) else(if s.Cell≥(List.length ai.C:Int) then(some true) else(if(0<=s.Cell/\s.Cell<(List.length ai.C:Int)) then(if((rd ai.C s.Cell)==255)=true then(some true) else(if s.Key<0 then(some true) else(if s.Key>1073741824 then(some true) else((C7.f ai s.Cell s.cI).bind λv3=>some (!v3))))) else none))).bind λx1=>some x1
theorem C6.c (H:C6.f s ai=some r) (GV:(tR,Obj.cells #[(ii ai.W),(ii ai.H),(ll IK ai.C KB)] 139 (0,0))∈F) (DT:aT (Fl.int .u8) ai.C IK F) (Q5:List.length ai.C<=KB):
 QU 222 [(.agg #[(ii s.Cell),(ii s.cI),(ii s.Key)]),(pp tR)] [] F (bb r):=by
 unfold C6.f at H;refine aD Tryz.func222 J J (λW=>rc T 2 (nc T J (λb1=>ro T 3 (mq H [] [0] (λz2 (x1:Bool)=>(x1=z2,[(3,(bb x1))],[])) J J (λz2 Z1 _=>?_) ?_))))
 ·refine rc T 2 (lf T 1 J (ro T 2 (ad 7 J Z1 (λZ1=>?_) (λZ1=>?_))))
  ·refine ro T 38 (am _ [0] (oi Z1) J J)
  refine ro T 1 (lf T 1 J (ro T 1 (lg T J (nD (j:=0) GV J J) (ro T 4 (ad 15 J Z1 (λZ1=>?_) (λZ1=>?_))))))
  ·refine ro T 30 (am _ [0] (oi Z1) J J)
  refine ro T 1 (lg T J (nD (j:=0) GV J J) (ro T 1 (lf T 1 J ?_)));obtain⟨c4,Z1⟩:=az Z1;obtain⟨q2,o2,e2⟩:=DT.addr c4.1 c4.2;refine ix T J e2 c4 (le T 0 (rO DT 0) e2 c4 J J (ro T 3 (ab 24 J Z1 (λZ1=>?_) (λZ1=>?_))))
  ·refine ro T 21 (am _ [0] (oi Z1) J J)
  refine ro T 1 (lf T 1 J (ro T 3 (ad 29 J Z1 (λZ1=>?_) (λZ1=>?_))))
  ·refine ro T 16 (am _ [0] (oi Z1) J J)
  refine ro T 1 (lf T 1 J (ro T 3 (ad 34 J Z1 (λZ1=>?_) (λZ1=>?_))))
  ·refine ro T 11 (am _ [0] (oi Z1) J J)
  refine br J (fQ T (cs:=[(ii ai.W),(ii ai.H),(ll IK ai.C KB)]) J J J J J J (aeP (j:=0) GV J J)) (ro T 1 (lf T 1 J (ro T 1 (lf T 1 J (k [] J ac_ Z1 (C7.c · (rO DT 0) Q5) (λv3 Z1=>ro T 5 (am _ [0] (oi Z1) J J)))))))
 rintro _ x1 rfl H;refine rc T 1 ?_
 cases H;exact p0 T J [0] J
def qS.l0:Nat->(List a_)->aL->Int->Option Int
 |0,_,_,_=>none
 |k3+1,s,fq,x2=>if x2<(List.length s:Int) then(if(0<=x2/\x2<(List.length s:Int)) then((C6.f (rd s x2) fq).bind λv4=>if v4=true then(some x2) else(qS.l0 k3 s fq (aa (x2+1)))) else none) else(some (-1))
def qS.f (s:(List a_)) (fq:aL):Option Int:=qS.l0 fuel s fq 0
theorem qS.c (H:qS.f s fq=some r) (jt:aT cE s iR F) (rp:List.length s<=iV) (Cu:(BQ,Obj.cells #[(ii fq.W),(ii fq.H),(ll BJ fq.C CD)] 139 (0,0))∈F) (B3:aT (Fl.int .u8) fq.C BJ F) (BU:List.length fq.C<=CD):
 QU 246 [(ll iR s iV),(.func (.func 222) #[] #[(pp BQ)])] [] F (ii r):=by
 unfold qS.f at H;refine aD Tryz.func246 J J (λW=>rc T 14 (lq [0,1,7] [0] (λ(⟨k3,x2⟩:Nat×Int)=>(qS.l0 k3 s fq x2=some r,[(8,(ii x2))],[])) J J (fuel,0) [0] H J J ?_));rintro k3 x2 Z1;replace Z1:qS.l0 (k3+1) s fq x2=some r:=Z1;rw[qS.l0] at Z1;refine rc T 6 (cd J Z1 (λZ1=>?_) (λZ1=>?_))
 ·refine rc T 15 ?_;obtain⟨c3,Z1⟩:=az Z1;obtain⟨q1,o1,e1⟩:=jt.addr c3.1 c3.2;refine ix T J e1 c3 (br J (fQ T (cs:=[(ii (rd s x2).Cell),(ii (rd s x2).cI),(ii (rd s x2).Key)]) J J J J J J (gX (k:=cE) (rO jt 0) e1 c3 J)) (k [] J ac9 Z1 (C6.c · (p7 Cu (j:=0) J) (rO B3 0) BU) (λv4 Z1=>ro T 2 (cb J Z1 (λZ1=>?_) (λZ1=>?_)))))
  ·refine rc T 12 ?_
   cases Z1;exact p0 T J [0] J
  refine rc T 8 (ar _ [0] Z1 J J)
 refine rc T 11 ?_
 cases Z1;exact p0 T J [0] J
def EI.f (s:(List a_)) (fq:aL):Option Bool:=(qS.f s fq).bind λv1=>some (decide (v1≥0))
theorem EI.c (H:EI.f s fq=some r) (jt:aT cE s iR F) (rp:List.length s<=iV) (Cu:(BQ,Obj.cells #[(ii fq.W),(ii fq.H),(ll BJ fq.C CD)] 139 (0,0))∈F) (B3:aT (Fl.int .u8) fq.C BJ F) (BU:List.length fq.C<=CD):
 QU 221 [(ll iR s iV),(.func (.func 222) #[] #[(pp BQ)])] [] F (bb r):=by
 unfold EI.f at H;refine aD Tryz.func221 J J (λW=>rc T 9 (k [] J adq H (qS.c · (rO jt 0) rp (p7 Cu (j:=0) J) (rO B3 0) BU) (λv1 H=>ro T 5 ?_)))
 cases H;exact p0 T J [0] J
def zB.f (t:aL) (l:(List a_)):Option Bool:=(tz.f t).bind λv1=>if(!v1)=true then(some false) else((EI.f l t).bind λv2=>some (!v2))
theorem zB.c (H:zB.f t l=some r) (dR:aT (Fl.int .u8) t.C il F) (fi:List.length t.C<=iv) (df:aT cE l ik F) (gu:List.length l<=gZ):
 QU 183 [(.agg #[(ii t.W),(ii t.H),(ll il t.C iv)]),(ll ik l gZ)] [] F (bb r):=by
 unfold zB.f at H;refine aD Tryz.func183 J J (λW=>rc T 2 (nc T J (λb1=>ro T 6 (lm T 1 J (k [] J JH H (tz.c · (rO dR 0) fi) (λv1 H=>ro T 3 (cb J H (λH=>?_) (λH=>?_))))))))
 ·refine rc T 7 ?_
  cases H;exact p0 T J [0] J
 refine rc T 6 (k [] J ac8 H (EI.c · (rO df 0) gu (AN (j:=1) J) (rO dR 0) fi) (λv2 H=>ro T 5 ?_))
 cases H;exact p0 T J [0] J
def pG.f (a:a_) (b:a_):Option Int:=(sx.f a.Key b.Key).bind λv1=>(sx.f a.Cell b.Cell).bind λv2=>(sx.f a.cI b.cI).bind λv3=>(mH.f [v1,v2,v3]).bind λv4=>some v4
theorem pG.c (H:pG.f a b=some r):
 QU 209 [(.agg #[(ii a.Cell),(ii a.cI),(ii a.Key)]),(.agg #[(ii b.Cell),(ii b.cI),(ii b.Key)])] [] F (ii r):=by
 unfold pG.f at H;refine aD Tryz.func209 J J (λW=>rc T 2 (nc T J (λb1=>nc T J (λb2=>ro T 4 (ks [2,3] J (fz J (rg [] [0,0,0] mix (bP bO) (λhg pf=>ha T 17 [0] sz hg pf J (av 1 sz hg pf J (aw T J J J J (aH (j:=1) J J)) (ha T 15 [2] sz hg pf J (av 3 sz hg pf J (aw T J J J J (aH (j:=2) J J)) (ha T 13 [5] sz hg pf J (av 6 sz hg pf J (aw T J J J J (aH (j:=1) J J)) (ha T 11 [7] sz hg pf J (av 8 sz hg pf J (aw T J J J J (aH (j:=2) J J)) (ha T 9 [10] sz hg pf J (av 11 sz hg pf J (aw T J J J J (aH (j:=1) J J)) (ha T 7 [12] sz hg pf J (av 13 sz hg pf J (aw T J J J J (aH (j:=2) J J)) (ao 4 (kh [] J Nl H (sx.c ·) (λv1 H=>an sz (ao 9 (kh [] J Nl H (sx.c ·) (λv2 H=>an sz (ao 14 (kh [] J Nl H (sx.c ·) (λv3 H=>an sz (ao 15 (cU (k:=(Fl.int .i64)) T [v1,v2,v3] J J J J J J J J J (λa3 H3 s3=>an (so [0,0,0]) (ao 16 (kh [] J adk H (mH.c · (oO s3 3) s3.bY) (λv4 H=>an (so [0,0,0]) (ha T 0 [17] (so [0,0,0]) hg pf J (ae (rx T 2 ?_)))))))))))))))))))))))))))))))))))))
 cases H;exact p0 T J [0] J
def HH.f:Option Unit:=some ()
theorem HH.c (H:HH.f=some r):
 QU 255 [nl,(ii 0),(ii 0),(.func (.func 209) #[] #[])] [] F (.tuple #[]):=by
 unfold HH.f at H;refine aD Tryz.func255 J J (λW=>rc T 8 (lu [0,1,2,3,8] [0] J J (rc T 8 (eN J (rc T 4 (iZ ?_))))))
 cases H;exact p0 T J [0] J
def HI.f (U7:Int):Option Unit:=(HH.f).bind λv1=>some ()
theorem HI.c (H:HI.f U7=some r):
 QU 234 [nl,(ii 0),(ii 0),(ii U7),(.func (.func 209) #[] #[])] [] F (.tuple #[]):=by
 unfold HI.f at H;refine aD Tryz.func234 J J (λW=>rc T 11 (lu [0,1,2,3,4,10,11] [0] J J (rc T 16 (nh J (rc T 6 (k [] J adw H (HH.c ·) (λv1 H=>ro T 7 ?_)))))))
 cases H;exact p0 T J [0] J
def K4.f:Option Unit:=(GW.f (dU 0)).bind λv1=>(HI.f v1).bind λv2=>some ()
theorem K4.c (H:K4.f=some r):
 QU 208 [nl,(.func (.func 209) #[] #[])] [] F (.tuple #[]):=by
 unfold K4.f at H;refine aD Tryz.func208 J J (λW=>rc T 12 (k [] J adj H (GW.c ·) (λv1 H=>ro T 1 (k [] J adi H (HI.c ·) (λv2 H=>ro T 1 (iZ ?_))))))
 cases H;exact p0 T J [0] J
def Bb.f (s:(List a_)):Option (List a_):=if List.length s<4611686018427387904 then some (pJ (λa b=>Option.getD (pG.f a b) 0) s) else none
def Bb.R (ajg:Option Addr) (ajn:Nat) (ajl:Nat) (r:List a_) (u:Value) (G:List Hp):Prop:= ∃(H0:Hp),aj cE 285 r ajg ajn H0/\List.length r=ajl/\u=(.tuple #[])/\G=[H0]
theorem Rf (x y:Int):sx.f x y=some (if x<y then-1 else if x>y then 1 else 0):=by
 simp[sx.f,cmp_isNaN_int.f];split
 ·rfl
 ·split<;>rfl
theorem Rg (a b c:Int):mH.f [a,b,c]=some (if a=0 then(if b=0 then c else b) else a):=by
 have e1:aa (0+1)=1:=by decide
 have e2:aa (1+1)=2:=by decide
 have e3:aa (2+1)=3:=by decide
 unfold mH.f;rw[cD,mH.l0]
 by_cases ha:a=0
 ·subst ha;simp only[List.length_cons,List.length_nil,rd,e1];rw[mH.l0]
  by_cases hb:b=0
  ·subst hb;simp only[List.length_cons,List.length_nil,rd,e2];rw[mH.l0]
   by_cases hc:c=0
   ·subst hc;simp only[List.length_cons,List.length_nil,rd,e3];rw[mH.l0];simp
   ·simp[rd,hc]
  ·simp[rd,hb]
 ·simp[rd,ha]
theorem aic (a b:a_): ∃v,pG.f a b=some v:=by
 unfold pG.f;simp only[Rf,Rg,Option.bind_some];exact⟨_,J⟩
theorem aia (a b:a_):pG.f a b=some (Option.getD (pG.f a b) 0):=by
 obtain⟨v,h⟩:=aic a b;rw[h];rfl
theorem ah' (a b:a_):Option.getD (pG.f a b) 0=(if(if a.Key<b.Key then(-1:Int) else if a.Key>b.Key then 1 else 0)=0 then(if(if a.Cell<b.Cell then(-1:Int) else if a.Cell>b.Cell then 1 else 0)=0 then(if a.cI<b.cI then(-1:Int) else if a.cI>b.cI then 1 else 0) else(if a.Cell<b.Cell then(-1:Int) else if a.Cell>b.Cell then 1 else 0)) else(if a.Key<b.Key then(-1:Int) else if a.Key>b.Key then 1 else 0)):=by
 unfold pG.f;simp only[Rf,Rg,Option.bind_some,Option.getD_some]
theorem Po (a b:a_):Go.Proofs.ltOf (λa b=>Option.getD (pG.f a b) 0) a b=decide (a.Key<b.Key∨a.Key=b.Key/\(a.Cell<b.Cell∨a.Cell=b.Cell/\a.cI<b.cI)):=by
 unfold Go.Proofs.ltOf;simp only[ah']
 congr 1
 apply propext;constructor
 ·intro h
  by_cases k1:a.Key<b.Key
  ·exact .inl k1
  ·by_cases k2:a.Key>b.Key
   ·simp[k1,k2] at h
   ·by_cases c1:a.Cell<b.Cell
    ·exact .inr ⟨by omega,.inl c1⟩
    ·by_cases c2:a.Cell>b.Cell
     ·simp[k1,k2,c1,c2] at h
     ·by_cases s1:a.cI<b.cI
      ·exact .inr ⟨by omega,.inr ⟨by omega,s1⟩⟩
      ·by_cases s2:a.cI>b.cI
       ·simp[k1,k2,c1,c2,s1,s2] at h
       ·simp[k1,k2,c1,c2,s1,s2] at h
 ·intro h
  by_cases k1:a.Key<b.Key
  ·simp[k1]
  ·by_cases k2:a.Key>b.Key
   ·exfalso;omega
   ·by_cases c1:a.Cell<b.Cell
    ·simp[k1,k2,c1]
    ·by_cases c2:a.Cell>b.Cell
     ·exfalso;omega
     ·have s1:a.cI<b.cI:=U;simp[k1,k2,c1,c2,s1]
theorem aib:Go.Sort.SWO (Go.Proofs.ltOf (λa b=>Option.getD (pG.f a b) 0)) where
 irrefl x:=by rw[Po];simp
 trans x y z h1 h2:=by rw[Po] at*;simp only[decide_eq_true_eq] at*;omega
 ntrans x y z h1 h2:=by rw[Po] at*;simp only[decide_eq_false_iff_not] at*;omega
theorem aiw: ∀w,(isAgg 285).run Tryz.prog w= .ok true w:=λw=>by kernel_rfl
theorem aiz: ∀w,(Go.sizeOf 285).run Tryz.prog w= .ok 3 w:=λw=>by kernel_rfl
theorem Bb.c {iR:Option Addr} {iV:Nat} {dQ:Hp} {s r:List a_} {F:Hp} (H:Bb.f s=some r) (cQ:aj cE 285 s iR iV dQ):
 QR 208 [(ll iR s iV),(.func (.func 209) #[] #[])] [dQ] [] F (Bb.R iR iV (List.length s) r):=by
 obtain⟨hl,H⟩:=az H;obtain rfl:=Option.some.inj H;exact aiA Go.Proofs.Tryz.aix cE aiw aiz (λa b=>Option.getD (pG.f a b) 0) aib 209 (Go.Proofs.enters_of Tryz.func209 ay J) (λx y F=>pG.c (F:=F) (aia x y)) 285 (λF=>K4.c (r:=()) (F:=F) ay) s F hl cQ
def mV.f (l:(List a_)):Option (List a_):=(rS.f l).bind λv1=>(Bb.f v1).bind λv2=>(jA.f v2).bind λv3=>some v3
def mV.R (r:(List a_)) (u:Value) (G:List Hp):Prop:= ∃(a0:Option Addr) (n0:Nat) (H0:Hp),aj cE 285 r a0 n0 H0/\u=(ll a0 r n0)/\G=[H0]
theorem mV.c (H:mV.f l=some r) (df:aT cE l ik F) (gu:List.length l<=gZ):
 QR 180 [(ll ik l gZ)] [] [] F (mV.R r):=by
 unfold mV.f at H;refine aD Tryz.func180 J J (λW=>rc T 8 (kr rS.R [] [] J Tc H (rS.c · (rO df 0) gu) (λv1 H=>?_)));rintro _ _ ⟨a1,n1,H1,s1,rfl,rfl⟩;refine fz J (ro T 6 (kr (Bb.R a1 n1 (List.length v1)) [] [1] J ac1 H (Bb.c · s1) (λv2 H=>?_)));rintro _ _ ⟨H2,s2,l2,rfl,rfl⟩;refine fz J (kf [] [0,0] [(0,(ll a1 v2 n1))] J J ⟨(by first |rfl |(simp only[ll,l2];rfl)),trivial⟩ (ro T 5 ?_))
 refine kr jA.R [] [1] J ac2 H (jA.c · s2) (λv3 H=>?_);rintro _ _ ⟨a3,n3,H3,s3,rfl,rfl⟩;refine fz J (ro T 2 (ks [2] J (rx T 2 ?_)))
 cases H;exact p1 T J [1,0] ⟨a3,n3,H3,s3,J,J⟩ J
def A'.f (a:(List a_)) (b:(List a_)):Option Bool:=(qR.f a b).bind λv1=>some v1
theorem A'.c (H:A'.f a b=some r) (DS:aT cE a Ff F) (Mg:List.length a<=G6) (gW:aT cE b jW F) (gp:List.length b<=jJ):
 QU 185 [(ll Ff a G6),(ll jW b jJ)] [] F (bb r):=by
 unfold A'.f at H;refine aD Tryz.func185 J J (λW=>rc T 9 (k [] J ada H (qR.c · (rO DS 0) Mg (rO gW 0) gp) (λv1 H=>ro T 4 ?_)))
 cases H;exact p0 T J [0] J
def kC.l0:Nat->(List a_)->Int->Int->Int->Bool->Int->Option Int
 |0,_,_,_,_,_,_=>none
 |k7+1,l,cell,side,x4,x5,x6=>if x6<(List.length l:Int) then(if(0<=x6/\x6<(List.length l:Int)) then((if((rd l x6).Cell==cell)=true then(if((rd l x6).cI==side)=true then(if(!x5)=true then(some true) else(some (decide ((rd l x6).Key<x4)))) else(some false)) else(some false)).bind λx8=>if x8=true then(kC.l0 k7 l cell side ((rd l x6).Key) true (aa (x6+1))) else(kC.l0 k7 l cell side x4 x5 (aa (x6+1)))) else none) else(some x4)
def kC.f (l:(List a_)) (cell:Int) (side:Int):Option Int:=kC.l0 fuel l cell side 1099511627776 false 0
theorem kC.c (H:kC.f l cell side=some r) (df:aT cE l ik F) (gu:List.length l<=gZ):
 QU 250 [(ll ik l gZ),(ii cell),(ii side)] [] F (ii r):=by
 unfold kC.f at H;refine aD Tryz.func250 J J (λW=>rc T 20 (lq [1,2,11,12] [0] (λ(⟨k7,x4,x5,x6⟩:Nat×Int×Bool×Int)=>(kC.l0 k7 l cell side x4 x5 x6=some r,[(7,(ii x4)),(8,(bb x5)),(13,(ii x6))],[])) J J (fuel,1099511627776,false,0) [0] H J J ?_));rintro k7 ⟨x4,x5,x6⟩ Z1;replace Z1:kC.l0 (k7+1) l cell side x4 x5 x6=some r:=Z1;rw[kC.l0] at Z1;refine rc T 6 (cd J Z1 (λZ1=>?_) (λZ1=>?_))
 ·refine rc T 6 ?_;obtain⟨c3,Z1⟩:=az Z1;obtain⟨q1,o1,e1⟩:=df.addr c3.1 c3.2;refine ix T J e1 c3 (br J (fQ T (cs:=[(ii (rd l x6).Cell),(ii (rd l x6).cI),(ii (rd l x6).Key)]) J J J J J J (gX (k:=cE) (rO df 0) e1 c3 J)) (nc T J (λb2=>sg T 1 J (ro T 2 (mq Z1 [1,2,7,8,10,11,12,13] [0,0] (λz9 (x8:Bool)=>(x8=z9,[(36,(bb x8))],[])) J J (λz9 Z4 _=>?_) ?_)))))
  ·refine rc T 2 (lf T 1 J (ro T 3 (ab 21 J Z4 (λZ4=>?_) (λZ4=>?_))))
   ·refine ro T 1 (lf T 1 J (ro T 4 (ab 27 J Z4 (λZ4=>?_) (λZ4=>?_))))
    ·refine ro T 3 (ab 30 J Z4 (λZ4=>?_) (λZ4=>?_))
     ·refine ro T 8 (am _ [0,0] (oi Z4) J J)
     refine ro T 1 (lf T 1 J (ro T 6 (am _ [0,0] (oi Z4) J J)))
    refine ro T 11 (am _ [0,0] (oi Z4) J J)
   refine ro T 17 (am _ [0,0] (oi Z4) J J)
  rintro _ x8 rfl Z1;refine cb J Z1 (λZ1=>?_) (λZ1=>?_)
  ·refine rc T 2 (lf T 1 J (ro T 10 (ar (_,_,_) [0] Z1 J J)))
  refine rc T 8 (ar (_,_,_) [0] Z1 J J)
 refine rc T 12 ?_
 cases Z1;exact p0 T J [0] J
end
noncomputable section
def jR.l0:Nat->db->eF->List a_->Option db
 |0,_,_,_=>none
 |ze+1,s,x9,aN=>(if(List.length aN:Int)>0 then(if(0<=(0:Int)/\(0:Int)<(List.length aN:Int)) then((sX.f x9 ((rd aN 0).Key) ((rd aN 0).Cell)).bind λcS=>some (cS.2,cS.1)) else none) else(some (x9,false))).bind λ(bo,aU)=>if aU=true then(if(0<=(1:Int)/\(1:Int)<=(List.length aN:Int)/\(List.length aN:Int)<=(List.length aN:Int)) then(jR.l0 ze s bo (aA aN 1 (List.length aN:Int))) else none) else(some (db.mk s.t bo aN s.aR))
def jR.f (s:db):Option db:=((if(List.length s.todo:Int)>0 then((wa.f s.wait).bind λv5=>some (v5==0)) else(some false)).bind λx3=>if x3=true then(if(0<=(0:Int)/\(0:Int)<(List.length s.todo:Int)) then((xK.f s.wait ((rd s.todo 0).Key)).bind λv6=>some v6.2) else none) else(some s.wait)).bind λx1=>jR.l0 fuel s x1 s.todo
def jR.R (bg:Nat) (y0:Value) (BT:List a_) (BR:Option Addr) (BS:Nat) (r:db) (u:Value) (G:List Hp):Prop:= ∃(b0:Nat) (H0:Hp) (a1:Option Addr) (n1:Nat) (a2:Option Addr) (n2:Nat) (H2:Hp),kc r.wait b0 H0/\dr cE BT BR BS r.todo a1 n1/\List.length r.todo<=n1/\aj (Fl.int .i64) 3 r.aR a2 n2 H2/\u=(.tuple #[])/\G=[(cl bg 369 [(ii r.t.W),(ii r.t.H),y0,(pp b0),(ll a1 r.todo n1),(ll a2 r.aR n2)]),H0,H2]
theorem jR.c (H:jR.f s=some r) (pX:aT (Fl.int .u8) s.t.C kj F) (tU:List.length s.t.C<=kA) (wm:kc s.wait o_ zU) (pj:aT cE s.todo mF F) (jr:List.length s.todo<=mQ) (tk:aj (Fl.int .i64) 3 s.aR u5 vO wL):
 QR 273 [(pp bg)] [(cl bg 369 [(ii s.t.W),(ii s.t.H),(ll kj s.t.C kA),(pp o_),(ll mF s.todo mQ),(ll u5 s.aR vO)]),zU,wL] [] F (jR.R bg (ll kj s.t.C kA) s.todo mF mQ r):=by
 unfold jR.f at H;refine aD Tryz.func273 J J (λW=>mq H [0] [3,0,1] (λz2 (⟨x1,H4⟩:eF×Hp)=>(x1=z2/\kc x1 o_ H4,[],[H4])) J J (λz2 Z1 _=>?_) ?_)
 ·refine mq Z1 [0] [3,0,0,0] (λz4 (x3:Bool)=>(x3=z4,[(15,(bb x3))],[])) J J (λz4 Z2 _=>?_) ?_
  ·refine rc T 4 (lf T 0 J (ro T 3 (ad 8 J Z2 (λZ2=>?_) (λZ2=>?_))))
   ·refine ro T 3 (lf T 0 J (k [1] J Ns Z2 (wa.c · wm) (λv5 Z2=>ro T 4 (am _ [3,0,0,0] (oi Z2) J J))))
   refine ro T 9 (am _ [3,0,0,0] (oi Z2) J J)
  rintro _ x3 rfl Z1;refine cb J Z1 (λZ1=>?_) (λZ1=>?_)
  ·refine fz J (rz [11] mix (bP bO) (λhg pf=>ha T 9 [0,1,2] sz hg pf J (av 3 sz hg pf J (aw T J J J J (aH (j:=1) J J)) (ha T 5 [4,5,6] sz hg pf J (av 7 sz hg pf J (aw T J J J J (aH (j:=1) J J)) ?_)))));obtain⟨c6,Z1⟩:=az Z1;obtain⟨q5,o5,e5⟩:=pj.addr c6.1 c6.2;refine av 8 sz hg pf J (cO T J J J J J e5 c6.1 c6.2) (ha T 2 [9] sz hg pf J (av 10 sz hg pf J (aw T J J J J (iU (k:=cE) (rO pj 0) e5 c6 2 J)) (ao 11 (kR (xK.R o_) [] [2] J adM Z1 (xK.c · wm) (λv6 Z1=>?_)))));rintro _ _ ⟨H6,s6,rfl,rfl⟩;refine fz J (an sl (ae (rx T 1 (am (_,_) [0,0,0,0] ⟨oi Z1,s6⟩ J J))))
  refine rc T 2 (am (_,_) [0,0,1,0] ⟨oi Z1,wm⟩ J J)
 rintro _ ⟨x1,H4⟩ ⟨rfl,s4⟩ H;refine rc T 1 (lq [0] [0,1] (λ(⟨ze,x9,aN,H9,cw,n10⟩:Nat×eF×List a_×Hp×Option Addr×Nat)=>(jR.l0 ze s x9 aN=some r/\kc x9 o_ H9/\dr cE s.todo mF mQ aN cw n10/\List.length aN<=n10,[],[(cl bg 369 [(ii s.t.W),(ii s.t.H),(ll kj s.t.C kA),(pp o_),(ll cw aN n10),(ll u5 s.aR vO)]),H9])) J J (fuel,x1,s.todo,H4,mF,mQ) [0,1,0,0] ⟨H,s4,dr.self,jr⟩ J J ?_);rintro ze ⟨x9,aN,H9,cw,n10⟩ ⟨Z8,s9,BN,FA⟩;rw[jR.l0] at Z8;refine rc T 1 (mq Z8 [0] [0,1,0] (λIl (⟨bo,aU,cA⟩:eF×Bool×Hp)=>((bo,aU)=Il/\kc bo o_ cA,[(54,(bb aU))],[cA])) J J (λIl Z9 _=>?_) ?_)
 ·refine fz J (rz [25] mix (bP bO) (λhg pf=>ha T 24 [0,1,2] sz hg pf J (av 3 sz hg pf J (aw T J J J J (aH (j:=2) J J)) (ha T 20 [4,5,6] sz hg pf J (ad 34 J Z9 (λZ9=>?_) (λZ9=>?_))))))
  ·refine ha T 17 [7,8,9] sz hg pf J (av 10 sz hg pf J (aw T J J J J (aH (j:=2) J J)) (ha T 13 [11,12,13] sz hg pf J (av 14 sz hg pf J (aw T J J J J (aH (j:=2) J J)) ?_)));obtain⟨dG,Z9⟩:=az Z9;obtain⟨vV,OL,sD⟩:=(dr.r BN pj jr).addr dG.1 dG.2;refine av 15 sz hg pf J (cO T J J J J J sD dG.1 dG.2) (ha T 10 [16] sz hg pf J (av 17 sz hg pf J (aw T J J J J (iU (k:=cE) (oo BN (rO pj 0) jr) sD dG 2 J)) (ha T 6 [18,19,20] sz hg pf J (av 21 sz hg pf J (aw T J J J J (aH (j:=2) J J)) (av 22 sz hg pf J (cO T J J J J J sD dG.1 dG.2) (ha T 3 [23] sz hg pf J (av 24 sz hg pf J (aw T J J J J (iU (k:=cE) (oo BN (rO pj 0) jr) sD dG 0 J)) (ao 25 (kR (sX.R o_) [] [3] J Tz Z9 (sX.c · s9) (λcS Z9=>?_))))))))));rintro _ _ ⟨eI,dn,rfl,rfl⟩;refine fz J (an sl (hb T 26 sl hg pf J (ae (rx T 1 (am (_,_,_) [0,1,0,0] ⟨oi Z9,dn⟩ J J)))))
  refine ha T 2 [7,8,9,10,11,12,13,14,15,16,17,18,19,20,21,22,23,24] sz hg pf J (ao 25 (ZA J (an sl (hb T 26 sl hg pf J (ae (rx T 1 (am (_,_,_) [0,1,0,0] ⟨oi Z9,s9⟩ J J)))))))
 rintro _ ⟨bo,aU,cA⟩ ⟨rfl,dh⟩ Z8;refine cb J Z8 (λZ8=>?_) (λZ8=>?_)
 ·refine rc T 8 (lf T 1 J ?_);obtain⟨pa,Z8⟩:=az Z8;refine br J (ko T J J J J J J pa FA) (ro T 2 (sg T 1 J (ro T 3 (ar (_,_,_,_,_) [0,1,0,0] ⟨Z8,dh,(dr.sub BN jr pa),(mz pa FA)⟩ J J))))
 refine rc T 4 (iZ ?_)
 cases Z8;exact p1 T J [1,2,1,0] ⟨o_,cA,cw,n10,u5,vO,wL,dh,BN,FA,tk,J,J⟩ J
def kE.f (s:db) (ai:Int) (key:Int):Option db:=(if(0<=ai/\ai<(List.length s.t.C:Int)) then(if((rd s.t.C ai)!=255)=true then(if(0<=ai/\ai<(List.length s.aR:Int)) then(some ((rd s.aR ai)==1099511627776)) else none) else(some false)) else none).bind λx1=>if x1=true then((sX.f s.wait key ai).bind λv3=>some (db.mk s.t v3.2 s.todo s.aR)) else(some s)
def kE.R (bg:Nat) (y0:Value) (BT:List a_) (BR:Option Addr) (BS:Nat) (r:db) (u:Value) (G:List Hp):Prop:= ∃(b0:Nat) (H0:Hp) (a1:Option Addr) (n1:Nat) (a2:Option Addr) (n2:Nat) (H2:Hp),kc r.wait b0 H0/\dr cE BT BR BS r.todo a1 n1/\List.length r.todo<=n1/\aj (Fl.int .i64) 3 r.aR a2 n2 H2/\u=(.tuple #[])/\G=[(cl bg 369 [(ii r.t.W),(ii r.t.H),y0,(pp b0),(ll a1 r.todo n1),(ll a2 r.aR n2)]),H0,H2]
theorem kE.c (H:kE.f s ai key=some r) (pX:aT (Fl.int .u8) s.t.C kj F) (tU:List.length s.t.C<=kA) (wm:kc s.wait o_ zU) (pj:aT cE s.todo mF F) (jr:List.length s.todo<=mQ) (tk:aj (Fl.int .i64) 3 s.aR u5 vO wL):
 QR 294 [(pp bg),(ii ai),(ii key)] [(cl bg 369 [(ii s.t.W),(ii s.t.H),(ll kj s.t.C kA),(pp o_),(ll mF s.todo mQ),(ll u5 s.aR vO)]),zU,wL] [] F (kE.R bg (ll kj s.t.C kA) s.todo mF mQ r):=by
 unfold kE.f at H;refine aD Tryz.func294 J J (λW=>mq H [0,1,2] [3,0,0,0] (λz2 (x1:Bool)=>(x1=z2,[(24,(bb x1))],[])) J J (λz2 Z1 _=>?_) ?_)
 ·refine rc T 5 (lf T 0 J (ro T 1 ?_));obtain⟨c2,Z1⟩:=az Z1;obtain⟨q4,o4,e4⟩:=pX.addr c2.1 c2.2;refine ix T J e4 c2 (le T 0 (rO pX 3) e4 c2 J J (ro T 2 (ab 15 J Z1 (λZ1=>?_) (λZ1=>?_))))
  ·refine ro T 3 (lf T 0 J (ro T 1 ?_));obtain⟨c4,Z1⟩:=az Z1;obtain⟨q5,o5,e5⟩:=tk.r.addr c4.1 c4.2;refine ix T J e5 c4 (le T 0 (oO tk 2) e5 c4 J J (ro T 4 (am _ [3,0,0,0] (oi Z1) J J)))
  refine ro T 11 (am _ [3,0,0,0] (oi Z1) J J)
 rintro _ x1 rfl H;refine cb J H (λH=>?_) (λH=>?_)
 ·refine rc T 4 (lf T 1 J (ro T 2 (kr (sX.R o_) [] [2] J Tz H (sX.c · wm) (λv3 H=>?_))));rintro _ _ ⟨H6,s6,rfl,rfl⟩;refine fz J (ro T 1 (iZ ?_))
  cases H;exact p1 T J [1,2,1,0] ⟨o_,H6,mF,mQ,u5,vO,wL,s6,dr.self,jr,tk,J,J⟩ J
 refine rc T 1 (iZ ?_)
 cases H;exact p1 T J [1,1,1,0] ⟨o_,zU,mF,mQ,u5,vO,wL,wm,dr.self,jr,tk,J,J⟩ J
def xZ.f (s:db) (ai:Int):Option db:=if(0<=ai/\ai<(List.length s.aR:Int)) then(if(0<=ai/\ai<(List.length s.t.C:Int)) then(if(¬s.t.W=0) then(if(¬s.t.W=0) then((if(aa (Int.tdiv ai s.t.W))>0 then((kE.f s (aa (ai-s.t.W)) (aa ((rd s.aR ai)+(aa (rd s.t.C ai))))).bind λv7=>some (v7.t.W,v7.t.H,v7.wait,v7.todo,v7.aR)) else(some (s.t.W,s.t.H,s.wait,s.todo,s.aR))).bind λ(x1,x2,x3,x4,x5)=>(if(Int.tmod ai s.t.W)<(aa (x1-1)) then((kE.f (db.mk (aL.mk x1 x2 s.t.C) x3 x4 x5) (aa (ai+1)) (aa ((rd s.aR ai)+(aa (rd s.t.C ai))))).bind λcg=>some (cg.t.W,cg.t.H,cg.wait,cg.todo,cg.aR)) else(some (x1,x2,x3,x4,x5))).bind λ(x8,x9,aN,bf,bo)=>if(aa (Int.tdiv ai s.t.W))<(aa (x9-1)) then((kE.f (db.mk (aL.mk x8 x9 s.t.C) aN bf bo) (aa (ai+x8)) (aa ((rd s.aR ai)+(aa (rd s.t.C ai))))).bind λcS=>if(Int.tmod ai s.t.W)>0 then((kE.f (db.mk (aL.mk cS.t.W cS.t.H s.t.C) cS.wait cS.todo cS.aR) (aa (ai-1)) (aa ((rd s.aR ai)+(aa (rd s.t.C ai))))).bind λbR=>some (db.mk (aL.mk bR.t.W bR.t.H s.t.C) bR.wait bR.todo bR.aR)) else(some (db.mk (aL.mk cS.t.W cS.t.H s.t.C) cS.wait cS.todo cS.aR))) else(if(Int.tmod ai s.t.W)>0 then((kE.f (db.mk (aL.mk x8 x9 s.t.C) aN bf bo) (aa (ai-1)) (aa ((rd s.aR ai)+(aa (rd s.t.C ai))))).bind λv17=>some (db.mk (aL.mk v17.t.W v17.t.H s.t.C) v17.wait v17.todo v17.aR)) else(some (db.mk (aL.mk x8 x9 s.t.C) aN bf bo)))) else none) else none) else none) else none
def xZ.R (bg:Nat) (y0:Value) (BT:List a_) (BR:Option Addr) (BS:Nat) (r:db) (u:Value) (G:List Hp):Prop:= ∃(b0:Nat) (H0:Hp) (a1:Option Addr) (n1:Nat) (a2:Option Addr) (n2:Nat) (H2:Hp),kc r.wait b0 H0/\dr cE BT BR BS r.todo a1 n1/\List.length r.todo<=n1/\aj (Fl.int .i64) 3 r.aR a2 n2 H2/\u=(.tuple #[])/\G=[(cl bg 369 [(ii r.t.W),(ii r.t.H),y0,(pp b0),(ll a1 r.todo n1),(ll a2 r.aR n2)]),H0,H2]
theorem xZ.c (H:xZ.f s ai=some r) (pX:aT (Fl.int .u8) s.t.C kj F) (tU:List.length s.t.C<=kA) (wm:kc s.wait o_ zU) (pj:aT cE s.todo mF F) (jr:List.length s.todo<=mQ) (tk:aj (Fl.int .i64) 3 s.aR u5 vO wL):
 QR 276 [(pp bg),(ii ai)] [(cl bg 369 [(ii s.t.W),(ii s.t.H),(ll kj s.t.C kA),(pp o_),(ll mF s.todo mQ),(ll u5 s.aR vO)]),zU,wL] [] F (xZ.R bg (ll kj s.t.C kA) s.todo mF mQ r):=by
 unfold xZ.f at H;refine aD Tryz.func276 J J (λW=>rc T 1 (du mix ay (au T J (au T J (au T J (aO J J J (aw T J J J J (aH (j:=0) J J)) (au T J ?_)))))));obtain⟨c1,H⟩:=az H;obtain⟨q4,o4,e4⟩:=tk.r.addr c1.1 c1.2;refine aO J J J (cO T J J J J J e4 c1.1 c1.2) (aO J J J (aw T J J J J (iU (k:=(Fl.int .i64)) (oO tk 2) e4 c1 0 J)) ?_)
 iterate 4 refine au T J ?_
 refine aO J J J (aw T J J J J (aH (j:=0) J J)) (au T J ?_);obtain⟨c2,H⟩:=az H;obtain⟨q5,o5,e5⟩:=pX.addr c2.1 c2.2;refine aO J J J (cO T J J J J J e5 c2.1 c2.2) (aO J J J (aw T J J J J (iU (k:=(Fl.int .u8)) (rO pX 3) e5 c2 0 J)) (au T J (au T J (au T J (cZ (rx T 2 (du mix ay ?_)))))))
 iterate 5 refine au T J ?_
 refine aO J J J (aw T J J J J (aH (j:=0) J J)) ?_;obtain⟨c3,H⟩:=az H;refine aO J J J (vp J J J c3) ?_
 iterate 5 refine au T J ?_
 refine aO J J J (aw T J J J J (aH (j:=0) J J)) ?_;obtain⟨c4,H⟩:=az H;refine aO J J J (vn J J J c4) (au T J (au T J (cZ (rx T 1 (mq H [0,1,4,5,6] [3] (λz6 (⟨x1,x2,x3,x4,x5,b6,H6,a7,n7,a8,n8,H8⟩:Int×Int×eF×List a_×List Int×Nat×Hp×Option Addr×Nat×Option Addr×Nat×Hp)=>((x1,x2,x3,x4,x5)=z6/\kc x3 b6 H6/\dr cE s.todo mF mQ x4 a7 n7/\List.length x4<=n7/\aj (Fl.int .i64) 3 x5 a8 n8 H8,[],[(cl bg 369 [(ii x1),(ii x2),(ll kj s.t.C kA),(pp b6),(ll a7 x4 n7),(ll a8 x5 n8)]),H6,H8])) J J (λz6 Z5 _=>?_) ?_)))))
 ·refine rc T 6 (cd J Z5 (λZ5=>?_) (λZ5=>?_))
  ·refine rc T 7 (lf T 0 J (ro T 2 (kr (kE.R bg (ll kj s.t.C kA) s.todo mF mQ) [] [0,0,0] J F6 Z5 (kE.c · (rO pX 0) tU wm (rO pj 0) jr tk) (λv7 Z5=>?_))));rintro _ _ ⟨b9,H9,cw,n10,dt,n11,cA,s9,BN,FA,dh,rfl,rfl⟩;refine fz J (ro T 2 (am (_,_,_,_,_,_,_,_,_,_,_,_) [0,0,0,0] ⟨oi Z5,s9,BN,FA,dh⟩ J J))
  refine rc T 2 (am (_,_,_,_,_,_,_,_,_,_,_,_) [3,0,0,0] ⟨oi Z5,wm,dr.self,jr,tk⟩ J J)
 rintro _ ⟨x1,x2,x3,x4,x5,b6,H6,a7,n7,a8,n8,H8⟩ ⟨rfl,s6,L8,Q4,s8⟩ H;refine mq H [0,1,4,5,6] [0] (λtI (⟨x8,x9,aN,bf,bo,kN,dz,dF,n13,iE,n14,fI⟩:Int×Int×eF×List a_×List Int×Nat×Hp×Option Addr×Nat×Option Addr×Nat×Hp)=>((x8,x9,aN,bf,bo)=tI/\kc aN kN dz/\dr cE s.todo mF mQ bf dF n13/\List.length bf<=n13/\aj (Fl.int .i64) 3 bo iE n14 fI,[],[(cl bg 369 [(ii x8),(ii x9),(ll kj s.t.C kA),(pp kN),(ll dF bf n13),(ll iE bo n14)]),dz,fI])) J J (λtI Z8 _=>?_) ?_
 ·refine rc T 7 (lf T 1 J (ro T 4 (cd J Z8 (λZ8=>?_) (λZ8=>?_))))
  ·refine rc T 5 (kr (kE.R bg (ll kj s.t.C kA) x4 a7 n7) [] [1,1,1] J F6 Z8 (kE.c (s:=(db.mk (aL.mk x1 x2 s.t.C) x3 x4 x5)) · (rO pX 0) tU s6 (oo L8 (rO pj 0) jr) Q4 s8) (λcg Z8=>?_));rintro _ _ ⟨oh,dE,jV,n16,a17,n17,ez,dN,ZP,aag,fw,rfl,rfl⟩;refine fz J (ro T 2 (am (_,_,_,_,_,_,_,_,_,_,_,_) [0,0,0,0] ⟨oi Z8,dN,(dr.trans L8 jr ZP),aag,fw⟩ J J))
  refine rc T 2 (am (_,_,_,_,_,_,_,_,_,_,_,_) [0,0,0,0] ⟨oi Z8,s6,L8,Q4,s8⟩ J J)
 rintro _ ⟨x8,x9,aN,bf,bo,kN,dz,dF,n13,iE,n14,fI⟩ ⟨rfl,dJ,BO,I2,gh⟩ H;refine rc T 8 (lf T 1 J (ro T 4 (cd J H (λH=>?_) (λH=>?_))))
 ·refine rc T 7 (lf T 1 J (ro T 2 (kr (kE.R bg (ll kj s.t.C kA) bf dF n13) [] [1,1,1] J F6 H (kE.c (s:=(db.mk (aL.mk x8 x9 s.t.C) aN bf bo)) · (rO pX 0) tU dJ (oo BO (rO pj 0) jr) I2 gh) (λcS H=>?_))));rintro _ _ ⟨qv,e_,mj,n19,a20,n20,oa,fk,L4,QZ,l9,rfl,rfl⟩;refine fz J (ro T 8 (cd J H (λH=>?_) (λH=>?_)))
  ·refine rc T 5 (kr (kE.R bg (ll kj s.t.C kA) cS.todo mj n19) [] [1,1,1] J F6 H (kE.c (s:=(db.mk (aL.mk cS.t.W cS.t.H s.t.C) cS.wait cS.todo cS.aR)) · (rO pX 0) tU fk (oo L4 (oo BO (rO pj 0) jr) I2) QZ l9) (λbR H=>?_));rintro _ _ ⟨BP,lr,a22,n22,a23,n23,jD,jO,ZR,aaj,gS,rfl,rfl⟩;refine fz J (ro T 1 (iZ ?_))
   cases H;exact p1 T J [1,1,1,0] ⟨BP,lr,a22,n22,a23,n23,jD,jO,(dr.trans (dr.trans BO jr L4) jr ZR),aaj,gS,J,J⟩ J
  refine rc T 1 (iZ ?_)
  cases H;exact p1 T J [1,1,1,0] ⟨qv,e_,mj,n19,a20,n20,oa,fk,(dr.trans BO jr L4),QZ,l9,J,J⟩ J
 refine rc T 8 (cd J H (λH=>?_) (λH=>?_))
 ·refine rc T 5 (kr (kE.R bg (ll kj s.t.C kA) bf dF n13) [] [1,1,1] J F6 H (kE.c (s:=(db.mk (aL.mk x8 x9 s.t.C) aN bf bo)) · (rO pX 0) tU dJ (oo BO (rO pj 0) jr) I2 gh) (λv17 H=>?_));rintro _ _ ⟨Fw,oc,a25,n25,a26,n26,mg,lj,ZT,aak,lK,rfl,rfl⟩;refine fz J (ro T 1 (iZ ?_))
  cases H;exact p1 T J [1,1,1,0] ⟨Fw,oc,a25,n25,a26,n26,mg,lj,(dr.trans BO jr ZT),aak,lK,J,J⟩ J
 refine rc T 1 (iZ ?_)
 cases H;exact p1 T J [1,1,1,0] ⟨kN,dz,dF,n13,iE,n14,fI,dJ,BO,I2,gh,J,J⟩ J
def nS.l0:Nat->db->Int->Int->eF->List a_->List Int->Option db
 |0,_,_,_,_,_,_=>none
 |GD+1,s,x7,x8,x9,aN,bf=>(wa.f x9).bind λlp=>if lp>0 then((oE.f x9).bind λcg=>if(0<=cg.2.1/\cg.2.1<(List.length bf:Int)) then(if((rd bf cg.2.1)==1099511627776)=true then((xZ.f (db.mk (aL.mk x7 x8 s.t.C) cg.2.2.2 aN (List.set bf (Int.toNat cg.2.1) cg.1)) cg.2.1).bind λcS=>(jR.f (db.mk (aL.mk cS.t.W cS.t.H s.t.C) cS.wait cS.todo cS.aR)).bind λbR=>nS.l0 GD s bR.t.W bR.t.H bR.wait bR.todo bR.aR) else((jR.f (db.mk (aL.mk x7 x8 s.t.C) cg.2.2.2 aN bf)).bind λv17=>nS.l0 GD s v17.t.W v17.t.H v17.wait v17.todo v17.aR)) else none) else(some (db.mk (aL.mk x7 x8 s.t.C) x9 aN bf))
def nS.f (s:db):Option db:=(jR.f s).bind λv1=>nS.l0 fuel s v1.t.W v1.t.H v1.wait v1.todo v1.aR
def nS.R (bg:Nat) (y0:Value) (BT:List a_) (BR:Option Addr) (BS:Nat) (r:db) (u:Value) (G:List Hp):Prop:= ∃(b0:Nat) (H0:Hp) (a1:Option Addr) (n1:Nat) (a2:Option Addr) (n2:Nat) (H2:Hp),kc r.wait b0 H0/\dr cE BT BR BS r.todo a1 n1/\List.length r.todo<=n1/\aj (Fl.int .i64) 3 r.aR a2 n2 H2/\u=(.tuple #[])/\G=[(cl bg 369 [(ii r.t.W),(ii r.t.H),y0,(pp b0),(ll a1 r.todo n1),(ll a2 r.aR n2)]),H0,H2]
theorem nS.c (H:nS.f s=some r) (pX:aT (Fl.int .u8) s.t.C kj F) (tU:List.length s.t.C<=kA) (wm:kc s.wait o_ zU) (pj:aT cE s.todo mF F) (jr:List.length s.todo<=mQ) (tk:aj (Fl.int .i64) 3 s.aR u5 vO wL):
 QR 249 [(pp bg)] [(cl bg 369 [(ii s.t.W),(ii s.t.H),(ll kj s.t.C kA),(pp o_),(ll mF s.todo mQ),(ll u5 s.aR vO)]),zU,wL] [] F (nS.R bg (ll kj s.t.C kA) s.todo mF mQ r):=by
 unfold nS.f at H;refine aD Tryz.func249 J J (λW=>rc T 3 (kr (jR.R bg (ll kj s.t.C kA) s.todo mF mQ) [] [0,0,0] J Nr H (jR.c · (rO pX 0) tU wm (rO pj 0) jr tk) (λv1 H=>?_)));rintro _ _ ⟨b4,H4,a5,n5,a6,n6,H6,s4,Fy,Q3,s6,rfl,rfl⟩;refine fz J (ro T 3 (lq [0] [0] (λ(⟨GD,x7,x8,x9,aN,bf,fJ,bX,dt,n11,a12,n12,dz⟩:Nat×Int×Int×eF×List a_×List Int×Nat×Hp×Option Addr×Nat×Option Addr×Nat×Hp)=>(nS.l0 GD s x7 x8 x9 aN bf=some r/\kc x9 fJ bX/\dr cE s.todo mF mQ aN dt n11/\List.length aN<=n11/\aj (Fl.int .i64) 3 bf a12 n12 dz,[],[(cl bg 369 [(ii x7),(ii x8),(ll kj s.t.C kA),(pp fJ),(ll dt aN n11),(ll a12 bf n12)]),bX,dz])) J J (fuel,v1.t.W,v1.t.H,v1.wait,v1.todo,v1.aR,b4,H4,a5,n5,a6,n6,H6) [0,0,0,0] ⟨H,s4,Fy,Q3,s6⟩ J J ?_));rintro GD ⟨x7,x8,x9,aN,bf,fJ,bX,dt,n11,a12,n12,dz⟩ ⟨Z2,bT,yC,Ab,dJ⟩;rw[nS.l0] at Z2;refine rc T 6 (lf T 1 J (k [2] J Ns Z2 (wa.c · bT) (λlp Z2=>ro T 3 (cd J Z2 (λZ2=>?_) (λZ2=>?_)))))
 ·refine rc T 9 (lf T 1 J (kr (oE.R fJ) [] [2] J adE Z2 (oE.c · bT) (λcg Z2=>?_)));rintro _ _ ⟨eI,dn,rfl,rfl⟩;refine fz J (ro T 14 (lf T 1 J (ro T 1 ?_)));obtain⟨c6,Z2⟩:=az Z2;obtain⟨q14,o14,BW⟩:=dJ.r.addr c6.1 c6.2;refine ix T J BW c6 (le T 0 (oO dJ 2) BW c6 J J (ro T 3 (cb J Z2 (λZ2=>?_) (λZ2=>?_))))
  ·refine rc T 5 (lf T 1 J (ro T 2 (ix T J BW c6 (aX (jX (k:=(Fl.int .i64)) T 2 0 cg.1 J J J J J J dJ BW c6 J J J (λdE dN=>kg [0,3] [0,1,1] [0,1,1,0] [] [(cl bg 369 [(ii x7),(ii x8),(ll kj s.t.C kA),(pp fJ),(ll dt aN n11),(ll a12 (List.set bf (Int.toNat cg.2.1) cg.1) n12)])] J J trivial (by first |rfl |(simp only[ll,List.length_set];rfl)) (ro T 5 ?_)))))))
   refine kr (xZ.R bg (ll kj s.t.C kA) aN dt n11) [] [3,2,1] J adF Z2 (xZ.c (s:=(db.mk (aL.mk x7 x8 s.t.C) cg.2.2.2 aN (List.set bf (Int.toNat cg.2.1) cg.1))) · (rO pX 0) tU dn (oo yC (rO pj 0) jr) Ab dN) (λcS Z2=>?_);rintro _ _ ⟨qu,fN,a17,n17,iQ,n18,e_,fj,QO,aah,fk,rfl,rfl⟩;refine fz J (ro T 1 (ks [0] J (rx T 4 (kr (jR.R bg (ll kj s.t.C kA) cS.todo a17 n17) [] [1,1,1] J Nr Z2 (jR.c (s:=(db.mk (aL.mk cS.t.W cS.t.H s.t.C) cS.wait cS.todo cS.aR)) · (rO pX 0) tU fj (oo QO (oo yC (rO pj 0) jr) Ab) aah fk) (λbR Z2=>?_)))));rintro _ _ ⟨QP,kJ,a20,n20,a21,n21,lr,gR,ZQ,aai,jO,rfl,rfl⟩;refine fz J (ro T 2 (ar (_,_,_,_,_,_,_,_,_,_,_,_) [0,0,0,0] ⟨Z2,gR,(dr.trans (dr.trans yC jr QO) jr ZQ),aai,jO⟩ J J))
  refine rc T 5 (kr (jR.R bg (ll kj s.t.C kA) aN dt n11) [] [1,2,1] J Nr Z2 (jR.c (s:=(db.mk (aL.mk x7 x8 s.t.C) cg.2.2.2 aN bf)) · (rO pX 0) tU dn (oo yC (rO pj 0) jr) Ab dJ) (λv17 Z2=>?_));rintro _ _ ⟨kO,mC,a23,n23,a24,n24,oc,iM,QQ,Q2,lj,rfl,rfl⟩;refine fz J (ro T 2 (ar (_,_,_,_,_,_,_,_,_,_,_,_) [0,0,0,0] ⟨Z2,iM,(dr.trans yC jr QQ),Q2,lj⟩ J J))
 refine rc T 4 (iZ ?_)
 cases Z2;exact p1 T J [1,1,1,0] ⟨fJ,bX,dt,n11,a12,n12,dz,bT,yC,Ab,dJ,J,J⟩ J
def tx.f (t:aL) (l:(List a_)):Option ((List Int)×Int):=(zB.f t l).bind λv1=>if(!v1)=true then(some ([],1)) else(((v_.f 0).bind λv9=>dm v9 (none) (λXG=>(mV.f l).bind λv10=>(j_.f [1099511627776] (List.length t.C:Int)).bind λv11=>some (t.W,t.H,t.C,XG,v10,v11))).bind λ(x2,x3,x4,x5,x6,x7)=>(nS.f (db.mk (aL.mk x2 x3 x4) x5 x6 x7)).bind λv17=>some (v17.aR,0))
def tx.R (r:((List Int)×Int)) (u:Value) (G:List Hp):Prop:= ∃(a0:Option Addr) (n0:Nat) (H0:Hp),aj (Fl.int .i64) 3 r.1 a0 n0 H0/\u=(.tuple #[(ll a0 r.1 n0),(ii r.2)])/\G=[H0]
theorem tx.c (H:tx.f t l=some r) (dR:aT (Fl.int .u8) t.C il F) (fi:List.length t.C<=iv) (df:aT cE l ik F) (gu:List.length l<=gZ):
 QR 228 [(.agg #[(ii t.W),(ii t.H),(ll il t.C iv)]),(ll ik l gZ)] [] [] F (tx.R r):=by
 unfold tx.f at H;refine aD Tryz.func228 J J (λW=>rc T 2 (nc T J (λb1=>ro T 7 (lm T 1 J (ro T 1 (k [] J Ta H (zB.c · (rO dR 0) fi (rO df 0) gu) (λv1 H=>ro T 3 (cb J H (λH=>?_) (λH=>?_)))))))))
 ·refine rc T 8 ?_
  cases H;refine bw (p1 T J [2,0] ⟨none,0,[],aj.nil,J,J⟩ J)
 refine rc T 2 (mq H [] [0] (λz8 (⟨x2,x3,x4,x5,x6,x7,b3,a4,n4,b5,H5,a6,n6,H6,a7,n7,H7⟩:Int×Int×List Int×eF×List a_×List Int×Nat×Option Addr×Nat×Nat×Hp×Option Addr×Nat×Hp×Option Addr×Nat×Hp)=>((x2,x3,x4,x5,x6,x7)=z8/\dr (Fl.int .u8) t.C il iv x4 a4 n4/\List.length x4<=n4/\kc x5 b5 H5/\aj cE 285 x6 a6 n6 H6/\aj (Fl.int .i64) 3 x7 a7 n7 H7,[(6,(pp b3))],[(cl b3 369 [(ii x2),(ii x3),(ll a4 x4 n4),(pp b5),(ll a6 x6 n6),(ll a7 x7 n7)]),H5,H6,H7])) J J (λz8 Z3 _=>?_) ?_)
 ·refine ks [1,2] J (fz J (rz [] mix (bP bO) (λhg pf=>av 0 sz hg pf J (gA T 1 J J J J J J J) (ha T 9 [2,5] sz hg pf J (av 6 sz hg pf J (aw T J J J J (aH (j:=1) J J)) (ha T 7 [7] sz hg pf J (gB 1 4 ?_ ?_)))))))
  ·refine kR v_.R [] [] J Tt Z3 (v_.c ·) (λv9 Z3=>?_);rintro _ _ ⟨_,_,O5,rfl,rfl⟩;rcases v9 with _ |XG
   ·replace Z3:=eV J Z3
    cases Z3
   replace Z3:=eW J Z3;obtain⟨b8,H8,s8,rfl,rfl⟩:=O5;refine an (so [0,0]) (gB 3 4 ?_ ?_)
   ·refine kR mV.R [] [] J F4 Z3 (mV.c · (rO df 0) gu) (λv10 Z3=>?_);rintro _ _ ⟨a9,n9,H9,s9,rfl,rfl⟩;refine fz J (an (so [0,0]) (ao 4 (cU (k:=(Fl.int .i64)) T [1099511627776] J J J J J J J J J (λcw bX bT=>an (so [0,0]) (ao 8 (kR j_.R [] [] J Np Z3 (j_.c · (oO bT 4) bT.bY) (λv11 Z3=>?_)))))));rintro _ _ ⟨dt,n11,cA,dh,rfl,rfl⟩;refine fz J (an (so [0,0]) (ha T 2 [9] (so [0,0]) hg pf J (ao 10 (nw T J (λkN=>an (so [0,0]) (ha T 0 [11] (so [0,0]) hg pf J (ae (rx T 1 (am (_,_,_,_,_,_,_,_,_,_,_,_,_,_,_,_,_) [0,5,1,1,2] ⟨oi Z3,dr.self,fi,s8,s9,dh⟩ J J)))))))))
   refine cU (k:=(Fl.int .i64)) T [1099511627776] J J J J J J J J J (λdF eI dn=>an (so [0,0]) (ao 3 (kR mV.R [] [] J F4 Z3 (mV.c · (rO df 0) gu) (λv12 Z3=>?_))));rintro _ _ ⟨iE,n14,fI,gh,rfl,rfl⟩;refine fz J (an (so [0,0]) (ao 8 (kR j_.R [] [] J Np Z3 (j_.c · (oO dn 3) dn.bY) (λlp Z3=>?_))));rintro _ _ ⟨jE,n15,dE,dN,rfl,rfl⟩;refine fz J (an (so [0,0]) (ha T 2 [9] (so [0,0]) hg pf J (ao 10 (nw T J (λqu=>an (so [0,0]) (ha T 0 [11] (so [0,0]) hg pf J (ae (rx T 1 (am (_,_,_,_,_,_,_,_,_,_,_,_,_,_,_,_,_) [0,5,1,2,2] ⟨oi Z3,dr.self,fi,s8,gh,dN⟩ J J)))))))))
  refine cU (k:=(Fl.int .i64)) T [1099511627776] J J J J J J J J J (λa17 ez fw=>an (so [0,0]) (ao 1 (kR v_.R [] [] J Tt Z3 (v_.c ·) (λcg Z3=>?_))));rintro _ _ ⟨_,_,XR,rfl,rfl⟩;rcases cg with _ |aj5
  ·replace Z3:=eV J Z3
   cases Z3
  replace Z3:=eW J Z3;obtain⟨qv,e_,fk,rfl,rfl⟩:=XR;refine an (so [0,0]) (ao 3 (kR mV.R [] [] J F4 Z3 (mV.c · (rO df 0) gu) (λcS Z3=>?_)));rintro _ _ ⟨mj,n19,kJ,gR,rfl,rfl⟩;refine fz J (an (so [0,0]) (ao 8 (kR j_.R [] [] J Np Z3 (j_.c · (oO fw 2) fw.bY) (λbR Z3=>?_))));rintro _ _ ⟨a20,n20,oa,l9,rfl,rfl⟩;refine fz J (an (so [0,0]) (ha T 2 [9] (so [0,0]) hg pf J (ao 10 (nw T J (λBP=>an (so [0,0]) (ha T 0 [11] (so [0,0]) hg pf J (ae (rx T 1 (am (_,_,_,_,_,_,_,_,_,_,_,_,_,_,_,_,_) [0,5,2,2,2] ⟨oi Z3,dr.self,fi,fk,gR,l9⟩ J J)))))))))
 rintro _ ⟨x2,x3,x4,x5,x6,x7,b3,a4,n4,b5,H5,a6,n6,H6,a7,n7,H7⟩ ⟨rfl,ZV,c4_,s5,s6,s7⟩ H;refine rc T 3 (kr (nS.R b3 (ll a4 x4 n4) x6 a6 n6) [] [1,1,2] J adr H (nS.c (s:=(db.mk (aL.mk x2 x3 x4) x5 x6 x7)) · (oo ZV (rO dR 0) fi) c4_ s5 (oO s6 1) s6.bY s7) (λv17 H=>?_));rintro _ _ ⟨kO,mC,a23,n23,a24,n24,oc,iM,QQ,Q2,lj,rfl,rfl⟩;refine fz J (ro T 7 (lf T 2 J (ro T 5 ?_)))
 cases H;exact p1 T J [4,0] ⟨a24,n24,oc,lj,J,J⟩ J
end
noncomputable section
def qh.l0:Nat->aL->(List Int)->Int->Option Bool
 |0,_,_,_=>none
 |k3+1,t,l,x2=>if x2<(List.length l:Int) then(if(0<=x2/\x2<(List.length l:Int)) then((Bi.f t (rd l x2)).bind λv4=>(if((v4==0)||(v4==255))=true then(some true) else(if x2>0 then(if(0<=(aa (x2-1))/\(aa (x2-1))<(List.length l:Int)) then(some (decide ((rd l x2)<=(rd l (aa (x2-1)))))) else none) else(some false))).bind λx5=>if x5=true then(some false) else(qh.l0 k3 t l (aa (x2+1)))) else none) else((tz.f t).bind λv7=>some v7)
def qh.f (t:aL) (l:(List Int)):Option Bool:=qh.l0 fuel t l 0
theorem qh.c (H:qh.f t l=some r) (dR:aT (Fl.int .u8) t.C il F) (fi:List.length t.C<=iv) (df:aT (Fl.int .i64) l ik F) (gu:List.length l<=gZ):
 QU 266 [(.agg #[(ii t.W),(ii t.H),(ll il t.C iv)]),(ll ik l gZ)] [] F (bb r):=by
 unfold qh.f at H;refine aD Tryz.func266 J J (λW=>rc T 2 (nc T J (λb1=>ro T 12 (lq [1,2,8,9] [0,0] (λ(⟨k3,x2⟩:Nat×Int)=>(qh.l0 k3 t l x2=some r,[(10,(ii x2))],[])) J J (fuel,0) [0,0] H J J ?_))));rintro k3 x2 Z1;replace Z1:qh.l0 (k3+1) t l x2=some r:=Z1;rw[qh.l0] at Z1;refine rc T 6 (cd J Z1 (λZ1=>?_) (λZ1=>?_))
 ·refine rc T 7 ?_;obtain⟨c3,Z1⟩:=az Z1;obtain⟨q2,o2,e2⟩:=df.addr c3.1 c3.2;refine ix T J e2 c3 (le T 0 (rO df 0) e2 c3 J J (ro T 6 (lm T 1 J (ro T 1 (k [] J adJ Z1 (Bi.c · (rO dR 0) fi) (λv4 Z1=>ro T 3 (mq Z1 [1,2,8,9,10] [0,0] (λz6 (x5:Bool)=>(x5=z6,[(36,(bb x5))],[])) J J (λz6 Z5 _=>?_) ?_)))))))
  ·refine rc T 4 (go T [3,4,5] 20 [1,2,5,6,8,9,10] 23 J J J J J J J (ro T 1 (ab 24 J Z5 (λZ5=>?_) (λZ5=>?_))))
   ·refine ro T 14 (am _ [0,0] (oi Z5) J J)
   refine ro T 3 (ad 27 J Z5 (λZ5=>?_) (λZ5=>?_))
   ·refine ro T 4 ?_;obtain⟨c8,Z5⟩:=az Z5;refine ix T J e2 c8 (le T 0 (rO df 0) e2 c8 J J (ro T 5 (am _ [0,0] (oi Z5) J J)))
   refine ro T 11 (am _ [0,0] (oi Z5) J J)
  rintro _ x5 rfl Z1;refine cb J Z1 (λZ1=>?_) (λZ1=>?_)
  ·refine rc T 11 ?_
   cases Z1;exact p0 T J [0] J
  refine rc T 8 (ar _ [0,0] Z1 J J)
 refine rc T 7 (lm T 1 J (k [] J JH Z1 (tz.c · (rO dR 0) fi) (λv7 Z1=>ro T 4 ?_)))
 cases Z1;exact p0 T J [0] J
def x_.f (t:aL) (ai:Int):Option ((List Int)×Int):=(tx.f t [(a_.mk ai 4 0)]).bind λv1=>some (v1.1,v1.2)
def x_.R (r:((List Int)×Int)) (u:Value) (G:List Hp):Prop:= ∃(a0:Option Addr) (n0:Nat) (H0:Hp),aj (Fl.int .i64) 3 r.1 a0 n0 H0/\u=(.tuple #[(ll a0 r.1 n0),(ii r.2)])/\G=[H0]
theorem x_.c (H:x_.f t ai=some r) (dR:aT (Fl.int .u8) t.C il F) (fi:List.length t.C<=iv):
 QR 267 [(.agg #[(ii t.W),(ii t.H),(ll il t.C iv)]),(ii ai)] [] [] F (x_.R r):=by
 unfold x_.f at H;refine aD Tryz.func267 J J (λW=>rc T 2 (nc T J (λb1=>ro T 6 (lm T 1 J (ro T 2 (aX (cU (k:=cE) T [(a_.mk ai 4 0)] J J J J J J J J J (λa2 H2 s2=>kr tx.R [] [] J Tn H (tx.c (l:=[(a_.mk ai 4 0)]) · (rO dR 0) fi (oO s2 2) s2.bY) (λv1 H=>?_)))))))));rintro _ _ ⟨a3,n3,H3,s3,rfl,rfl⟩;refine fz J (ro T 7 ?_)
 cases H;exact p1 T J [3,0] ⟨a3,n3,H3,s3,J,J⟩ J
def jB.l1:Nat->(List Int)->Int->((List Int)×Int)->List Int->Int->Option (List Int)
 |0,_,_,_,_,_=>none
 |xo+1,l,x5,v9,bo,aU=>if aU<(List.length l:Int) then(if(0<=aU/\aU<(List.length l:Int)) then(if(0<=(rd l aU)/\(rd l aU)<(List.length v9.1:Int)) then(if(0<=(aa ((aa (aU*(List.length l:Int)))+x5))/\(aa ((aa (aU*(List.length l:Int)))+x5))<(List.length bo:Int)) then(jB.l1 xo l x5 v9 (List.set bo (Int.toNat (aa ((aa (aU*(List.length l:Int)))+x5))) (rd v9.1 (rd l aU))) (aa (aU+1))) else none) else none) else none) else(some bo)
def jB.l0:Nat->aL->(List Int)->List Int->Int->Option ((List Int)×Int)
 |0,_,_,_,_=>none
 |k6+1,t,l,x4,x5=>if x5<(List.length l:Int) then((if(0<=x5/\x5<(List.length l:Int)) then((x_.f t (rd l x5)).bind λv9=>jB.l1 fuel l x5 v9 x4 0) else none).bind λx7=>jB.l0 k6 t l x7 (aa (x5+1))) else(some (x4,0))
def jB.f (t:aL) (l:(List Int)):Option ((List Int)×Int):=(qh.f t l).bind λv1=>if(!v1)=true then(some ([],1)) else(if(0<=(aa ((List.length l:Int)*(List.length l:Int)))/\(aa ((List.length l:Int)*(List.length l:Int)))<=1099511627776) then(jB.l0 fuel t l (List.replicate (Int.toNat (aa ((List.length l:Int)*(List.length l:Int)))) (0:Int)) 0) else none)
def jB.R (r:((List Int)×Int)) (u:Value) (G:List Hp):Prop:= ∃(a0:Option Addr) (n0:Nat) (H0:Hp),aj (Fl.int .i64) 3 r.1 a0 n0 H0/\u=(.tuple #[(ll a0 r.1 n0),(ii r.2)])/\G=[H0]
theorem jB.c (H:jB.f t l=some r) (dR:aT (Fl.int .u8) t.C il F) (fi:List.length t.C<=iv) (df:aT (Fl.int .i64) l ik F) (gu:List.length l<=gZ):
 QR 238 [(.agg #[(ii t.W),(ii t.H),(ll il t.C iv)]),(ll ik l gZ)] [] [] F (jB.R r):=by
 unfold jB.f at H;refine aD Tryz.func238 J J (λW=>rc T 2 (nc T J (λb1=>ro T 7 (lm T 1 J (ro T 1 (k [] J ady H (qh.c · (rO dR 0) fi (rO df 0) gu) (λv1 H=>ro T 3 (cb J H (λH=>?_) (λH=>?_)))))))))
 ·refine rc T 8 ?_
  cases H;refine bw (p1 T J [2,0] ⟨none,0,[],aj.nil,J,J⟩ J)
 refine rc T 14 ?_;obtain⟨c3,H⟩:=az H;refine aX (u6 (k:=(Fl.int .i64)) T (0:Int) J J J J J J J J c3 J (λa3 n3 H3 s3=>ro T 12 (lq [1,2,6,24,25] [0,0] (λ(⟨k6,x4,x5,a5,n5,H5⟩:Nat×List Int×Int×Option Addr×Nat×Hp)=>(jB.l0 k6 t l x4 x5=some r/\aj (Fl.int .i64) 3 x4 a5 n5 H5,[(7,(ll a5 x4 n5)),(26,(ii x5))],[H5])) J J (fuel,(List.replicate (Int.toNat (aa ((List.length l:Int)*(List.length l:Int)))) (0:Int)),0,a3,n3,H3) [0,0,0] ⟨H,s3⟩ J J ?_)));rintro k6 ⟨x4,x5,a5,n5,H5⟩ ⟨Z4,s5⟩;rw[jB.l0] at Z4;refine rc T 6 (cd J Z4 (λZ4=>?_) (λZ4=>?_))
 ·refine rc T 2 (mq Z4 [1,2,6,24,25,26] [0,0] (λz8 (⟨x7,a6,n6,H6⟩:List Int×Option Addr×Nat×Hp)=>(x7=z8/\aj (Fl.int .i64) 3 x7 a6 n6 H6,[(7,(ll a6 x7 n6))],[H6])) J J (λz8 Z6 _=>?_) ?_)
  ·refine rc T 4 ?_;obtain⟨c7,Z6⟩:=az Z6;obtain⟨q7,o7,e7⟩:=df.addr c7.1 c7.2;refine ix T J e7 c7 (le T 0 (rO df 0) e7 c7 J J (ro T 6 (lm T 1 J (ro T 1 (kr x_.R [] [] J adz Z6 (x_.c · (rO dR 0) fi) (λv9 Z6=>?_))))));rintro _ _ ⟨a8,n8,H8,s8,rfl,rfl⟩;refine fz J (ro T 15 (lq [1,2,6,8,10,24,25,26,37,38] [0,0,1] (λ(⟨xo,bo,aU,cw,n10,bX⟩:Nat×List Int×Int×Option Addr×Nat×Hp)=>(jB.l1 xo l x5 v9 bo aU=some z8/\aj (Fl.int .i64) 3 bo cw n10 bX,[(7,(ll cw bo n10)),(39,(ii aU))],[bX])) J J (fuel,x4,0,a5,n5,H5) [0,0,1,0] ⟨Z6,s5⟩ J J ?_));rintro xo ⟨bo,aU,cw,n10,bX⟩ ⟨Z9,bT⟩;rw[jB.l1] at Z9;refine rc T 6 (cd J Z9 (λZ9=>?_) (λZ9=>?_))
   ·refine rc T 7 ?_;obtain⟨dG,Z9⟩:=az Z9;obtain⟨VW,Vt,tV⟩:=df.addr dG.1 dG.2;refine ix T J tV dG (le T 0 (rO df 0) tV dG J J (ro T 13 ?_));obtain⟨gU,Z9⟩:=az Z9;obtain⟨vV,OL,sD⟩:=s8.r.addr gU.1 gU.2;refine ix T J sD gU (le T 0 (oO s8 2) sD gU J J ?_);obtain⟨i_,Z9⟩:=az Z9;obtain⟨VX,Vu,w6⟩:=bT.r.addr i_.1 i_.2;refine ix T J w6 i_ (aX (jX (k:=(Fl.int .i64)) T 3 0 (rd v9.1 (rd l aU)) J J J J J J bT w6 i_ J J J (λfI gh=>kf [1,2,6,8,10,24,25,26,37,38,39] [0,0,0,0] [(7,(ll cw (List.set bo (Int.toNat (aa ((aa (aU*(List.length l:Int)))+x5))) (rd v9.1 (rd l aU))) n10))] J J ⟨(by first |rfl |(simp only[ll,List.length_set];rfl)),trivial⟩ (ro T 8 ?_))))
    exact ar (_,_,_,_,_) [0,0,0,0] ⟨Z9,gh⟩ J J
   refine rc T 6 (am (_,_,_,_) [0,0,1] ⟨oi Z9,bT⟩ J J)
  rintro _ ⟨x7,a6,n6,H6⟩ ⟨rfl,s6⟩ Z4;refine rc T 5 (ar (_,_,_,_,_) [0,0,0] ⟨Z4,s6⟩ J J)
 refine rc T 13 ?_
 cases Z4;exact p1 T J [2,0] ⟨a5,n5,H5,s5,J,J⟩ J
end
noncomputable section
def mc.f (s:fP):Option (List Int):=some [s.bn,s.bB,s.bz,s.bx,s.bE,s.bC]
theorem mc.c (H:mc.f s=some r):
 QU 62 [(.agg #[(uu s.bn),(uu s.bB),(uu s.bz),(uu s.bx),(uu s.bE),(uu s.bC)])] [] F (.agg #[(uu (rd r 0)),(uu (rd r 1)),(uu (rd r 2)),(uu (rd r 3)),(uu (rd r 4)),(uu (rd r 5))]):=by
 unfold mc.f at H;refine aD Tryz.func62 J J (λW=>rc T 2 (nc T J (λb1=>nc T J (λb2=>ro T 5 (lf T 1 J (ro T 1 (lf T 1 J (ro T 1 (lf T 1 J (ro T 1 (lf T 1 J (ro T 1 (lf T 1 J (ro T 1 (lf T 1 J (br J (Jm T J J J J J J) (sg T 2 J (ro T 3 ?_))))))))))))))))))
 cases H;exact pb T J (.cK (j:=2) [(uu s.bn),(uu s.bB),(uu s.bz),(uu s.bx),(uu s.bE),(uu s.bC)] J J J J J J J .nil) [0] () J J
def rU.f (a:Int) (b:Int):Option Int:=if a>(dU (18446744073709551615-b)) then(some 18446744073709551615) else(some (dU (a+b)))
theorem rU.c (H:rU.f a b=some r):
 QU 106 [(uu a),(uu b)] [] F (uu r):=by
 unfold rU.f at H;refine aD Tryz.func106 J J (λW=>rc T 14 (cd J H (λH=>?_) (λH=>?_)))
 ·refine rc T 7 ?_
  cases H;exact p0 T J [0] J
 refine rc T 11 ?_
 cases H;exact p0 T J [0] J
def mB.l0:Nat->Int->Int->Int->Int->Int->Int->Int->Int->Int->Int->Int->Int->Int->Option fP
 |0,_,_,_,_,_,_,_,_,_,_,_,_,_=>none
 |xp+1,x7,x8,x9,aN,bf,bo,fm,gk,dW,iO,eH,iP,hU=>if hU<6 then(if(0<=hU/\hU<6) then(if(0<=hU/\hU<6) then((rU.f (rd [fm,gk,dW,iO,eH,iP] hU) (rd [x7,x8,x9,aN,bf,bo] hU)).bind λqk=>if(0<=hU/\hU<6) then(mB.l0 xp x7 x8 x9 aN bf bo (rd (List.set [fm,gk,dW,iO,eH,iP] (Int.toNat hU) qk) 0) (rd (List.set [fm,gk,dW,iO,eH,iP] (Int.toNat hU) qk) 1) (rd (List.set [fm,gk,dW,iO,eH,iP] (Int.toNat hU) qk) 2) (rd (List.set [fm,gk,dW,iO,eH,iP] (Int.toNat hU) qk) 3) (rd (List.set [fm,gk,dW,iO,eH,iP] (Int.toNat hU) qk) 4) (rd (List.set [fm,gk,dW,iO,eH,iP] (Int.toNat hU) qk) 5) (aa (hU+1))) else none) else none) else none) else(some (fP.mk fm gk dW iO eH iP))
def mB.f (a:fP) (b:fP):Option fP:=((mc.f a).bind λcg=>(mc.f b).bind λcS=>some ((rd cg 0),(rd cg 1),(rd cg 2),(rd cg 3),(rd cg 4),(rd cg 5),(rd cS 0),(rd cS 1),(rd cS 2),(rd cS 3),(rd cS 4),(rd cS 5))).bind λ(x1,x2,x3,x4,x5,x6,x7,x8,x9,aN,bf,bo)=>mB.l0 fuel x7 x8 x9 aN bf bo x1 x2 x3 x4 x5 x6 0
theorem mB.c (H:mB.f a b=some r):
 QU 78 [(.agg #[(uu a.bn),(uu a.bB),(uu a.bz),(uu a.bx),(uu a.bE),(uu a.bC)]),(.agg #[(uu b.bn),(uu b.bB),(uu b.bz),(uu b.bx),(uu b.bE),(uu b.bC)])] [] F (.agg #[(uu r.bn),(uu r.bB),(uu r.bz),(uu r.bx),(uu r.bE),(uu r.bC)]):=by
 unfold mB.f at H;refine aD Tryz.func78 J J (λW=>rc T 2 (nc T J (λb1=>nc T J (λb2=>nc T J (λb3=>ro T 2 (mq H [4] [0,2] (λtI (⟨x1,x2,x3,x4,x5,x6,x7,x8,x9,aN,bf,bo,b4,b5⟩:Int×Int×Int×Int×Int×Int×Int×Int×Int×Int×Int×Int×Nat×Nat)=>((x1,x2,x3,x4,x5,x6,x7,x8,x9,aN,bf,bo)=tI,[(5,(pp b4)),(6,(pp b5))],[(cl b4 123 [(uu x1),(uu x2),(uu x3),(uu x4),(uu x5),(uu x6)]),(cl b5 123 [(uu x7),(uu x8),(uu x9),(uu aN),(uu bf),(uu bo)])])) J J (λtI Z1 _=>?_) ?_))))))
 ·refine ks [2,3,4] J (fz J (rz [] mix (bP bO) (λhg pf=>av 0 sz hg pf J (gA T 1 J J J J J J J) (av 2 sz hg pf J (gA T 2 J J J J J J J) (Qs 1 4 5 ?_ ?_ ?_)))))
  ·refine kh [] J pY Z1 (mc.c ·) (λcg Z1=>an sz (Qs 3 4 5 ?_ ?_ ?_))
   ·refine kh [] J pY Z1 (mc.c ·) (λcS Z1=>an sz (gB 4 5 ?_ ?_))
    ·refine nw T J (λb6=>an (so [0,0,0,0]) (ao 5 (nw T J (λb7=>an (so [0,0,0,0]) (ao 6 (sf T 4 J (an (so [0,0,0,0]) (ao 7 (sf T 5 J (an (so [0,0,0,0]) (ae (rx T 1 (am (_,_,_,_,_,_,_,_,_,_,_,_,_,_) [0,2,2,2] (oi Z1) J J)))))))))))))
    refine nw T J (λb8=>an (so [0,0,0,0]) (ao 4 (nw T J (λb9=>an (so [0,0,0,0]) (ao 6 (sf T 5 J (an (so [0,0,0,0]) (ao 7 (sf T 4 J (an (so [0,0,0,0]) (ae (rx T 1 (am (_,_,_,_,_,_,_,_,_,_,_,_,_,_) [0,2,3,2] (oi Z1) J J)))))))))))))
   ·refine nw T J (λfJ=>an (so [0,0,0,0]) (gB 3 5 ?_ ?_))
    ·refine kh [] J pY Z1 (mc.c ·) (λbR Z1=>an (so [0,0,0,0]) (ao 5 (nw T J (λjF=>an (so [0,0,0,0]) (ao 6 (sf T 4 J (an (so [0,0,0,0]) (ao 7 (sf T 5 J (an (so [0,0,0,0]) (ae (rx T 1 (am (_,_,_,_,_,_,_,_,_,_,_,_,_,_) [0,2,2,2] (oi Z1) J J)))))))))))))
    refine nw T J (λkN=>an (so [0,0,0,0]) (ao 3 (kh [] J pY Z1 (mc.c ·) (λv17 Z1=>an (so [0,0,0,0]) (ao 6 (sf T 4 J (an (so [0,0,0,0]) (ao 7 (sf T 5 J (an (so [0,0,0,0]) (ae (rx T 1 (am (_,_,_,_,_,_,_,_,_,_,_,_,_,_) [0,2,2,2] (oi Z1) J J)))))))))))))
   refine nw T J (λZO=>an (so [0,0,0,0]) (gB 3 4 ?_ ?_))
   ·refine kh [] J pY Z1 (mc.c ·) (λfG Z1=>an (so [0,0,0,0]) (ao 4 (nw T J (λI0=>an (so [0,0,0,0]) (ao 6 (sf T 5 J (an (so [0,0,0,0]) (ao 7 (sf T 4 J (an (so [0,0,0,0]) (ae (rx T 1 (am (_,_,_,_,_,_,_,_,_,_,_,_,_,_) [0,2,3,2] (oi Z1) J J)))))))))))))
   refine nw T J (λoh=>an (so [0,0,0,0]) (ao 3 (kh [] J pY Z1 (mc.c ·) (λnU Z1=>an (so [0,0,0,0]) (ao 6 (sf T 5 J (an (so [0,0,0,0]) (ao 7 (sf T 4 J (an (so [0,0,0,0]) (ae (rx T 1 (am (_,_,_,_,_,_,_,_,_,_,_,_,_,_) [0,2,3,2] (oi Z1) J J)))))))))))))
  ·refine nw T J (λqu=>an (so [0,0,0,0]) (gB 1 5 ?_ ?_))
   ·refine kh [] J pY Z1 (mc.c ·) (λv20 Z1=>an (so [0,0,0,0]) (gB 3 5 ?_ ?_))
    ·refine kh [] J pY Z1 (mc.c ·) (λv21 Z1=>an (so [0,0,0,0]) (ao 5 (nw T J (λz7=>an (so [0,0,0,0]) (ao 6 (sf T 4 J (an (so [0,0,0,0]) (ao 7 (sf T 5 J (an (so [0,0,0,0]) (ae (rx T 1 (am (_,_,_,_,_,_,_,_,_,_,_,_,_,_) [0,2,2,2] (oi Z1) J J)))))))))))))
    refine nw T J (λqv=>an (so [0,0,0,0]) (ao 3 (kh [] J pY Z1 (mc.c ·) (λv22 Z1=>an (so [0,0,0,0]) (ao 6 (sf T 4 J (an (so [0,0,0,0]) (ao 7 (sf T 5 J (an (so [0,0,0,0]) (ae (rx T 1 (am (_,_,_,_,_,_,_,_,_,_,_,_,_,_) [0,2,2,2] (oi Z1) J J)))))))))))))
   refine nw T J (λQP=>an (so [0,0,0,0]) (ao 1 (kh [] J pY Z1 (mc.c ·) (λv23 Z1=>an (so [0,0,0,0]) (ao 3 (kh [] J pY Z1 (mc.c ·) (λv24 Z1=>an (so [0,0,0,0]) (ao 6 (sf T 4 J (an (so [0,0,0,0]) (ao 7 (sf T 5 J (an (so [0,0,0,0]) (ae (rx T 1 (am (_,_,_,_,_,_,_,_,_,_,_,_,_,_) [0,2,2,2] (oi Z1) J J))))))))))))))))
  refine nw T J (λI1=>an (so [0,0,0,0]) (gB 1 4 ?_ ?_))
  ·refine kh [] J pY Z1 (mc.c ·) (λv25 Z1=>an (so [0,0,0,0]) (gB 3 4 ?_ ?_))
   ·refine kh [] J pY Z1 (mc.c ·) (λv26 Z1=>an (so [0,0,0,0]) (ao 4 (nw T J (λBP=>an (so [0,0,0,0]) (ao 6 (sf T 5 J (an (so [0,0,0,0]) (ao 7 (sf T 4 J (an (so [0,0,0,0]) (ae (rx T 1 (am (_,_,_,_,_,_,_,_,_,_,_,_,_,_) [0,2,3,2] (oi Z1) J J)))))))))))))
   refine nw T J (λkO=>an (so [0,0,0,0]) (ao 3 (kh [] J pY Z1 (mc.c ·) (λPM Z1=>an (so [0,0,0,0]) (ao 6 (sf T 5 J (an (so [0,0,0,0]) (ao 7 (sf T 4 J (an (so [0,0,0,0]) (ae (rx T 1 (am (_,_,_,_,_,_,_,_,_,_,_,_,_,_) [0,2,3,2] (oi Z1) J J)))))))))))))
  refine nw T J (λZS=>an (so [0,0,0,0]) (ao 1 (kh [] J pY Z1 (mc.c ·) (λv28 Z1=>an (so [0,0,0,0]) (ao 3 (kh [] J pY Z1 (mc.c ·) (λrV Z1=>an (so [0,0,0,0]) (ao 6 (sf T 5 J (an (so [0,0,0,0]) (ao 7 (sf T 4 J (an (so [0,0,0,0]) (ae (rx T 1 (am (_,_,_,_,_,_,_,_,_,_,_,_,_,_) [0,2,3,2] (oi Z1) J J))))))))))))))))
 rintro _ ⟨x1,x2,x3,x4,x5,x6,x7,x8,x9,aN,bf,bo,b4,b5⟩ rfl H;refine rc T 7 (lq [4,5,6] [0,0,1] (λ(⟨xp,fm,gk,dW,iO,eH,iP,hU⟩:Nat×Int×Int×Int×Int×Int×Int×Int)=>(mB.l0 xp x7 x8 x9 aN bf bo fm gk dW iO eH iP hU=some r,[(12,(ii hU))],[(cl b4 123 [(uu fm),(uu gk),(uu dW),(uu iO),(uu eH),(uu iP)])])) J J (fuel,x1,x2,x3,x4,x5,x6,0) [0,0,1,0] H J J ?_);rintro xp ⟨fm,gk,dW,iO,eH,iP,hU⟩ kL;replace kL:mB.l0 (xp+1) x7 x8 x9 aN bf bo fm gk dW iO eH iP hU=some r:=kL;rw[mB.l0] at kL;refine rc T 6 (cd J kL (λkL=>?_) (λkL=>?_))
 ·refine rc T 10 (fz J (rz [9] mix (bP bO) (λhg pf=>ha T 8 [0,1] sz hg pf J ?_)));obtain⟨FB,kL⟩:=az kL;refine av 2 sz hg pf J (yN T J J J J J FB) (av 3 sz hg pf J (aw T J J J J (UH (kk:= .u64) (xs:=[fm,gk,dW,iO,eH,iP]) (j:=3) J J FB)) (ha T 5 [4] sz hg pf J ?_));obtain⟨lE,kL⟩:=az kL;refine av 5 sz hg pf J (yN T J J J J J lE) (av 6 sz hg pf J (aw T J J J J (UH (kk:= .u64) (xs:=[x7,x8,x9,aN,bf,bo]) (j:=2) J J lE)) (ao 7 (kh [] J JA kL (rU.c ·) (λqk kL=>an sz ?_))));obtain⟨Q1,kL⟩:=az kL;refine av 8 sz hg pf J (yN T J J J J J Q1) (ao 9 (Zv (kk:= .u64) (xs:=[fm,gk,dW,iO,eH,iP]) T 3 [(uu (rd (List.set [fm,gk,dW,iO,eH,iP] (Int.toNat hU) qk) 0)),(uu (rd (List.set [fm,gk,dW,iO,eH,iP] (Int.toNat hU) qk) 1)),(uu (rd (List.set [fm,gk,dW,iO,eH,iP] (Int.toNat hU) qk) 2)),(uu (rd (List.set [fm,gk,dW,iO,eH,iP] (Int.toNat hU) qk) 3)),(uu (rd (List.set [fm,gk,dW,iO,eH,iP] (Int.toNat hU) qk) 4)),(uu (rd (List.set [fm,gk,dW,iO,eH,iP] (Int.toNat hU) qk) 5))] J J J J J J J Q1 J (an sl (ae (rx T 7 (ar (_,_,_,_,_,_,_) [0,0,0,0] kL J J))))))
 refine rc T 7 (br J (yN T J J J J J (by decide)) (lf T 3 J (br J (yN T J J J J J (by decide)) (lf T 3 J (br J (yN T J J J J J (by decide)) (lf T 3 J (br J (yN T J J J J J (by decide)) (lf T 3 J (br J (yN T J J J J J (by decide)) (lf T 3 J (br J (yN T J J J J J (by decide)) (lf T 3 J (ro T 1 (sg T 1 J (ro T 1 (rx T 2 ?_))))))))))))))))
 cases kL;exact pb T J (.cK (j:=1) [(uu fm),(uu gk),(uu dW),(uu iO),(uu eH),(uu iP)] J J J J J J J .nil) [0] () J J
end
noncomputable section
def GY.f:Option Int:=some 0
theorem GY.c (H:GY.f=some r):
 QU 107 [(.pointer none)] [] F (uu r):=by
 unfold GY.f at H;refine aD Tryz.func107 J J (λW=>rc T 12 (nh J (rc T 7 ?_)))
 cases H;exact p0 T J [0] J
def GZ.f (m:dC) (mG:bA):Option Int:=some m.count
theorem GZ.c (H:GZ.f m mG=some r) (rQ:mD m iF kS na) (ln:iC mG kS ly):
 QU 107 [(pp iF)] [na,ly] F (uu r):=by
 unfold GZ.f at H;refine aD Tryz.func107 J J (λW=>rc T 12 (eN J (rc T 3 ?_)));obtain⟨a5,n5,H5,s5,dq⟩:=(λx=>x) rQ;refine bQ 0 (congrArg some dq) (fz J (rc T 4 (lf T 2 J (ro T 4 ?_))))
 cases H;refine dp [2,2] J dq (p0 T J [2,0,0] J)
def rK.f (g:bA):Option (Option dC):=(iH.f g).bind λv1=>(ql.f v1.1 v1.2).bind λv2=>if(0<=(aa (v2.1*v2.2))/\(aa (v2.1*v2.2))<=1099511627776) then(some (some (dC.mk (List.replicate (Int.toNat (aa (v2.1*v2.2))) (default:pw)) 0 0))) else none
def rK.R (w0:Nat) (r:(Option dC)) (u:Value) (G:List Hp):Prop:= ∃(u0:Value) (G0:List Hp),X3 w0 r u0 G0/\u=u0/\G=G0
theorem rK.c (H:rK.f g=some r) (fC:iC g fa fY):
 QR 150 [(pp fa)] [fY] [fY] F (rK.R fa r):=by
 unfold rK.f at H;refine aD Tryz.func150 J J (λW=>rc T 12 (eN J (rc T 5 (k [0] J uc H (iH.c · fC) (λv1 H=>ro T 2 (k [] J F7 H (ql.c ·) (λv2 H=>ro T 13 ?_)))))));obtain⟨c3,H⟩:=az H;refine aX (Za (kd:=OU) (E:=217) T (default:pw) J J J J J J J ⟨none,0,[],none,0,[],(aj.nil (k:=(Fl.int .i64)) (E:=3)),(aj.nil (k:=(Fl.int .i32)) (E:=21)),J,J⟩ c3 J (λa2 n2 H2 s2=>ro T 1 (nc T J (λb3=>ro T 4 ?_))))
 cases H;refine gn [3,2] J (p1 T J [2,0,0] ⟨_,_,⟨b3,(List.flatten [(cl b3 213 [(pp fa),(ll a2 (List.replicate (Int.toNat (aa (v2.1*v2.2))) (default:pw)) n2),(ii 0),(uu 0)]),H2]),(show mD (dC.mk (List.replicate (Int.toNat (aa (v2.1*v2.2))) (default:pw)) 0 0) b3 fa (List.flatten [(cl b3 213 [(pp fa),(ll a2 (List.replicate (Int.toNat (aa (v2.1*v2.2))) (default:pw)) n2),(ii 0),(uu 0)]),H2]) from⟨a2,n2,H2,s2,J⟩),J,J⟩,J,J⟩ J)
def l8.l0:Nat->dC->bA->List Int->Int->Option (List Int)
 |0,_,_,_,_=>none
 |k6+1,m,mG,x4,x5=>if x5<(List.length m.parts:Int) then(if(0<=x5/\x5<(List.length m.parts:Int)) then((pW.f mG x5).bind λv7=>if((rd m.parts x5).version !=v7)=true then(if(List.length x4+1<=1099511627776) then(l8.l0 k6 m mG (x4++[x5]) (aa (x5+1))) else none) else(l8.l0 k6 m mG x4 (aa (x5+1)))) else none) else(some x4)
def l8.f (m:dC) (mG:bA):Option (List Int):=(pg.f mG).bind λv1=>if(m.clean==v1)=true then(some []) else(l8.l0 fuel m mG [] 0)
def l8.R (r:(List Int)) (u:Value) (G:List Hp):Prop:= ∃(a0:Option Addr) (n0:Nat) (H0:Hp),aj (Fl.int .i64) 3 r a0 n0 H0/\u=(ll a0 r n0)/\G=[H0]
theorem l8.c (H:l8.f m mG=some r) (rQ:mD m iF kS na) (ln:iC mG kS ly):
 QR 97 [(pp iF)] [na,ly] [na,ly] F (l8.R r):=by
 unfold l8.f at H;refine aD Tryz.func97 J J (λW=>rc T 7 ?_);obtain⟨a5,n5,H5,s5,dq⟩:=(λx=>x) rQ;refine bQ 0 (congrArg some dq) (fz J (du mix ay ?_))
 iterate 6 refine au T J ?_
 refine aO J J J (aw T J J J J (aH (j:=2) J J)) (au T J (au T J (au T J (aO J J J (aw T J J J J (aH (j:=2) J J)) ?_))));obtain⟨v1,V1,H⟩:=f_ H;refine wS [0] J J J J J J B6 J (pg.c V1 ln) (au T J (au T J (cZ (rx T 1 (cb J H (λH=>?_) (λH=>?_))))))
 ·refine rc T 7 ?_
  cases H;refine dp [2,2] J dq (bw (p1 T J [3,2,0,0] ⟨none,0,[],aj.nil,J,J⟩ J))
 refine rc T 13 (lf T 2 J (ro T 5 (bw (lq [0,23] [1,1,0,0] (λ(⟨k6,x4,x5,a8,n8,H8⟩:Nat×List Int×Int×Option Addr×Nat×Hp)=>(l8.l0 k6 m mG x4 x5=some r/\aj (Fl.int .i64) 3 x4 a8 n8 H8,[(3,(ll a8 x4 n8)),(24,(ii x5))],[H8])) J J (fuel,[],0,none,0,[]) [1,1,0,0,0] ⟨H,aj.nil⟩ J J ?_))));rintro k6 ⟨x4,x5,a8,n8,H8⟩ ⟨Z3,s8⟩;rw[l8.l0] at Z3;refine rc T 6 (cd J Z3 (λZ3=>?_) (λZ3=>?_))
 ·refine rc T 11 (du mix ay (au T J (au T J (au T J (aO J J J (aw T J J J J (aH (j:=1) J J)) (au T J ?_))))));obtain⟨c5,Z3⟩:=az Z3;obtain⟨q9,o9,e9⟩:=s5.r.addr c5.1 c5.2;refine aO J J J (cO T J J J J J e9 c5.1 c5.2) (au T J ?_);obtain⟨_,w12,⟨cw,n10,dt,n11,⟨OV,m10⟩,⟨Wy,m11⟩,rfl⟩⟩:=lz.view s5.r c5;refine aO J J J (aw T J J J J (uj (j:=3) J w12 e9 0 J)) (au T J (au T J (au T J (aO J J J (aw T J J J J (aH (j:=1) J J)) (au T J ?_)))));obtain⟨v7,V6,Z3⟩:=f_ Z3;refine wS [2] J J J J J J B7 J (pW.c V6 ln) (au T J (cZ (rx T 1 (cb J Z3 (λZ3=>?_) (λZ3=>?_)))))
  ·refine rc T 3 (aX (cU (k:=(Fl.int .i64)) T [x5] J J J J J J J J J (λdF eI dn=>?_)));obtain⟨c8,Z3⟩:=az Z3;refine aX (d_ (k:=(Fl.int .i64)) (xs:=x4) T (g:=4) J J J J J J J J J J s8 (oO dn 5) c8 J (λiE n14 fI gh=>ro T 9 (ar (_,_,_,_,_) [0,0,0,0,0] ⟨Z3,gh⟩ J J)))
  refine rc T 8 (ar (_,_,_,_,_) [0,0,0,0,0] ⟨Z3,s8⟩ J J)
 refine rc T 12 ?_
 cases Z3;refine dp [1,2] J dq (p1 T J [2,2,1,0] ⟨a8,n8,H8,s8,J,J⟩ J)
def jh.l1:Nat->Int->List Int->((List Int)×Int)->List Int->Int->Option pw
 |0,_,_,_,_,_=>none
 |GH+1,x3,x4,fG,di,bW=>if bW<(List.length fG.1:Int) then(if(0<=bW/\bW<(List.length fG.1:Int)) then(if(0<=bW/\bW<(List.length di:Int)) then(if((rd fG.1 bW)!=1099511627776)=true then(if(0<=bW/\bW<(List.length (List.set di (Int.toNat bW) (-1)):Int)) then(jh.l1 GH x3 x4 fG (List.set (List.set di (Int.toNat bW) (-1)) (Int.toNat bW) (IntKind.i32.wrap (rd fG.1 bW))) (aa (bW+1))) else none) else(jh.l1 GH x3 x4 fG (List.set di (Int.toNat bW) (-1)) (aa (bW+1)))) else none) else none) else(some (pw.mk x3 x4 di))
def jh.l0:Nat->(Int×Int)->(aL×Bool)->Int->List Int->List Int->Int->Option pw
 |0,_,_,_,_,_,_=>none
 |zf+1,v1,v2,x3,x4,bd,ct=>if ct<(List.length x4:Int) then(if(0<=ct/\ct<(List.length x4:Int)) then((qY.f v1.1 v1.2 (rd x4 ct)).bind λv17=>if(List.length bd+1<=1099511627776) then(jh.l0 zf v1 v2 x3 x4 (bd++[v17]) (aa (ct+1))) else none) else none) else((jB.f v2.1 bd).bind λfG=>if(0<=(List.length fG.1:Int)/\(List.length fG.1:Int)<=1099511627776) then(jh.l1 fuel x3 x4 fG (List.replicate (Int.toNat (List.length fG.1:Int)) (0:Int)) 0) else none)
def jh.f (m:dC) (bG:Int) (mG:bA):Option pw:=(iH.f mG).bind λv1=>(lW.f mG bG).bind λv2=>((pW.f mG bG).bind λv7=>(jY.f mG bG).bind λv8=>some (v7,v8,([]:List Int))).bind λ(x3,x4,x5)=>jh.l0 fuel v1 v2 x3 x4 [] 0
def jh.R (r:pw) (u:Value) (G:List Hp):Prop:= ∃(a0:Option Addr) (n0:Nat) (H0:Hp) (a1:Option Addr) (n1:Nat) (H1:Hp),aj (Fl.int .i64) 3 r.nodes a0 n0 H0/\aj (Fl.int .i32) 21 r.aR a1 n1 H1/\u=(.agg #[(ii r.version),(ll a0 r.nodes n0),(ll a1 r.aR n1)])/\G=[H0,H1]
theorem jh.c (H:jh.f m bG mG=some r) (rQ:mD m iF kS na) (ln:iC mG kS ly):
 QR 211 [(pp iF),(ii bG)] [na,ly] [na,ly] F (jh.R r):=by
 unfold jh.f at H;refine aD Tryz.func211 J J (λW=>rc T 2 (nc T J (λb3=>ro T 3 ?_)));obtain⟨a6,n6,H6,s6,kU⟩:=(λx=>x) rQ;refine bQ 0 (congrArg some kU) (fz J (rc T 4 (lf T 3 J (k [0] J uc H (iH.c · ln) (λv1 H=>ro T 12 (lf T 3 J (ro T 1 (kr lW.R [0] [0] J SX H (lW.c · ln) (λv2 H=>?_)))))))));rintro _ _ ⟨a7,n7,H7,s7,rfl,rfl⟩;refine fz J (ro T 3 (nc T J (λb8=>sg T 6 J (ro T 3 (mq H [4,5,6,7] [0,0,4,2,0,1,0] (λz6 (⟨x3,x4,x5,b9,cw,n10,bX,dt,n11,cA⟩:Int×List Int×List Int×Nat×Option Addr×Nat×Hp×Option Addr×Nat×Hp)=>((x3,x4,x5)=z6/\aj (Fl.int .i64) 3 x4 cw n10 bX/\aj (Fl.int .i32) 21 x5 dt n11 cA,[(9,(pp b9))],[(cl b9 217 [(ii x3),(ll cw x4 n10),(ll dt x5 n11)]),bX,cA])) J J (λz6 Z3 _=>?_) ?_)))))
 ·refine ks [0,1,4,5,6,7] J (fz J (rz [] mix (bP bO) (λhg pf=>ha T 12 [0,1,2] sz hg pf J (av 3 sz hg pf J (aw T J J J J (aH (j:=2) J J)) (ha T 7 [4,6,7,8] sz hg pf J (av 9 sz hg pf J (aw T J J J J (aH (j:=2) J J)) (ha T 5 [10] sz hg pf J (gB 5 13 ?_ ?_))))))))
  ·refine kh [5] J B7 Z3 (pW.c · ln) (λv7 Z3=>an sz (gB 11 13 ?_ ?_))
   ·refine kR jY.R [5] [5] J JD Z3 (jY.c · ln) (λv8 Z3=>?_);rintro _ _ ⟨a12,n12,dz,dJ,rfl,rfl⟩;refine fz J (an (so [0,0,0,0,0,2,0]) (ha T 2 [12] (so [0,0,0,0,0,2,0]) hg pf J (ao 13 (nw T J (λZO=>an (so [0,0,0,0,0,2,0]) (ao 14 (sf T 8 J (an (so [0,0,0,0,0,2,0]) (ae (rx T 1 (bw (am (_,_,_,_,_,_,_,_,_,_) [0,0,3,2,0,2,0,1,0,0] ⟨oi Z3,dJ,aj.nil⟩ J J))))))))))))
   refine nw T J (λI0=>an (so [0,0,0,0,0,0,0]) (ao 11 (kR jY.R [5] [5] J JD Z3 (jY.c · ln) (λv9 Z3=>?_))));rintro _ _ ⟨jE,n15,dE,dN,rfl,rfl⟩;refine fz J (an (so [0,0,0,0,0,3,0]) (ha T 1 [12] (so [0,0,0,0,0,3,0]) hg pf J (ao 14 (sf T 6 J (an (so [0,0,0,0,0,3,0]) (ae (rx T 1 (bw (am (_,_,_,_,_,_,_,_,_,_) [0,0,3,2,0,3,0,0,0,0] ⟨oi Z3,dN,aj.nil⟩ J J)))))))))
  refine nw T J (λqu=>an (so [0,0,0,0,0,0,0]) (ao 5 (kh [5] J B7 Z3 (pW.c · ln) (λv10 Z3=>an (so [0,0,0,0,0,0,0]) (ao 11 (kR jY.R [5] [5] J JD Z3 (jY.c · ln) (λv11 Z3=>?_)))))));rintro _ _ ⟨a17,n17,ez,fw,rfl,rfl⟩;refine fz J (an (so [0,0,0,0,0,3,0]) (ha T 1 [12] (so [0,0,0,0,0,3,0]) hg pf J (ao 14 (sf T 6 J (an (so [0,0,0,0,0,3,0]) (ae (rx T 1 (bw (am (_,_,_,_,_,_,_,_,_,_) [0,0,3,2,0,3,0,0,0,0] ⟨oi Z3,fw,aj.nil⟩ J J)))))))))
 rintro _ ⟨x3,x4,x5,b9,cw,n10,bX,dt,n11,cA⟩ ⟨rfl,bT,dh⟩ H;refine rc T 9 (lf T 7 J (ro T 5 (bw (lq [4,5,6,7,9,48,49] [0,0,0,0,3,3,3,0,0,0] (λ(⟨zf,bd,ct,mj,n19,kJ⟩:Nat×List Int×Int×Option Addr×Nat×Hp)=>(jh.l0 zf v1 v2 x3 x4 bd ct=some r/\aj (Fl.int .i64) 3 bd mj n19 kJ,[(10,(ll mj bd n19)),(50,(ii ct))],[kJ])) J J (fuel,[],0,none,0,[]) [0,0,0,0,3,3,3,0,0,0,0] ⟨H,aj.nil⟩ J J ?_))));rintro zf ⟨bd,ct,mj,n19,kJ⟩ ⟨Z9,gR⟩;rw[jh.l0] at Z9;refine rc T 6 (cd J Z9 (λZ9=>?_) (λZ9=>?_))
 ·refine rc T 6 ?_;obtain⟨dG,Z9⟩:=az Z9;obtain⟨Wi,Vv,vh⟩:=bT.r.addr dG.1 dG.2;refine ix T J vh dG (le T 0 (oO bT 5) vh dG J J (ro T 8 (k [] J F2 Z9 (qY.c ·) (λv17 Z9=>aX (cU (k:=(Fl.int .i64)) T [v17] J J J J J J J J J (λa21 lr jO=>?_))))));obtain⟨i_,Z9⟩:=az Z9;refine aX (d_ (k:=(Fl.int .i64)) (xs:=bd) T (g:=10) J J J J J J J J J J gR (oO jO 11) i_ J (λa22 n22 mC iM=>ro T 9 (ar (_,_,_,_,_) [0,0,0,0,0,0,0,0,0,0,0] ⟨Z9,iM⟩ J J)))
 refine rc T 7 (lm T 2 J (ro T 1 (kr jB.R [] [] J adl Z9 (jB.c · (oO s7 3) s7.bY (oO gR 10) gR.bY) (λfG Z9=>?_))));rintro _ _ ⟨a23,n23,jD,gS,rfl,rfl⟩;refine fz J (ro T 11 ?_);obtain⟨yH,Z9⟩:=az Z9;refine aX (u6 (k:=(Fl.int .i32)) T (0:Int) J J J J J J J J yH J (λa24 n24 oc lj=>ro T 1 (sg T 4 J (ro T 11 (lq [4,9,72,73] [0,0,3,8,4,4,4] (λ(⟨GH,di,bW,a26,n26,mg⟩:Nat×List Int×Int×Option Addr×Nat×Hp)=>(jh.l1 GH x3 x4 fG di bW=some r/\aj (Fl.int .i32) 21 di a26 n26 mg,[(74,(ii bW))],[(cl b9 217 [(ii x3),(ll cw x4 n10),(ll a26 di n26)]),mg])) J J (fuel,(List.replicate (Int.toNat (List.length fG.1:Int)) (0:Int)),0,a24,n24,oc) [0,0,3,8,4,4,4,2,4] ⟨Z9,lj⟩ J J ?_)))));rintro GH ⟨di,bW,a26,n26,mg⟩ ⟨kK,lK⟩;rw[jh.l1] at kK;refine rc T 6 (cd J kK (λkK=>?_) (λkK=>?_))
 ·refine rc T 7 ?_;obtain⟨lD,kK⟩:=az kK;obtain⟨Et,o27,tX⟩:=gS.r.addr lD.1 lD.2;refine ix T J tX lD (le T 0 (oO gS 3) tX lD J J (ro T 7 (lf T 7 J (ro T 1 ?_))));obtain⟨Ac,kK⟩:=az kK;obtain⟨q28,o28,Jc⟩:=lK.r.addr Ac.1 Ac.2;refine ix T J Jc Ac (aX (jX (k:=(Fl.int .i32)) T 8 0 (-1) J J J J J J lK Jc Ac J J J (λrh qO=>kg [4,9,15,16,72,73,74] [0,0,0,0,0,0,0,1] [0,0,0,0,0,0,0,1,0] [] [(cl b9 217 [(ii x3),(ll cw x4 n10),(ll a26 (List.set di (Int.toNat bW) (-1)) n26)])] J J trivial (by first |rfl |(simp only[ll,List.length_set];rfl)) (ro T 8 ?_))))
  refine cb J kK (λkK=>?_) (λkK=>?_)
  ·refine rc T 2 (lf T 8 J (ro T 3 ?_));obtain⟨lE,kK⟩:=az kK;refine ix T J Jc lE (aX (jX (k:=(Fl.int .i32)) T 7 0 (IntKind.i32.wrap (rd fG.1 bW)) J J J J J J qO Jc lE J J J (λpL nM=>kg [4,9,72,73,74] [0,0,0,0,0,0,0,0] [0,0,0,0,0,0,0,0,0] [] [(cl b9 217 [(ii x3),(ll cw x4 n10),(ll a26 (List.set (List.set di (Int.toNat bW) (-1)) (Int.toNat bW) (IntKind.i32.wrap (rd fG.1 bW))) n26)])] J J trivial (by first |rfl |(simp only[ll,List.length_set];rfl)) (ro T 8 ?_))))
   exact ar (_,_,_,_,_) [0,0,0,0,0,0,0,1,0] ⟨kK,nM⟩ J J
  refine rc T 8 (ar (_,_,_,_,_) [0,0,0,0,0,0,0,1,0] ⟨kK,qO⟩ J J)
 refine rc T 7 (lm T 7 J (sg T 1 J (ro T 3 ?_)))
 cases kK;refine dp [4,5] J kU (pb T J (.cK (j:=1) [(ii x3),(ll cw x4 n10),(ll a26 di n26)] J J J J J J J .nil) [2,5,5,3,0] ⟨(_,_),cw,n10,bX,a26,n26,mg,bT,lK,J,J⟩ J J)
def nF.l0:Nat->bA->(List Int)->dC->Int->Option (Int×dC)
 |0,_,_,_,_=>none
 |k6+1,mG,v1,x4,x5=>if x5<(List.length v1:Int) then(if(0<=x5/\x5<(List.length v1:Int)) then((jh.f x4 (rd v1 x5) mG).bind λv7=>if(0<=(rd v1 x5)/\(rd v1 x5)<(List.length x4.parts:Int)) then((rU.f x4.count 1).bind λv8=>nF.l0 k6 mG v1 (dC.mk (List.set x4.parts (Int.toNat (rd v1 x5)) v7) x4.clean v8) (aa (x5+1))) else none) else none) else((pg.f mG).bind λv9=>some ((List.length v1:Int),(dC.mk x4.parts v9 x4.count)))
def nF.f (m:dC) (mG:bA):Option (Int×dC):=(l8.f m mG).bind λv1=>nF.l0 fuel mG v1 m 0
def nF.R (aay:Nat) (afv:Nat) (r:(Int×dC)) (u:Value) (G:List Hp):Prop:= ∃(H0:Hp),mD r.2 aay afv H0/\u=(ii r.1)/\G=[H0]
theorem nF.c (H:nF.f m mG=some r) (rQ:mD m iF kS na) (ln:iC mG kS ly):
 QR 181 [(pp iF)] [na,ly] [ly] F (nF.R iF kS r):=by
 unfold nF.f at H;refine aD Tryz.func181 J J (λW=>rc T 12 (eN J (rc T 5 (kr l8.R [0,0] [0,0] J NC H (l8.c · rQ ln) (λv1 H=>?_)))));rintro _ _ ⟨a3,n3,H3,s3,rfl,rfl⟩;refine fz J (ro T 12 (lq [0,3,10,11] [0,2,0] (λ(⟨k6,x4,x5,H5⟩:Nat×dC×Int×Hp)=>(nF.l0 k6 mG v1 x4 x5=some r/\mD x4 iF kS H5,[(12,(ii x5))],[H5])) J J (fuel,m,0,na) [0,2,0,0] ⟨H,rQ⟩ J J ?_));rintro k6 ⟨x4,x5,H5⟩ ⟨Z2,s5⟩;rw[nF.l0] at Z2;refine rc T 6 (cd J Z2 (λZ2=>?_) (λZ2=>?_))
 ·refine rc T 6 ?_;obtain⟨c4,Z2⟩:=az Z2;obtain⟨q6,o6,e6⟩:=s3.r.addr c4.1 c4.2;refine ix T J e6 c4 (le T 0 (oO s3 2) e6 c4 J J (ro T 4 ?_));obtain⟨a9,n9,H9,s9,rE⟩:=(λx=>x) s5;refine bQ 3 (congrArg some rE) (fz J (fz J (rz [9] mix (bP bO) (λhg pf=>ha T 7 [0,1,2] sz hg pf J (av 3 sz hg pf J (aw T J J J J (aH (j:=3) J J)) (ha T 3 [4,5,6] sz hg pf J (ao 7 ?_)))))));obtain⟨v7,V5,Z2⟩:=f_ Z2;refine Fq (As:=[(cl iF 213 [(pp kS),(ll a9 x4.parts n9),(ii x4.clean),(uu x4.count)]),H9,ly]) (jh.R v7) [(cl iF 213 [(pp kS),(ll a9 x4.parts n9),(ii x4.clean),(uu x4.count)]),H9,ly] [3,3,1] J J J J ac3 J J (Ja (A:=[H5,ly]) (A2:=[H5,ly]) (by simp only[rE,List.flatten_cons,List.flatten_append,List.flatten_nil,List.append_nil,List.append_assoc]) (by simp only[rE,List.flatten_cons,List.flatten_append,List.flatten_nil,List.append_nil,List.append_assoc]) (jh.c V5 s5 ln)) ?_
  rintro _ _ ⟨cw,n10,bX,dt,n11,cA,bT,dh,rfl,rfl⟩;refine fz J (an (so [0,5,0,2,2]) ?_);obtain⟨c6,Z2⟩:=az Z2;obtain⟨vV,OL,sD⟩:=s9.r.addr c6.1 c6.2;refine av 8 (so [0,5,0,2,2]) hg pf J (cO T J J J J J sD c6.1 c6.2) (ao 9 (LY (j:=5) J s9 c6 (λ_ _ dE o15 dN=>?_)));obtain⟨dF,n13,eI,iE,n14,fI,dn,gh,rfl,rfl⟩:=o15;refine L1 (LZ T 5 0 [(ii v7.version),(ll cw v7.nodes n10),(ll dt v7.aR n11)] J J J J J J dN sD J J J J (λfN fj=>an sl (ae (gn [2,2] J (LX (j:=3) (q:=7) v7 J fj J J ⟨cw,n10,bX,dt,n11,cA,bT,dh,J,J⟩ (λe_ fk=>kg [0,3,10,11,12] [0,0,1,1] [0,0,1,1,0] [] [(cl iF 213 [(pp kS),(ll a9 (List.set x4.parts (Int.toNat (rd v1 x5)) v7) n9),(ii x4.clean),(uu x4.count)])] J J trivial (by first |rfl |(simp only[ll,List.length_set];rfl)) (rx T 6 (lf T 4 J ?_))))))))
  refine k [] J JA Z2 (rU.c ·) (λv8 Z2=>ro T 2 (sg T 4 J (ro T 8 (gn [4,2] J (ar (_,_,_) [0,1,0,0] ⟨Z2,(show mD (dC.mk (List.set x4.parts (Int.toNat (rd v1 x5)) v7) x4.clean v8) iF kS (List.flatten [(cl iF 213 [(pp kS),(ll a9 (List.set x4.parts (Int.toNat (rd v1 x5)) v7) n9),(ii x4.clean),(uu v8)]),e_]) from⟨a9,n9,e_,fk,J⟩)⟩ J J)))))
 refine rc T 6 ?_;obtain⟨a21,n21,lr,jO,FV⟩:=(λx=>x) s5;refine bQ 3 (congrArg some FV) (fz J (rc T 5 (lf T 3 J (k [1] J B6 Z2 (pg.c · ln) (λv9 Z2=>ro T 2 (sg T 3 J (ro T 10 ?_)))))))
 cases Z2;refine gn [3,3] J (p1 T J [3,1,0] ⟨(List.flatten [(cl iF 213 [(pp kS),(ll a21 x4.parts n21),(ii v9),(uu x4.count)]),lr]),(show mD (dC.mk x4.parts v9 x4.count) iF kS (List.flatten [(cl iF 213 [(pp kS),(ll a21 x4.parts n21),(ii v9),(uu x4.count)]),lr]) from⟨a21,n21,lr,jO,J⟩),J,J⟩ J)
def xw.f (m:dC) (bG:Int) (mG:bA):Option (List Int):=(if bG<0 then(some true) else(some (decide (bG≥(List.length m.parts:Int))))).bind λx1=>if x1=true then(some []) else(if(0<=bG/\bG<(List.length m.parts:Int)) then((qg.f ((rd m.parts bG).nodes)).bind λv3=>some v3) else none)
def xw.R (r:(List Int)) (u:Value) (G:List Hp):Prop:= ∃(a0:Option Addr) (n0:Nat) (H0:Hp),aj (Fl.int .i64) 3 r a0 n0 H0/\u=(ll a0 r n0)/\G=[H0]
theorem xw.c (H:xw.f m bG mG=some r) (rQ:mD m iF kS na) (ln:iC mG kS ly):
 QR 215 [(pp iF),(ii bG)] [na,ly] [na,ly] F (xw.R r):=by
 unfold xw.f at H;refine aD Tryz.func215 J J (λW=>rc T 6 (mq H [0,1] [2,0,0] (λz2 (x1:Bool)=>(x1=z2,[(19,(bb x1))],[])) J J (λz2 Z1 _=>?_) ?_))
 ·obtain⟨a5,n5,H5,s5,dq⟩:=(λx=>x) rQ;refine bQ 0 (congrArg some dq) (fz J (rc T 8 (ad 11 J Z1 (λZ1=>?_) (λZ1=>?_))))
  ·refine ro T 10 (dp [2,2] J dq (am _ [1,1,0] (oi Z1) J J))
  refine ro T 4 (lf T 2 J (ro T 5 (dp [2,2] J dq (am _ [1,1,0] (oi Z1) J J))))
 rintro _ x1 rfl H;refine cb J H (λH=>?_) (λH=>?_)
 ·refine rc T 7 ?_
  cases H;refine bw (p1 T J [3,1,1,0] ⟨none,0,[],aj.nil,J,J⟩ J)
 refine rc T 3 ?_;obtain⟨a9,n9,H9,s9,rE⟩:=(λx=>x) rQ;refine bQ 1 (congrArg some rE) (fz J (rc T 4 (lf T 2 J (ro T 1 ?_))));obtain⟨c4,H⟩:=az H;obtain⟨KR,KH,pS⟩:=s9.r.addr c4.1 c4.2;refine ix T J pS c4 (ro T 1 ?_);obtain⟨_,PR,⟨dt,n11,a12,n12,⟨Wy,m11⟩,⟨Wz,m12⟩,rfl⟩⟩:=lz.view s9.r c4;refine lg T J (uj (j:=3) J PR pS 1 J) (kr qg.R [] [] J Nj H (qg.c · (rO Wy 3) m11) (λv3 H=>?_));rintro _ _ ⟨iE,n14,fI,gh,rfl,rfl⟩;refine fz J (ro T 4 ?_)
 cases H;refine dp [2,2] J rE (p1 T J [2,2,1,0] ⟨iE,n14,fI,gh,J,J⟩ J)
def Ei.f (p:pw) (cell:Int):Option (Int×Bool):=(oG.f p.nodes cell).bind λv1=>some (v1.1,v1.2)
theorem Ei.c (H:Ei.f p cell=some r) (Ks:Bt L_ OM [(ii p.version),(ll LM p.nodes OC),(ll LL p.aR OB)] F) (SK:aT (Fl.int .i64) p.nodes LM F) (Q6:List.length p.nodes<=OC) (M4:aT (Fl.int .i32) p.aR LL F) (aaq:List.length p.aR<=OB):
 QU 272 [(.pointer (some ⟨L_,OM+0,none⟩)),(ii cell)] [] F (.tuple #[(ii r.1),(bb r.2)]):=by
 unfold Ei.f at H;refine aD Tryz.func272 J J (λW=>rc T 11 (lg T J (Od Ks (j:=0) J 1 J) (ro T 1 (k [] J adK H (oG.c · (rO SK 0) Q6) (λv1 H=>ro T 7 ?_)))))
 cases H;exact p0 T J [0] J
def sO.f (m:dC) (cell:Int) (mG:bA):Option ((Option Int)×Int×Bool):=(iH.f mG).bind λv1=>(gi.f v1.1 v1.2 cell).bind λv2=>if v2<0 then(some (none,0,false)) else(if(0<=v2/\v2<(List.length m.parts:Int)) then((Ei.f (rd m.parts v2) cell).bind λv3=>some ((some v2),v3.1,v3.2)) else none)
def sO.R (xa0:Option Addr) (xl0:Nat) (r:((Option Int)×Int×Bool)) (u:Value) (G:List Hp):Prop:= ∃(u0:Value),Yb r.1 xa0 xl0 3 u0/\u=(.tuple #[u0,(ii r.2.1),(bb r.2.2)])/\G=[]
theorem sO.c (H:sO.f m cell mG=some r) (WU:gz OU 217 m.parts LJ Vj P4) (ln:iC mG kS ly):
 QR 243 [(pp iF),(ii cell)] [(cl iF 213 [(pp kS),(ll LJ m.parts Vj),(ii m.clean),(uu m.count)]),P4,ly] [(cl iF 213 [(pp kS),(ll LJ m.parts Vj),(ii m.clean),(uu m.count)]),P4,ly] F (sO.R LJ (List.length m.parts) r):=by
 unfold sO.f at H;refine aD Tryz.func243 J J (λW=>rc T 14 (eN J (rc T 7 (lf T 0 J (k [2] J uc H (iH.c · ln) (λv1 H=>ro T 12 (k [] J qA H (gi.c ·) (λv2 H=>ro T 10 (cd J H (λH=>?_) (λH=>?_))))))))))
 ·refine rc T 9 ?_
  cases H;exact p1 T J [0,0,0,0] ⟨_,J,J,J⟩ J
 refine rc T 7 (lf T 0 J (ro T 1 ?_));obtain⟨c4,H⟩:=az H;obtain⟨q4,o4,e4⟩:=WU.r.addr c4.1 c4.2;refine ix T J e4 c4 (ro T 7 ?_);obtain⟨_,w7,⟨a5,n5,a6,n6,⟨r5,m5⟩,⟨r6,m6⟩,rfl⟩⟩:=lz.view WU.r c4;refine k [] J adD H (Ei.c · (QH w7 e4 (j:=1) J) (rO r5 1) m5 (rO r6 1) m6) (λv3 H=>ro T 18 ?_)
 cases H;exact p1 T J [0,0,0,0] ⟨_,⟨c4,q4,o4,e4,J⟩,J,J⟩ J
def Cx.f (p:pw) (i:Int) (j:Int):Option Int:=if(0<=(aa ((aa (i*(List.length p.nodes:Int)))+j))/\(aa ((aa (i*(List.length p.nodes:Int)))+j))<(List.length p.aR:Int)) then(if((rd p.aR (aa ((aa (i*(List.length p.nodes:Int)))+j)))!=(-1))=true then(some (aa (rd p.aR (aa ((aa (i*(List.length p.nodes:Int)))+j))))) else(some 1099511627776)) else none
theorem Cx.c (H:Cx.f p i j=some r) (Ks:Bt L_ OM [(ii p.version),(ll LM p.nodes OC),(ll LL p.aR OB)] F) (SK:aT (Fl.int .i64) p.nodes LM F) (Q6:List.length p.nodes<=OC) (M4:aT (Fl.int .i32) p.aR LL F) (aaq:List.length p.aR<=OB):
 QU 244 [(.pointer (some ⟨L_,OM+0,none⟩)),(ii i),(ii j)] [] F (ii r):=by
 unfold Cx.f at H;refine aD Tryz.func244 J J (λW=>rc T 7 (du mix ay (au T J (au T J (au T J (aO J J J (aw T J J J J (Od Ks (j:=0) J 2 J)) ?_))))))
 iterate 4 refine au T J ?_
 refine aO J J J (aw T J J J J (Od Ks (j:=0) J 1 J)) ?_
 iterate 4 refine au T J ?_
 obtain⟨c1,H⟩:=az H;obtain⟨q1,o1,e1⟩:=M4.addr c1.1 c1.2;refine aO J J J (cO T J J J J J e1 c1.1 c1.2) (aO J J J (aw T J J J J (iU (k:=(Fl.int .i32)) (rO M4 0) e1 c1 0 J)) (au T J (cZ (rx T 7 (cb J H (λH=>?_) (λH=>?_))))))
 ·refine rc T 9 ?_
  cases H;exact p0 T J [0] J
 refine rc T 8 ?_
 cases H;exact p0 T J [0] J
def gP.l1:Nat->dC->Int->bA->Int->(Int×Int)->List dZ->Int->Option (List dZ)
 |0,_,_,_,_,_,_,_=>none
 |lH+1,m,b,mG,eZ,v10,aU,bd=>if bd<=3 then((mf.f v10.1 v10.2 b bd).bind λbR=>(sO.f m bR mG).bind λv17=>dm v17.1 (if v17.2.2=true then((jc.f mG b).bind λfG=>if(List.length aU+1<=1099511627776) then(gP.l1 lH m b mG eZ v10 (aU++[(dZ.mk bR fG)]) (aa (bd+1))) else none) else(gP.l1 lH m b mG eZ v10 aU (aa (bd+1)))) (λXF=>if v17.2.2=true then(if(!(XF==eZ))=true then((jc.f mG b).bind λnU=>if(List.length aU+1<=1099511627776) then(gP.l1 lH m b mG eZ v10 (aU++[(dZ.mk bR nU)]) (aa (bd+1))) else none) else(gP.l1 lH m b mG eZ v10 aU (aa (bd+1)))) else(gP.l1 lH m b mG eZ v10 aU (aa (bd+1))))) else(some aU)
def gP.l0:Nat->dC->Int->bA->((Option Int)×Int×Bool)->Int->List dZ->Int->Option (List dZ)
 |0,_,_,_,_,_,_,_=>none
 |k6+1,m,b,mG,v1,eZ,x4,x5=>if x5<(List.length ((rd m.parts eZ).nodes):Int) then((if(0<=x5/\x5<(List.length ((rd m.parts eZ).nodes):Int)) then((Cx.f (rd m.parts eZ) x5 v1.2.1).bind λv9=>if((x5 !=v1.2.1)&&(v9 !=1099511627776))=true then(if(List.length x4+1<=1099511627776) then(some (x4++[(dZ.mk (rd ((rd m.parts eZ).nodes) x5) v9)])) else none) else(some x4)) else none).bind λx7=>gP.l0 k6 m b mG v1 eZ x7 (aa (x5+1))) else((iH.f mG).bind λv10=>gP.l1 fuel m b mG eZ v10 x4 0)
def gP.f (m:dC) (b:Int) (mG:bA):Option (List dZ):=(sO.f m b mG).bind λv1=>dm v1.1 (if(!v1.2.2)=true then(some []) else(none)) (λeZ=>if(!v1.2.2)=true then(some []) else(if(0<=(0:Int)/\(0:Int)<=(aa ((List.length ((rd m.parts eZ).nodes):Int)+1))/\(aa ((List.length ((rd m.parts eZ).nodes):Int)+1))<=1099511627776) then(gP.l0 fuel m b mG v1 eZ (List.replicate (Int.toNat 0) (default:dZ)) 0) else none))
def gP.R (r:(List dZ)) (u:Value) (G:List Hp):Prop:= ∃(a0:Option Addr) (n0:Nat) (H0:Hp),aj pr 283 r a0 n0 H0/\u=(ll a0 r n0)/\G=[H0]
theorem gP.c (H:gP.f m b mG=some r) (rQ:mD m iF kS na) (ln:iC mG kS ly):
 QR 219 [(pp iF),(ii b)] [na,ly] [na,ly] F (gP.R r):=by
 unfold gP.f at H;refine aD Tryz.func219 J J (λW=>rc T 6 ?_);obtain⟨a5,n5,H5,s5,dq⟩:=(λx=>x) rQ;refine bQ 0 (congrArg some dq) (fz J (rc T 3 (kr (sO.R a5 (List.length m.parts)) [2,2,0] [2,2,0] J Tr H (sO.c · s5 ln) (λv1 H=>?_))));rintro _ _ ⟨_,X2,rfl,rfl⟩;refine fz J ?_;rcases J7:v1.1 with _ |eZ
 ·replace H:=eV J7 H;rw[J7] at X2;obtain rfl:=X2;refine ro T 16 (cb J H (λH=>?_) (λH=>?_))
  ·refine rc T 7 ?_
   cases H;refine dp [1,1] J dq (bw (p1 T J [3,2,1,0] ⟨none,0,[],aj.nil,J,J⟩ J))
  refine rc T 5 ?_
  cases H
 replace H:=eW J7 H;rw[J7] at X2;obtain⟨MU,q6,o6,e6,rfl⟩:=X2;refine ro T 16 (cb J H (λH=>?_) (λH=>?_))
 ·refine rc T 7 ?_
  cases H;refine dp [1,1] J dq (bw (p1 T J [3,2,1,0] ⟨none,0,[],aj.nil,J,J⟩ J))
 refine rc T 7 ?_;obtain⟨_,XA,⟨a9,n9,cw,n10,⟨r9,m9⟩,⟨OV,m10⟩,rfl⟩⟩:=lz.view s5.r MU;refine lg T J (uj (j:=2) J XA e6 1 J) (ro T 2 ?_);obtain⟨c5,H⟩:=az H;refine aX (Zj (k:=pr) T (default:dZ) J J J J J J J J c5 J (λa12 n12 dz dJ=>ro T 9 (lg T J (uj (j:=2) J XA e6 1 J) (ro T 5 (lq [0,1,5,6,38,39] [0,0,1,0] (λ(⟨k6,x4,x5,iE,n14,fI⟩:Nat×List dZ×Int×Option Addr×Nat×Hp)=>(gP.l0 k6 m b mG v1 eZ x4 x5=some r/\aj pr 283 x4 iE n14 fI,[(8,(ll iE x4 n14)),(40,(ii x5))],[fI])) J J (fuel,(List.replicate (Int.toNat 0) (default:dZ)),0,a12,n12,dz) [0,0,1,0,0] ⟨H,dJ⟩ J J ?_)))));rintro k6 ⟨x4,x5,iE,n14,fI⟩ ⟨Z6,gh⟩;rw[gP.l0] at Z6;refine rc T 6 (cd J Z6 (λZ6=>?_) (λZ6=>?_))
 ·refine rc T 2 (mq Z6 [0,1,5,6,38,39,40] [0,0,0,0] (λz8 (⟨x7,jE,n15,dE⟩:List dZ×Option Addr×Nat×Hp)=>(x7=z8/\aj pr 283 x7 jE n15 dE,[(8,(ll jE x7 n15))],[dE])) J J (λz8 Z8 _=>?_) ?_)
  ·refine rc T 4 ?_;obtain⟨c9,Z8⟩:=az Z8;obtain⟨q16,o16,FI⟩:=r9.addr c9.1 c9.2;refine ix T J FI c9 (le T 0 (rO r9 3) FI c9 J J (ro T 9 ?_));obtain⟨_,w19,⟨a17,n17,iQ,n18,⟨r17,m17⟩,⟨r18,m18⟩,rfl⟩⟩:=lz.view s5.r MU;refine k [] J adp Z8 (Cx.c · (QH w19 e6 (j:=3) J) (rO r17 3) m17 (rO r18 3) m18) (λv9 Z8=>ro T 9 (ga T [4,5,6] 52 [0,1,5,6,8,10,11,38,39,40] 55 J J J J J J J (ro T 2 (cb J Z8 (λZ8=>?_) (λZ8=>?_)))))
   ·refine rc T 5 (aX (cU (k:=pr) T [(dZ.mk (rd ((rd m.parts eZ).nodes) x5) v9)] J J J J J J J J J (λa20 oa l9=>?_)));obtain⟨gU,Z8⟩:=az Z8;refine aX (d_ (k:=pr) (xs:=x4) T (g:=4) J J J J J J J J J J gh (oO l9 5) gU J (λa21 n21 lr jO=>ro T 4 (am (_,_,_,_) [0,0,0,0,0] ⟨oi Z8,jO⟩ J J)))
   refine rc T 3 (am (_,_,_,_) [0,0,0,0,0] ⟨oi Z8,gh⟩ J J)
  rintro _ ⟨x7,jE,n15,dE⟩ ⟨rfl,dN⟩ Z6;refine rc T 5 (ar (_,_,_,_,_) [0,0,0,0,0] ⟨Z6,dN⟩ J J)
 refine rc T 10 (lf T 1 J (k [2] J uc Z6 (iH.c · ln) (λv10 Z6=>ro T 14 (lq [0,1,5,12,13] [0,0,0,0] (λ(⟨lH,aU,bd,a23,n23,jD⟩:Nat×List dZ×Int×Option Addr×Nat×Hp)=>(gP.l1 lH m b mG eZ v10 aU bd=some r/\aj pr 283 aU a23 n23 jD,[(8,(ll a23 aU n23)),(14,(ii bd))],[jD])) J J (fuel,x4,0,iE,n14,fI) [0,0,0,0,0] ⟨Z6,gh⟩ J J ?_))));rintro lH ⟨aU,bd,a23,n23,jD⟩ ⟨bD,gS⟩;rw[gP.l1] at bD;refine rc T 7 (cd J bD (λbD=>?_) (λbD=>?_))
 ·refine rc T 10 (k [] J Ao bD (mf.c ·) (λbR bD=>ro T 7 (kr (sO.R a5 (List.length m.parts)) [1,2,1] [1,2,1] J Tr bD (sO.c · s5 ln) (λv17 bD=>?_))));rintro _ _ ⟨_,IF,rfl,rfl⟩;refine fz J ?_;rcases J9:v17.1 with _ |XF
  ·replace bD:=eV J9 bD;rw[J9] at IF;obtain rfl:=IF;refine ro T 13 (ab 88 J bD (λbD=>?_) (λbD=>?_))
   ·refine ro T 2 (br J (abT T J J J J) (ro T 3 (nh J (rc T 6 (lf T 2 J (ro T 1 (k [4] J vt bD (jc.c · ln) (λfG bD=>ro T 1 (aX (cU (k:=pr) T [(dZ.mk bR fG)] J J J J J J J J J (λa25 gL iW=>?_)))))))))));obtain⟨lE,bD⟩:=az bD;refine aX (d_ (k:=pr) (xs:=aU) T (g:=1) J J J J J J J J J J gS (oO iW 5) lE J (λa26 n26 mg lK=>ro T 10 (ar (_,_,_,_,_) [0,1,2,1,0] ⟨bD,lK⟩ J J)))
   refine ro T 6 (eN J (rc T 9 (ar (_,_,_,_,_) [0,1,2,1,0] ⟨bD,gS⟩ J J)))
  replace bD:=eW J9 bD;rw[J9] at IF;obtain⟨ab6,q24,o24,e24,rfl⟩:=IF;refine ro T 13 (ab 88 J bD (λbD=>?_) (λbD=>?_))
  ·refine ro T 2 (br J (abU T J J J J J J e24 e6 ab6.1 MU.1) (ro T 3 (cb J bD (λbD=>?_) (λbD=>?_))))
   ·refine rc T 6 (lf T 2 J (ro T 1 (k [4] J vt bD (jc.c · ln) (λnU bD=>ro T 1 (aX (cU (k:=pr) T [(dZ.mk bR nU)] J J J J J J J J J (λIG EW wb=>?_)))))));obtain⟨c25,bD⟩:=az bD;refine aX (d_ (k:=pr) (xs:=aU) T (g:=1) J J J J J J J J J J gS (oO wb 5) c25 J (λa28 n28 uM j7=>ro T 10 (ar (_,_,_,_,_) [0,1,2,1,0] ⟨bD,j7⟩ J J)))
   refine rc T 9 (ar (_,_,_,_,_) [0,1,2,1,0] ⟨bD,gS⟩ J J)
  refine ro T 6 (eN J (rc T 9 (ar (_,_,_,_,_) [0,1,2,1,0] ⟨bD,gS⟩ J J)))
 refine rc T 12 ?_
 cases bD;refine dp [1,2] J dq (p1 T J [2,2,1,0] ⟨a23,n23,jD,gS,J,J⟩ J)
def AO.f:Option (List Int):=some []
def AO.R (r:(List Int)) (u:Value) (G:List Hp):Prop:= ∃(a0:Option Addr) (n0:Nat) (H0:Hp),aj (Fl.int .i64) 3 r a0 n0 H0/\u=(ll a0 r n0)/\G=[H0]
theorem AO.c (H:AO.f=some r):
 QR 97 [(.pointer none)] [] [] F (AO.R r):=by
 unfold AO.f at H;refine aD Tryz.func97 J J (λW=>rc T 7 (du mix ay ?_))
 iterate 14 refine au T J ?_
 refine cZ (rx T 1 (nh J (rc T 7 ?_)))
 cases H;refine bw (p1 T J [1,0] ⟨none,0,[],aj.nil,J,J⟩ J)
end
end Go.Proofs.YthodkonhneebbaaGreatDoor
