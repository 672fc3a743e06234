/- What the functions of some packages compute, each as a function of plain Lean, with its contract. No condition. -/
import Derived.Test.YthodkonhneebbaaGreatDoorKST
import Derived.Test.YthodkonhneebbaaGreatDoorKS5
import Derived.Test.YthodkonhneebbaaGreatDoorKSSort
import Derived.Test.YthodkonhneebbaaGreatDoorKS7
import Derived.Test.YthodkonhneebbaaGreatDoorKS6
namespace Go.Proofs.YthodkonhneebbaaGreatDoor
open Go.Hx
open Int renaming tmod->fC,tdiv->di,toNat->ax
open List renaming length->aa,set->aD,replicate->cy,flatten_cons->vQ,flatten_append->vP,flatten_nil->vR,append_nil->tv,append_assoc->uR,length_cons->tz
set_option maxRecDepth 100000
set_option linter.unusedSimpArgs false
set_option linter.unusedVariables false
set_option maxHeartbeats 4000000
set_option autoImplicit true
set_option relaxedAutoImplicit true
noncomputable section
def Dx.f (t:aG) (cell:Int) (side:Int):Option Bool:=if(¬t.W=0) then(if(¬t.W=0) then(if(side==0)=true then(some ((af (di cell t.W))==0)) else(if(side==1)=true then(some ((fC cell t.W)==(af (t.W-1)))) else(if(side==2)=true then(some ((af (di cell t.W))==(af (t.H-1)))) else(if(side==3)=true then(some ((fC cell t.W)==0)) else(some (side==4)))))) else none) else none
theorem Dx.c (H:Dx.f t cell side=some r) (d_:aO (Fl.int .u8) t.C iD F) (fy:aa t.C<=iE):
 QU 223 [(.agg #[(ii t.W),(ii t.H),(ll iD t.C iE)]),(ii cell),(ii side)] [] F (bb r):=by
 unfold Dx.f at H;refine aF Tryz.func223 J J (λW=>rc T 2 (nc T J (λb1=>ro T 4 (dw mix aB (au T J (au T J (cD T 1 J J J ?_)))))));obtain⟨c1,H⟩:=az H;refine bf J J J (va J J J c1) (au T J (au T J (cD T 1 J J J ?_)));obtain⟨c2,H⟩:=az H;refine bf J J J (u' J J J c2) (au T J (au T J (cO (rx T 14 (cb J H (λH=>?_) (λH=>?_))))))
 ·refine rc T 10 ?_
  cases H;exact p0 T J [0] J
 refine rc T 6 (cb J H (λH=>?_) (λH=>?_))
 ·refine rc T 4 (lf T 1 J (ro T 8 ?_))
  cases H;exact p0 T J [0] J
 refine rc T 6 (cb J H (λH=>?_) (λH=>?_))
 ·refine rc T 4 (lf T 1 J (ro T 8 ?_))
  cases H;exact p0 T J [0] J
 refine rc T 6 (cb J H (λH=>?_) (λH=>?_))
 ·refine rc T 10 ?_
  cases H;exact p0 T J [0] J
 refine rc T 11 ?_
 cases H;exact p0 T J [0] J
def Dw.f (s:aX) (ai:aG):Option Bool:=(if s.Cell<0 then(some true) else(if s.Cell≥(aa ai.C:Int) then(some true) else(if(0<=s.Cell/\s.Cell<(aa ai.C:Int)) then(if((rd ai.C s.Cell)==255)=true then(some true) else(if s.Key<0 then(some true) else(if s.Key>1073741824 then(some true) else((Dx.f ai s.Cell s.cK).bind λv3=>some (!v3))))) else none))).bind λx1=>some x1
theorem Dw.c (H:Dw.f s ai=some r) (Hf:(uV,Obj.cells #[(ii ai.W),(ii ai.H),(ll I6 ai.C KS)] 139 (0,0))∈F) (Ei:aO (Fl.int .u8) ai.C I6 F) (Rf:aa ai.C<=KS):
 QU 222 [(.agg #[(ii s.Cell),(ii s.cK),(ii s.Key)]),(pp uV)] [] F (bb r):=by
 unfold Dw.f at H;refine aF Tryz.func222 J J (λW=>rc T 2 (nc T J (λb1=>ro T 3 (mq H [] [0] (λz2 (x1:Bool)=>(x1=z2,[(3,(bb x1))],[])) J J (λz2 Z1 _=>?_) ?_))))
 ·refine rc T 2 (lf T 1 J (ro T 2 (ad 7 J Z1 (λZ1=>?_) (λZ1=>?_))))
  ·refine ro T 38 (am _ [0] (oi Z1) J J)
  refine ro T 1 (lf T 1 J (ro T 1 (lg T J (oa (j:=0) Hf J J) (ro T 4 (ad 15 J Z1 (λZ1=>?_) (λZ1=>?_))))))
  ·refine ro T 30 (am _ [0] (oi Z1) J J)
  refine ro T 1 (lg T J (oa (j:=0) Hf J J) (ro T 1 (lf T 1 J ?_)));obtain⟨c4,Z1⟩:=az Z1;obtain⟨q2,o2,e2⟩:=Ei.addr c4.1 c4.2;refine ix T J e2 c4 (le T 0 (rO Ei 0) e2 c4 J J (ro T 3 (ab 24 J Z1 (λZ1=>?_) (λZ1=>?_))))
  ·refine ro T 21 (am _ [0] (oi Z1) J J)
  refine ro T 1 (lf T 1 J (ro T 3 (ad 29 J Z1 (λZ1=>?_) (λZ1=>?_))))
  ·refine ro T 16 (am _ [0] (oi Z1) J J)
  refine ro T 1 (lf T 1 J (ro T 3 (ad 34 J Z1 (λZ1=>?_) (λZ1=>?_))))
  ·refine ro T 11 (am _ [0] (oi Z1) J J)
  refine bA J (fY T (cs:=[(ii ai.W),(ii ai.H),(ll I6 ai.C KS)]) J J J J J J (aeH (j:=0) Hf J J)) (ro T 1 (lf T 1 J (ro T 1 (lf T 1 J (k [] J ac1 Z1 (Dx.c · (rO Ei 0) Rf) (λv3 Z1=>ro T 5 (am _ [0] (oi Z1) J J)))))))
 rintro _ x1 rfl H;refine rc T 1 ?_
 cases H;exact p0 T J [0] J
def rM.l0:Nat->(List aX)->aG->Int->Option Int
 |0,_,_,_=>none
 |k3+1,s,fK,x2=>if x2<(aa s:Int) then(if(0<=x2/\x2<(aa s:Int)) then((Dw.f (rd s x2) fK).bind λv4=>if v4=true then(some x2) else(rM.l0 k3 s fK (af (x2+1)))) else none) else(some (-1))
def rM.f (s:(List aX)) (fK:aG):Option Int:=rM.l0 fuel s fK 0
theorem rM.c (H:rM.f s fK=some r) (jJ:aO cT s ja F) (ss:aa s<=jg) (CV:(Cd,Obj.cells #[(ii fK.W),(ii fK.H),(ll B8 fK.C C2)] 139 (0,0))∈F) (Cs:aO (Fl.int .u8) fK.C B8 F) (Ci:aa fK.C<=C2):
 QU 246 [(ll ja s jg),(.func (.func 222) #[] #[(pp Cd)])] [] F (ii r):=by
 unfold rM.f at H;refine aF Tryz.func246 J J (λW=>rc T 14 (lq [0,1,7] [0] (λ(⟨k3,x2⟩:Nat×Int)=>(rM.l0 k3 s fK x2=some r,[(8,(ii x2))],[])) J J (fuel,0) [0] H J J ?_));rintro k3 x2 Z1;replace Z1:rM.l0 (k3+1) s fK x2=some r:=Z1;rw[rM.l0] at Z1;refine rc T 6 (cd J Z1 (λZ1=>?_) (λZ1=>?_))
 ·refine rc T 15 ?_;obtain⟨c3,Z1⟩:=az Z1;obtain⟨q1,o1,e1⟩:=jJ.addr c3.1 c3.2;refine ix T J e1 c3 (bA J (fY T (cs:=[(ii (rd s x2).Cell),(ii (rd s x2).cK),(ii (rd s x2).Key)]) J J J J J J (iy (k:=cT) (rO jJ 0) e1 c3 J)) (k [] J ac0 Z1 (Dw.c · (qC CV (j:=0) J) (rO Cs 0) Ci) (λv4 Z1=>ro T 2 (cb J Z1 (λZ1=>?_) (λZ1=>?_)))))
  ·refine rc T 12 ?_
   cases Z1;exact p0 T J [0] J
  refine rc T 8 (ar _ [0] Z1 J J)
 refine rc T 11 ?_
 cases Z1;exact p0 T J [0] J
def E6.f (s:(List aX)) (fK:aG):Option Bool:=(rM.f s fK).bind λv1=>some (decide (v1≥0))
theorem E6.c (H:E6.f s fK=some r) (jJ:aO cT s ja F) (ss:aa s<=jg) (CV:(Cd,Obj.cells #[(ii fK.W),(ii fK.H),(ll B8 fK.C C2)] 139 (0,0))∈F) (Cs:aO (Fl.int .u8) fK.C B8 F) (Ci:aa fK.C<=C2):
 QU 221 [(ll ja s jg),(.func (.func 222) #[] #[(pp Cd)])] [] F (bb r):=by
 unfold E6.f at H;refine aF Tryz.func221 J J (λW=>rc T 9 (k [] J adi H (rM.c · (rO jJ 0) ss (qC CV (j:=0) J) (rO Cs 0) Ci) (λv1 H=>ro T 5 ?_)))
 cases H;exact p0 T J [0] J
def Ak.f (t:aG) (l:(List aX)):Option Bool:=(uH.f t).bind λv1=>if(!v1)=true then(some false) else((E6.f l t).bind λv2=>some (!v2))
theorem Ak.c (H:Ak.f t l=some r) (d_:aO (Fl.int .u8) t.C iD F) (fy:aa t.C<=iE) (dm:aO cT l gZ F) (gj:aa l<=gX):
 QU 183 [(.agg #[(ii t.W),(ii t.H),(ll iD t.C iE)]),(ll gZ l gX)] [] F (bb r):=by
 unfold Ak.f at H;refine aF Tryz.func183 J J (λW=>rc T 2 (nc T J (λb1=>ro T 6 (lm T 1 J (k [] J JX H (uH.c · (rO d_ 0) fy) (λv1 H=>ro T 3 (cb J H (λH=>?_) (λH=>?_))))))))
 ·refine rc T 7 ?_
  cases H;exact p0 T J [0] J
 refine rc T 6 (k [] J acZ H (E6.c · (rO dm 0) gj (zU (j:=1) J) (rO d_ 0) fy) (λv2 H=>ro T 5 ?_))
 cases H;exact p0 T J [0] J
def p7.f (a:aX) (b:aX):Option Int:=(tN.f a.Key b.Key).bind λv1=>(tN.f a.Cell b.Cell).bind λv2=>(tN.f a.cK b.cK).bind λv3=>(nn.f [v1,v2,v3]).bind λv4=>some v4
theorem p7.c (H:p7.f a b=some r):
 QU 209 [(.agg #[(ii a.Cell),(ii a.cK),(ii a.Key)]),(.agg #[(ii b.Cell),(ii b.cK),(ii b.Key)])] [] F (ii r):=by
 unfold p7.f at H;refine aF Tryz.func209 J J (λW=>rc T 2 (nc T J (λb1=>nc T J (λb2=>ro T 4 (ks [2,3] J (fz J (rg [] [0,0,0] mix (bH bG) (λhg pf=>ha T 17 [0] sz hg pf J (al T 1 1 sz hg pf J J J (ha T 15 [2] sz hg pf J (al T 3 2 sz hg pf J J J (ha T 13 [5] sz hg pf J (al T 6 1 sz hg pf J J J (ha T 11 [7] sz hg pf J (al T 8 2 sz hg pf J J J (ha T 9 [10] sz hg pf J (al T 11 1 sz hg pf J J J (ha T 7 [12] sz hg pf J (al T 13 2 sz hg pf J J J (ao 4 (kh [] J Nv H (tN.c ·) (λv1 H=>an sz (ao 9 (kh [] J Nv H (tN.c ·) (λv2 H=>an sz (ao 14 (kh [] J Nv H (tN.c ·) (λv3 H=>an sz (ao 15 (cW (k:=(Fl.int .i64)) T [v1,v2,v3] J J J J J J J J J (λa3 H3 s3=>an (so [0,0,0]) (ao 16 (kh [] J ada H (nn.c · (oO s3 3) s3.bZ) (λv4 H=>an (so [0,0,0]) (ha T 0 [17] (so [0,0,0]) hg pf J (ae (rx T 2 ?_)))))))))))))))))))))))))))))))))))))
 cases H;exact p0 T J [0] J
def H_.f:Option Unit:=some ()
theorem H_.c (H:H_.f=some r):
 QU 255 [nl,(ii 0),(ii 0),(.func (.func 209) #[] #[])] [] F (.tuple #[]):=by
 unfold H_.f at H;refine aF Tryz.func255 J J (λW=>rc T 8 (lu [0,1,2,3,8] [0] J J (rc T 8 (eN J (rc T 4 (jm ?_))))))
 cases H;exact p0 T J [0] J
def Ia.f (U5:Int):Option Unit:=(H_.f).bind λv1=>some ()
theorem Ia.c (H:Ia.f U5=some r):
 QU 234 [nl,(ii 0),(ii 0),(ii U5),(.func (.func 209) #[] #[])] [] F (.tuple #[]):=by
 unfold Ia.f at H;refine aF Tryz.func234 J J (λW=>rc T 11 (lu [0,1,2,3,4,10,11] [0] J J (rc T 16 (nS J (rc T 6 (k [] J ado H (H_.c ·) (λv1 H=>ro T 7 ?_)))))))
 cases H;exact p0 T J [0] J
def Lg.f:Option Unit:=(Hh.f (eZ 0)).bind λv1=>(Ia.f v1).bind λv2=>some ()
theorem Lg.c (H:Lg.f=some r):
 QU 208 [nl,(.func (.func 209) #[] #[])] [] F (.tuple #[]):=by
 unfold Lg.f at H;refine aF Tryz.func208 J J (λW=>rc T 12 (k [] J ac' H (Hh.c ·) (λv1 H=>ro T 1 (k [] J ac_ H (Ia.c ·) (λv2 H=>ro T 1 (jm ?_))))))
 cases H;exact p0 T J [0] J
def BA.f (s:(List aX)):Option (List aX):=if aa s<4611686018427387904 then some (qa (λa b=>Option.getD (p7.f a b) 0) s) else none
def BA.R (aiK:Option Addr) (ai8:Nat) (ai4:Nat) (r:List aX):bj:=λu G=> ∃(H0:Hp),aj cT 285 r aiK ai8 H0/\aa r=ai4/\u=(.tuple #[])/\G=[H0]
theorem Rq (x y:Int):tN.f x y=some (if x<y then-1 else if x>y then 1 else 0):=by
 simp[tN.f,cmp_isNaN_int.f];split
 ·rfl
 ·split<;>rfl
theorem Rr (a b c:Int):nn.f [a,b,c]=some (if a=0 then(if b=0 then c else b) else a):=by
 have e1:af (0+1)=1:=by decide
 have e2:af (1+1)=2:=by decide
 have e3:af (2+1)=3:=by decide
 unfold nn.f;rw[de,nn.l0]
 by_cases ha:a=0
 ·subst ha;simp only[tz,List.length_nil,rd,e1];rw[nn.l0]
  by_cases hb:b=0
  ·subst hb;simp only[tz,List.length_nil,rd,e2];rw[nn.l0]
   by_cases hc:c=0
   ·subst hc;simp only[tz,List.length_nil,rd,e3];rw[nn.l0];simp
   ·simp[rd,hc]
  ·simp[rd,hb]
 ·simp[rd,ha]
theorem ahZ (a b:aX): ∃v,p7.f a b=some v:=by
 unfold p7.f;simp only[Rq,Rr,Option.bind_some];exact⟨_,J⟩
theorem ahX (a b:aX):p7.f a b=some (Option.getD (p7.f a b) 0):=by
 obtain⟨v,h⟩:=ahZ a b;rw[h];rfl
theorem ahW (a b:aX):Option.getD (p7.f a b) 0=(if(if a.Key<b.Key then(-1:Int) else if a.Key>b.Key then 1 else 0)=0 then(if(if a.Cell<b.Cell then(-1:Int) else if a.Cell>b.Cell then 1 else 0)=0 then(if a.cK<b.cK then(-1:Int) else if a.cK>b.cK then 1 else 0) else(if a.Cell<b.Cell then(-1:Int) else if a.Cell>b.Cell then 1 else 0)) else(if a.Key<b.Key then(-1:Int) else if a.Key>b.Key then 1 else 0)):=by
 unfold p7.f;simp only[Rq,Rr,Option.bind_some,Option.getD_some]
theorem PC (a b:aX):Go.Proofs.ltOf (λa b=>Option.getD (p7.f a b) 0) a b=decide (a.Key<b.Key∨a.Key=b.Key/\(a.Cell<b.Cell∨a.Cell=b.Cell/\a.cK<b.cK)):=by
 unfold Go.Proofs.ltOf;simp only[ahW]
 congr 1
 apply propext;constructor
 ·intro h
  by_cases k1:a.Key<b.Key
  ·exact .inl k1
  ·by_cases k2:a.Key>b.Key
   ·simp[k1,k2] at h
   ·by_cases c1:a.Cell<b.Cell
    ·exact .inr ⟨by omega,.inl c1⟩
    ·by_cases c2:a.Cell>b.Cell
     ·simp[k1,k2,c1,c2] at h
     ·by_cases s1:a.cK<b.cK
      ·exact .inr ⟨by omega,.inr ⟨by omega,s1⟩⟩
      ·by_cases s2:a.cK>b.cK
       ·simp[k1,k2,c1,c2,s1,s2] at h
       ·simp[k1,k2,c1,c2,s1,s2] at h
 ·intro h
  by_cases k1:a.Key<b.Key
  ·simp[k1]
  ·by_cases k2:a.Key>b.Key
   ·exfalso;omega
   ·by_cases c1:a.Cell<b.Cell
    ·simp[k1,k2,c1]
    ·by_cases c2:a.Cell>b.Cell
     ·exfalso;omega
     ·have s1:a.cK<b.cK:=U;simp[k1,k2,c1,c2,s1]
theorem ahY:Go.Sort.SWO (Go.Proofs.ltOf (λa b=>Option.getD (p7.f a b) 0)) where
 irrefl x:=by rw[PC];simp
 trans x y z h1 h2:=by rw[PC] at*;simp only[decide_eq_true_eq] at*;omega
 ntrans x y z h1 h2:=by rw[PC] at*;simp only[decide_eq_false_iff_not] at*;omega
theorem aib: ∀w,(isAgg 285).run Tryz.prog w= .ok true w:=λw=>by kernel_rfl
theorem aie: ∀w,(Go.sizeOf 285).run Tryz.prog w= .ok 3 w:=λw=>by kernel_rfl
theorem BA.c {ja:Option Addr} {jg:Nat} {dJ:Hp} {s r:List aX} {F:Hp} (H:BA.f s=some r) (cR:aj cT 285 s ja jg dJ):
 QR 208 [(ll ja s jg),(.func (.func 209) #[] #[])] [dJ] [] F (BA.R ja jg (aa s) r):=by
 obtain⟨hl,H⟩:=az H;obtain rfl:=Option.some.inj H;exact aif Go.Proofs.Tryz.aic cT aib aie (λa b=>Option.getD (p7.f a b) 0) ahY 209 (Go.Proofs.enters_of Tryz.func209 aB J) (λx y F=>p7.c (F:=F) (ahX x y)) 285 (λF=>Lg.c (r:=()) (F:=F) aB) s F hl cR
def nz.f (l:(List aX)):Option (List aX):=(sZ.f l).bind λv1=>(BA.f v1).bind λv2=>(jT.f v2).bind λv3=>some v3
def nz.R (r:(List aX)):bj:=λu G=> ∃a0 n0 H0,aj cT 285 r a0 n0 H0/\u=(ll a0 r n0)/\G=[H0]
theorem nz.c (H:nz.f l=some r) (dm:aO cT l gZ F) (gj:aa l<=gX):
 QR 180 [(ll gZ l gX)] [] [] F (nz.R r):=by
 unfold nz.f at H;refine aF Tryz.func180 J J (λW=>rc T 8 (kr sZ.R [] [] J S5 H (sZ.c · (rO dm 0) gj) (λv1 H=>?_)));rintro _ _ ⟨a1,n1,H1,s1,rfl,rfl⟩;refine fz J (ro T 6 (kr (BA.R a1 n1 (aa v1)) [] [1] J acS H (BA.c · s1) (λv2 H=>?_)));rintro _ _ ⟨H2,s2,l2,rfl,rfl⟩;refine fz J (kf [] [0,0] [(0,(ll a1 v2 n1))] J J ⟨(by first |rfl |(simp only[ll,l2];rfl)),trivial⟩ (ro T 5 ?_))
 refine kr jT.R [] [1] J acT H (jT.c · s2) (λv3 H=>?_);rintro _ _ ⟨a3,n3,H3,s3,rfl,rfl⟩;refine fz J (ro T 2 (ks [2] J (rx T 2 ?_)))
 cases H;exact p1 T J [1,0] ⟨a3,n3,H3,s3,J,J⟩ J
def Bw.f (a:(List aX)) (b:(List aX)):Option Bool:=(rL.f a b).bind λv1=>some v1
theorem Bw.c (H:Bw.f a b=some r) (zB:aO cT a B4 F) (Jk:aa a<=CY) (gM:aO cT b jG F) (gz:aa b<=jy):
 QU 185 [(ll B4 a CY),(ll jG b jy)] [] F (bb r):=by
 unfold Bw.f at H;refine aF Tryz.func185 J J (λW=>rc T 9 (k [] J ac3 H (rL.c · (rO zB 0) Jk (rO gM 0) gz) (λv1 H=>ro T 4 ?_)))
 cases H;exact p0 T J [0] J
def lb.l0:Nat->(List aX)->Int->Int->Int->Bool->Int->Option Int
 |0,_,_,_,_,_,_=>none
 |k7+1,l,cell,side,x4,x5,x6=>if x6<(aa l:Int) then(if(0<=x6/\x6<(aa l:Int)) then((if((rd l x6).Cell==cell)=true then(if((rd l x6).cK==side)=true then(if(!x5)=true then(some true) else(some (decide ((rd l x6).Key<x4)))) else(some false)) else(some false)).bind λx8=>if x8=true then(lb.l0 k7 l cell side ((rd l x6).Key) true (af (x6+1))) else(lb.l0 k7 l cell side x4 x5 (af (x6+1)))) else none) else(some x4)
def lb.f (l:(List aX)) (cell:Int) (side:Int):Option Int:=lb.l0 fuel l cell side 1099511627776 false 0
theorem lb.c (H:lb.f l cell side=some r) (dm:aO cT l gZ F) (gj:aa l<=gX):
 QU 250 [(ll gZ l gX),(ii cell),(ii side)] [] F (ii r):=by
 unfold lb.f at H;refine aF Tryz.func250 J J (λW=>rc T 20 (lq [1,2,11,12] [0] (λ(⟨k7,x4,x5,x6⟩:Nat×Int×Bool×Int)=>(lb.l0 k7 l cell side x4 x5 x6=some r,[(7,(ii x4)),(8,(bb x5)),(13,(ii x6))],[])) J J (fuel,1099511627776,false,0) [0] H J J ?_));rintro k7 ⟨x4,x5,x6⟩ Z1;replace Z1:lb.l0 (k7+1) l cell side x4 x5 x6=some r:=Z1;rw[lb.l0] at Z1;refine rc T 6 (cd J Z1 (λZ1=>?_) (λZ1=>?_))
 ·refine rc T 6 ?_;obtain⟨c3,Z1⟩:=az Z1;obtain⟨q1,o1,e1⟩:=dm.addr c3.1 c3.2;refine ix T J e1 c3 (bA J (fY T (cs:=[(ii (rd l x6).Cell),(ii (rd l x6).cK),(ii (rd l x6).Key)]) J J J J J J (iy (k:=cT) (rO dm 0) e1 c3 J)) (nc T J (λb2=>sg T 1 J (ro T 2 (mq Z1 [1,2,7,8,10,11,12,13] [0,0] (λz9 (x8:Bool)=>(x8=z9,[(36,(bb x8))],[])) J J (λz9 Z4 _=>?_) ?_)))))
  ·refine rc T 2 (lf T 1 J (ro T 3 (ab 21 J Z4 (λZ4=>?_) (λZ4=>?_))))
   ·refine ro T 1 (lf T 1 J (ro T 4 (ab 27 J Z4 (λZ4=>?_) (λZ4=>?_))))
    ·refine ro T 3 (ab 30 J Z4 (λZ4=>?_) (λZ4=>?_))
     ·refine ro T 8 (am _ [0,0] (oi Z4) J J)
     refine ro T 1 (lf T 1 J (ro T 6 (am _ [0,0] (oi Z4) J J)))
    refine ro T 11 (am _ [0,0] (oi Z4) J J)
   refine ro T 17 (am _ [0,0] (oi Z4) J J)
  rintro _ x8 rfl Z1;refine cb J Z1 (λZ1=>?_) (λZ1=>?_)
  ·refine rc T 2 (lf T 1 J (ro T 10 (ar (_,_,_) [0] Z1 J J)))
  refine rc T 8 (ar (_,_,_) [0] Z1 J J)
 refine rc T 12 ?_
 cases Z1;exact p0 T J [0] J
end
noncomputable section
def ki.l0:Nat->dr->eX->List aX->Option dr
 |0,_,_,_=>none
 |sL+1,s,x9,aL=>(if(aa aL:Int)>0 then(if(0<=(0:Int)/\(0:Int)<(aa aL:Int)) then((uj.f x9 ((rd aL 0).Key) ((rd aL 0).Cell)).bind λdz=>some (dz.2,dz.1)) else none) else(some (x9,false))).bind λ(bl,aP)=>if aP=true then(if(0<=(1:Int)/\(1:Int)<=(aa aL:Int)/\(aa aL:Int)<=(aa aL:Int)) then(ki.l0 sL s bl (aA aL 1 (aa aL:Int))) else none) else(some (dr.mk s.t bl aL s.aN))
def ki.f (s:dr):Option dr:=((if(aa s.todo:Int)>0 then((wU.f s.wait).bind λv5=>some (v5==0)) else(some false)).bind λx3=>if x3=true then(if(0<=(0:Int)/\(0:Int)<(aa s.todo:Int)) then((yE.f s.wait ((rd s.todo 0).Key)).bind λv6=>some v6.2) else none) else(some s.wait)).bind λx1=>ki.l0 fuel s x1 s.todo
def ki.R (bg:Nat) (y0:Value) (Cg:List aX) (Ce:Option Addr) (Cf:Nat) (r:dr):bj:=λu G=> ∃(b0:Nat) (H0:Hp) (a1:Option Addr) (n1:Nat) (a2 n2 H2:_),kJ r.wait b0 H0/\dH cT Cg Ce Cf r.todo a1 n1/\aa r.todo<=n1/\aj (Fl.int .i64) 3 r.aN a2 n2 H2/\u=(.tuple #[])/\G=[(cl bg 369 [(ii r.t.W),(ii r.t.H),y0,(pp b0),(ll a1 r.todo n1),(ll a2 r.aN n2)]),H0,H2]
theorem ki.c (H:ki.f s=some r) (qw:aO (Fl.int .u8) s.t.C kM F) (u6:aa s.t.C<=kW) (w8:kJ s.wait pA AK) (pG:aO cT s.todo nj F) (jI:aa s.todo<=nx) (ux:aj (Fl.int .i64) 3 s.aN vV wI xq):
 QR 273 [(pp bg)] [(cl bg 369 [(ii s.t.W),(ii s.t.H),(ll kM s.t.C kW),(pp pA),(ll nj s.todo nx),(ll vV s.aN wI)]),AK,xq] [] F (ki.R bg (ll kM s.t.C kW) s.todo nj nx r):=by
 unfold ki.f at H;refine aF Tryz.func273 J J (λW=>mq H [0] [3,0,1] (λz2 (⟨x1,H4⟩:eX×Hp)=>(x1=z2/\kJ x1 pA H4,[],[H4])) J J (λz2 Z1 _=>?_) ?_)
 ·refine mq Z1 [0] [3,0,0,0] (λz4 (x3:Bool)=>(x3=z4,[(15,(bb x3))],[])) J J (λz4 Z2 _=>?_) ?_
  ·refine rc T 4 (lf T 0 J (ro T 3 (ad 8 J Z2 (λZ2=>?_) (λZ2=>?_))))
   ·refine ro T 3 (lf T 0 J (k [1] J NA Z2 (wU.c · w8) (λv5 Z2=>ro T 4 (am _ [3,0,0,0] (oi Z2) J J))))
   refine ro T 9 (am _ [3,0,0,0] (oi Z2) J J)
  rintro _ x3 rfl Z1;refine cb J Z1 (λZ1=>?_) (λZ1=>?_)
  ·refine fz J (rz [11] mix (bH bG) (λhg pf=>ha T 9 [0,1,2] sz hg pf J (al T 3 1 sz hg pf J J J (ha T 5 [4,5,6] sz hg pf J (al T 7 1 sz hg pf J J J ?_)))));obtain⟨c6,Z1⟩:=az Z1;obtain⟨q5,o5,e5⟩:=pG.addr c6.1 c6.2;refine av 8 sz hg pf J (cu T J J J J J e5 c6.1 c6.2) (ha T 2 [9] sz hg pf J (av 10 sz hg pf J (cw T J J J J (eH (k:=cT) (rO pG 0) e5 c6 2 J)) (ao 11 (kR (yE.R pA) [] [2] J adD Z1 (yE.c · w8) (λv6 Z1=>?_)))));rintro _ _ ⟨H6,s6,rfl,rfl⟩;refine fz J (an sl (ae (rx T 1 (am (_,_) [0,0,0,0] ⟨oi Z1,s6⟩ J J))))
  refine rc T 2 (am (_,_) [0,0,1,0] ⟨oi Z1,w8⟩ J J)
 rintro _ ⟨x1,H4⟩ ⟨rfl,s4⟩ H;refine rc T 1 (lq [0] [0,1] (λ(⟨sL,x9,aL,H9,cC,n10⟩:Nat×eX×List aX×Hp×Option Addr×Nat)=>(ki.l0 sL s x9 aL=some r/\kJ x9 pA H9/\dH cT s.todo nj nx aL cC n10/\aa aL<=n10,[],[(cl bg 369 [(ii s.t.W),(ii s.t.H),(ll kM s.t.C kW),(pp pA),(ll cC aL n10),(ll vV s.aN wI)]),H9])) J J (fuel,x1,s.todo,H4,nj,nx) [0,1,0,0] ⟨H,s4,dH.self,jI⟩ J J ?_);rintro sL ⟨x9,aL,H9,cC,n10⟩ ⟨Z8,s9,Ca,F0⟩;rw[ki.l0] at Z8;refine rc T 1 (mq Z8 [0] [0,1,0] (λvG (⟨bl,aP,cH⟩:eX×Bool×Hp)=>((bl,aP)=vG/\kJ bl pA cH,[(54,(bb aP))],[cH])) J J (λvG Z9 _=>?_) ?_)
 ·refine fz J (rz [25] mix (bH bG) (λhg pf=>ha T 24 [0,1,2] sz hg pf J (al T 3 2 sz hg pf J J J (ha T 20 [4,5,6] sz hg pf J (ad 34 J Z9 (λZ9=>?_) (λZ9=>?_))))))
  ·refine ha T 17 [7,8,9] sz hg pf J (al T 10 2 sz hg pf J J J (ha T 13 [11,12,13] sz hg pf J (al T 14 2 sz hg pf J J J ?_)));obtain⟨dK,Z9⟩:=az Z9;obtain⟨wL,O1,tQ⟩:=(dH.r Ca pG jI).addr dK.1 dK.2;refine av 15 sz hg pf J (cu T J J J J J tQ dK.1 dK.2) (ha T 10 [16] sz hg pf J (av 17 sz hg pf J (cw T J J J J (eH (k:=cT) (oQ Ca (rO pG 0) jI) tQ dK 2 J)) (ha T 6 [18,19,20] sz hg pf J (al T 21 2 sz hg pf J J J (av 22 sz hg pf J (cu T J J J J J tQ dK.1 dK.2) (ha T 3 [23] sz hg pf J (av 24 sz hg pf J (cw T J J J J (eH (k:=cT) (oQ Ca (rO pG 0) jI) tQ dK 0 J)) (ao 25 (kR (uj.R pA) [] [3] J Tr Z9 (uj.c · s9) (λdz Z9=>?_))))))))));rintro _ _ ⟨dI,cY,rfl,rfl⟩;refine fz J (an sl (hb T 26 sl hg pf J (ae (rx T 1 (am (_,_,_) [0,1,0,0] ⟨oi Z9,cY⟩ J J)))))
  refine ha T 2 [7,8,9,10,11,12,13,14,15,16,17,18,19,20,21,22,23,24] sz hg pf J (ao 25 (ZC J (an sl (hb T 26 sl hg pf J (ae (rx T 1 (am (_,_,_) [0,1,0,0] ⟨oi Z9,s9⟩ J J)))))))
 rintro _ ⟨bl,aP,cH⟩ ⟨rfl,cX⟩ Z8;refine cb J Z8 (λZ8=>?_) (λZ8=>?_)
 ·refine rc T 8 (lf T 1 J ?_);obtain⟨jo,Z8⟩:=az Z8;refine bA J (kS T J J J J J J jo F0) (ro T 2 (sg T 1 J (ro T 3 (ar (_,_,_,_,_) [0,1,0,0] ⟨Z8,cX,(dH.sub Ca jI jo),(mW jo F0)⟩ J J))))
 refine rc T 4 (jm ?_)
 cases Z8;exact p1 T J [1,2,1,0] ⟨pA,cH,cC,n10,vV,wI,xq,cX,Ca,F0,ux,J,J⟩ J
def lj.f (s:dr) (ai:Int) (key:Int):Option dr:=(if(0<=ai/\ai<(aa s.t.C:Int)) then(if((rd s.t.C ai)!=255)=true then(if(0<=ai/\ai<(aa s.aN:Int)) then(some ((rd s.aN ai)==1099511627776)) else none) else(some false)) else none).bind λx1=>if x1=true then((uj.f s.wait key ai).bind λv3=>some (dr.mk s.t v3.2 s.todo s.aN)) else(some s)
def lj.R (bg:Nat) (y0:Value) (Cg:List aX) (Ce:Option Addr) (Cf:Nat) (r:dr):bj:=λu G=> ∃(b0:Nat) (H0:Hp) (a1:Option Addr) (n1:Nat) (a2 n2 H2:_),kJ r.wait b0 H0/\dH cT Cg Ce Cf r.todo a1 n1/\aa r.todo<=n1/\aj (Fl.int .i64) 3 r.aN a2 n2 H2/\u=(.tuple #[])/\G=[(cl bg 369 [(ii r.t.W),(ii r.t.H),y0,(pp b0),(ll a1 r.todo n1),(ll a2 r.aN n2)]),H0,H2]
theorem lj.c (H:lj.f s ai key=some r) (qw:aO (Fl.int .u8) s.t.C kM F) (u6:aa s.t.C<=kW) (w8:kJ s.wait pA AK) (pG:aO cT s.todo nj F) (jI:aa s.todo<=nx) (ux:aj (Fl.int .i64) 3 s.aN vV wI xq):
 QR 294 [(pp bg),(ii ai),(ii key)] [(cl bg 369 [(ii s.t.W),(ii s.t.H),(ll kM s.t.C kW),(pp pA),(ll nj s.todo nx),(ll vV s.aN wI)]),AK,xq] [] F (lj.R bg (ll kM s.t.C kW) s.todo nj nx r):=by
 unfold lj.f at H;refine aF Tryz.func294 J J (λW=>mq H [0,1,2] [3,0,0,0] (λz2 (x1:Bool)=>(x1=z2,[(24,(bb x1))],[])) J J (λz2 Z1 _=>?_) ?_)
 ·refine rc T 5 (lf T 0 J (ro T 1 ?_));obtain⟨c2,Z1⟩:=az Z1;obtain⟨q4,o4,e4⟩:=qw.addr c2.1 c2.2;refine ix T J e4 c2 (le T 0 (rO qw 3) e4 c2 J J (ro T 2 (ab 15 J Z1 (λZ1=>?_) (λZ1=>?_))))
  ·refine ro T 3 (lf T 0 J (ro T 1 ?_));obtain⟨c4,Z1⟩:=az Z1;obtain⟨q5,o5,e5⟩:=ux.r.addr c4.1 c4.2;refine ix T J e5 c4 (le T 0 (oO ux 2) e5 c4 J J (ro T 4 (am _ [3,0,0,0] (oi Z1) J J)))
  refine ro T 11 (am _ [3,0,0,0] (oi Z1) J J)
 rintro _ x1 rfl H;refine cb J H (λH=>?_) (λH=>?_)
 ·refine rc T 4 (lf T 1 J (ro T 2 (kr (uj.R pA) [] [2] J Tr H (uj.c · w8) (λv3 H=>?_))));rintro _ _ ⟨H6,s6,rfl,rfl⟩;refine fz J (ro T 1 (jm ?_))
  cases H;exact p1 T J [1,2,1,0] ⟨pA,H6,nj,nx,vV,wI,xq,s6,dH.self,jI,ux,J,J⟩ J
 refine rc T 1 (jm ?_)
 cases H;exact p1 T J [1,1,1,0] ⟨pA,AK,nj,nx,vV,wI,xq,w8,dH.self,jI,ux,J,J⟩ J
def yQ.f (s:dr) (ai:Int):Option dr:=if(0<=ai/\ai<(aa s.aN:Int)) then(if(0<=ai/\ai<(aa s.t.C:Int)) then(if(¬s.t.W=0) then(if(¬s.t.W=0) then((if(af (di ai s.t.W))>0 then((lj.f s (af (ai-s.t.W)) (af ((rd s.aN ai)+(af (rd s.t.C ai))))).bind λv7=>some (v7.t.W,v7.t.H,v7.wait,v7.todo,v7.aN)) else(some (s.t.W,s.t.H,s.wait,s.todo,s.aN))).bind λ(x1,x2,x3,x4,x5)=>(if(fC ai s.t.W)<(af (x1-1)) then((lj.f (dr.mk (aG.mk x1 x2 s.t.C) x3 x4 x5) (af (ai+1)) (af ((rd s.aN ai)+(af (rd s.t.C ai))))).bind λdT=>some (dT.t.W,dT.t.H,dT.wait,dT.todo,dT.aN)) else(some (x1,x2,x3,x4,x5))).bind λ(x8,x9,aL,a_,bl)=>if(af (di ai s.t.W))<(af (x9-1)) then((lj.f (dr.mk (aG.mk x8 x9 s.t.C) aL a_ bl) (af (ai+x8)) (af ((rd s.aN ai)+(af (rd s.t.C ai))))).bind λdz=>if(fC ai s.t.W)>0 then((lj.f (dr.mk (aG.mk dz.t.W dz.t.H s.t.C) dz.wait dz.todo dz.aN) (af (ai-1)) (af ((rd s.aN ai)+(af (rd s.t.C ai))))).bind λdZ=>some (dr.mk (aG.mk dZ.t.W dZ.t.H s.t.C) dZ.wait dZ.todo dZ.aN)) else(some (dr.mk (aG.mk dz.t.W dz.t.H s.t.C) dz.wait dz.todo dz.aN))) else(if(fC ai s.t.W)>0 then((lj.f (dr.mk (aG.mk x8 x9 s.t.C) aL a_ bl) (af (ai-1)) (af ((rd s.aN ai)+(af (rd s.t.C ai))))).bind λv17=>some (dr.mk (aG.mk v17.t.W v17.t.H s.t.C) v17.wait v17.todo v17.aN)) else(some (dr.mk (aG.mk x8 x9 s.t.C) aL a_ bl)))) else none) else none) else none) else none
def yQ.R (bg:Nat) (y0:Value) (Cg:List aX) (Ce:Option Addr) (Cf:Nat) (r:dr):bj:=λu G=> ∃(b0:Nat) (H0:Hp) (a1:Option Addr) (n1:Nat) (a2 n2 H2:_),kJ r.wait b0 H0/\dH cT Cg Ce Cf r.todo a1 n1/\aa r.todo<=n1/\aj (Fl.int .i64) 3 r.aN a2 n2 H2/\u=(.tuple #[])/\G=[(cl bg 369 [(ii r.t.W),(ii r.t.H),y0,(pp b0),(ll a1 r.todo n1),(ll a2 r.aN n2)]),H0,H2]
theorem yQ.c (H:yQ.f s ai=some r) (qw:aO (Fl.int .u8) s.t.C kM F) (u6:aa s.t.C<=kW) (w8:kJ s.wait pA AK) (pG:aO cT s.todo nj F) (jI:aa s.todo<=nx) (ux:aj (Fl.int .i64) 3 s.aN vV wI xq):
 QR 276 [(pp bg),(ii ai)] [(cl bg 369 [(ii s.t.W),(ii s.t.H),(ll kM s.t.C kW),(pp pA),(ll nj s.todo nx),(ll vV s.aN wI)]),AK,xq] [] F (yQ.R bg (ll kM s.t.C kW) s.todo nj nx r):=by
 unfold yQ.f at H;refine aF Tryz.func276 J J (λW=>rc T 1 (dw mix aB (au T J (au T J (au T J (cD T 0 J J J (au T J ?_)))))));obtain⟨c1,H⟩:=az H;obtain⟨q4,o4,e4⟩:=ux.r.addr c1.1 c1.2;refine bf J J J (cu T J J J J J e4 c1.1 c1.2) (bf J J J (cw T J J J J (eH (k:=(Fl.int .i64)) (oO ux 2) e4 c1 0 J)) ?_)
 iterate 4 refine au T J ?_
 refine cD T 0 J J J (au T J ?_);obtain⟨c2,H⟩:=az H;obtain⟨q5,o5,e5⟩:=qw.addr c2.1 c2.2;refine bf J J J (cu T J J J J J e5 c2.1 c2.2) (bf J J J (cw T J J J J (eH (k:=(Fl.int .u8)) (rO qw 3) e5 c2 0 J)) (au T J (au T J (au T J (cO (rx T 2 (dw mix aB ?_)))))))
 iterate 5 refine au T J ?_
 refine cD T 0 J J J ?_;obtain⟨c3,H⟩:=az H;refine bf J J J (va J J J c3) ?_
 iterate 5 refine au T J ?_
 refine cD T 0 J J J ?_;obtain⟨c4,H⟩:=az H;refine bf J J J (u' J J J c4) (au T J (au T J (cO (rx T 1 (mq H [0,1,4,5,6] [3] (λz6 (⟨x1,x2,x3,x4,x5,b6,H6,a7,n7,a8,n8,H8⟩:Int×Int×eX×List aX×List Int×Nat×Hp×Option Addr×Nat×Option Addr×Nat×Hp)=>((x1,x2,x3,x4,x5)=z6/\kJ x3 b6 H6/\dH cT s.todo nj nx x4 a7 n7/\aa x4<=n7/\aj (Fl.int .i64) 3 x5 a8 n8 H8,[],[(cl bg 369 [(ii x1),(ii x2),(ll kM s.t.C kW),(pp b6),(ll a7 x4 n7),(ll a8 x5 n8)]),H6,H8])) J J (λz6 Z5 _=>?_) ?_)))))
 ·refine rc T 6 (cd J Z5 (λZ5=>?_) (λZ5=>?_))
  ·refine rc T 7 (lf T 0 J (ro T 2 (kr (lj.R bg (ll kM s.t.C kW) s.todo nj nx) [] [0,0,0] J Gz Z5 (lj.c · (rO qw 0) u6 w8 (rO pG 0) jI ux) (λv7 Z5=>?_))));rintro _ _ ⟨b9,H9,cC,n10,dj,n11,cH,s9,Ca,F0,cX,rfl,rfl⟩;refine fz J (ro T 2 (am (_,_,_,_,_,_,_,_,_,_,_,_) [0,0,0,0] ⟨oi Z5,s9,Ca,F0,cX⟩ J J))
  refine rc T 2 (am (_,_,_,_,_,_,_,_,_,_,_,_) [3,0,0,0] ⟨oi Z5,w8,dH.self,jI,ux⟩ J J)
 rintro _ ⟨x1,x2,x3,x4,x5,b6,H6,a7,n7,a8,n8,H8⟩ ⟨rfl,s6,Mk,Rc,s8⟩ H;refine mq H [0,1,4,5,6] [0] (λIC (⟨x8,x9,aL,a_,bl,lv,dq,dh,n13,gU,n14,fp⟩:Int×Int×eX×List aX×List Int×Nat×Hp×Option Addr×Nat×Option Addr×Nat×Hp)=>((x8,x9,aL,a_,bl)=IC/\kJ aL lv dq/\dH cT s.todo nj nx a_ dh n13/\aa a_<=n13/\aj (Fl.int .i64) 3 bl gU n14 fp,[],[(cl bg 369 [(ii x8),(ii x9),(ll kM s.t.C kW),(pp lv),(ll dh a_ n13),(ll gU bl n14)]),dq,fp])) J J (λIC Z8 _=>?_) ?_
 ·refine rc T 7 (lf T 1 J (ro T 4 (cd J Z8 (λZ8=>?_) (λZ8=>?_))))
  ·refine rc T 5 (kr (lj.R bg (ll kM s.t.C kW) x4 a7 n7) [] [1,1,1] J Gz Z8 (lj.c (s:=(dr.mk (aG.mk x1 x2 s.t.C) x3 x4 x5)) · (rO qw 0) u6 s6 (oQ Mk (rO pG 0) jI) Rc s8) (λdT Z8=>?_));rintro _ _ ⟨oP,dP,iu,n16,a17,n17,eU,dS,ZR,aah,fL,rfl,rfl⟩;refine fz J (ro T 2 (am (_,_,_,_,_,_,_,_,_,_,_,_) [0,0,0,0] ⟨oi Z8,dS,(dH.trans Mk jI ZR),aah,fL⟩ J J))
  refine rc T 2 (am (_,_,_,_,_,_,_,_,_,_,_,_) [0,0,0,0] ⟨oi Z8,s6,Mk,Rc,s8⟩ J J)
 rintro _ ⟨x8,x9,aL,a_,bl,lv,dq,dh,n13,gU,n14,fp⟩ ⟨rfl,dE,Cb,Jh,fT⟩ H;refine rc T 8 (lf T 1 J (ro T 4 (cd J H (λH=>?_) (λH=>?_))))
 ·refine rc T 7 (lf T 1 J (ro T 2 (kr (lj.R bg (ll kM s.t.C kW) a_ dh n13) [] [1,1,1] J Gz H (lj.c (s:=(dr.mk (aG.mk x8 x9 s.t.C) aL a_ bl)) · (rO qw 0) u6 dE (oQ Cb (rO pG 0) jI) Jh fT) (λdz H=>?_))));rintro _ _ ⟨qi,fv,ma,n19,a20,n20,nI,fM,Mi,Q_,lL,rfl,rfl⟩;refine fz J (ro T 8 (cd J H (λH=>?_) (λH=>?_)))
  ·refine rc T 5 (kr (lj.R bg (ll kM s.t.C kW) dz.todo ma n19) [] [1,1,1] J Gz H (lj.c (s:=(dr.mk (aG.mk dz.t.W dz.t.H s.t.C) dz.wait dz.todo dz.aN)) · (rO qw 0) u6 fM (oQ Mi (oQ Cb (rO pG 0) jI) Jh) Q_ lL) (λdZ H=>?_));rintro _ _ ⟨Cc,ln,a22,n22,a23,n23,jC,jA,ZU,aak,gD,rfl,rfl⟩;refine fz J (ro T 1 (jm ?_))
   cases H;exact p1 T J [1,1,1,0] ⟨Cc,ln,a22,n22,a23,n23,jC,jA,(dH.trans (dH.trans Cb jI Mi) jI ZU),aak,gD,J,J⟩ J
  refine rc T 1 (jm ?_)
  cases H;exact p1 T J [1,1,1,0] ⟨qi,fv,ma,n19,a20,n20,nI,fM,(dH.trans Cb jI Mi),Q_,lL,J,J⟩ J
 refine rc T 8 (cd J H (λH=>?_) (λH=>?_))
 ·refine rc T 5 (kr (lj.R bg (ll kM s.t.C kW) a_ dh n13) [] [1,1,1] J Gz H (lj.c (s:=(dr.mk (aG.mk x8 x9 s.t.C) aL a_ bl)) · (rO qw 0) u6 dE (oQ Cb (rO pG 0) jI) Jh fT) (λv17 H=>?_));rintro _ _ ⟨FW,qZ,a25,n25,a26,n26,po,kZ,ZW,aal,ot,rfl,rfl⟩;refine fz J (ro T 1 (jm ?_))
  cases H;exact p1 T J [1,1,1,0] ⟨FW,qZ,a25,n25,a26,n26,po,kZ,(dH.trans Cb jI ZW),aal,ot,J,J⟩ J
 refine rc T 1 (jm ?_)
 cases H;exact p1 T J [1,1,1,0] ⟨lv,dq,dh,n13,gU,n14,fp,dE,Cb,Jh,fT,J,J⟩ J
def oA.l0:Nat->dr->Int->Int->eX->List aX->List Int->Option dr
 |0,_,_,_,_,_,_=>none
 |GZ+1,s,x7,x8,x9,aL,a_=>(wU.f x9).bind λlP=>if lP>0 then((pd.f x9).bind λdT=>if(0<=dT.2.1/\dT.2.1<(aa a_:Int)) then(if((rd a_ dT.2.1)==1099511627776)=true then((yQ.f (dr.mk (aG.mk x7 x8 s.t.C) dT.2.2.2 aL (aD a_ (ax dT.2.1) dT.1)) dT.2.1).bind λdz=>(ki.f (dr.mk (aG.mk dz.t.W dz.t.H s.t.C) dz.wait dz.todo dz.aN)).bind λdZ=>oA.l0 GZ s dZ.t.W dZ.t.H dZ.wait dZ.todo dZ.aN) else((ki.f (dr.mk (aG.mk x7 x8 s.t.C) dT.2.2.2 aL a_)).bind λv17=>oA.l0 GZ s v17.t.W v17.t.H v17.wait v17.todo v17.aN)) else none) else(some (dr.mk (aG.mk x7 x8 s.t.C) x9 aL a_))
def oA.f (s:dr):Option dr:=(ki.f s).bind λv1=>oA.l0 fuel s v1.t.W v1.t.H v1.wait v1.todo v1.aN
def oA.R (bg:Nat) (y0:Value) (Cg:List aX) (Ce:Option Addr) (Cf:Nat) (r:dr):bj:=λu G=> ∃(b0:Nat) (H0:Hp) (a1:Option Addr) (n1:Nat) (a2 n2 H2:_),kJ r.wait b0 H0/\dH cT Cg Ce Cf r.todo a1 n1/\aa r.todo<=n1/\aj (Fl.int .i64) 3 r.aN a2 n2 H2/\u=(.tuple #[])/\G=[(cl bg 369 [(ii r.t.W),(ii r.t.H),y0,(pp b0),(ll a1 r.todo n1),(ll a2 r.aN n2)]),H0,H2]
theorem oA.c (H:oA.f s=some r) (qw:aO (Fl.int .u8) s.t.C kM F) (u6:aa s.t.C<=kW) (w8:kJ s.wait pA AK) (pG:aO cT s.todo nj F) (jI:aa s.todo<=nx) (ux:aj (Fl.int .i64) 3 s.aN vV wI xq):
 QR 249 [(pp bg)] [(cl bg 369 [(ii s.t.W),(ii s.t.H),(ll kM s.t.C kW),(pp pA),(ll nj s.todo nx),(ll vV s.aN wI)]),AK,xq] [] F (oA.R bg (ll kM s.t.C kW) s.todo nj nx r):=by
 unfold oA.f at H;refine aF Tryz.func249 J J (λW=>rc T 3 (kr (ki.R bg (ll kM s.t.C kW) s.todo nj nx) [] [0,0,0] J Nz H (ki.c · (rO qw 0) u6 w8 (rO pG 0) jI ux) (λv1 H=>?_)));rintro _ _ ⟨b4,H4,a5,n5,a6,n6,H6,s4,FY,Rb,s6,rfl,rfl⟩;refine fz J (ro T 3 (lq [0] [0] (λ(⟨GZ,x7,x8,x9,aL,a_,gh,bT,dj,n11,a12,n12,dq⟩:Nat×Int×Int×eX×List aX×List Int×Nat×Hp×Option Addr×Nat×Option Addr×Nat×Hp)=>(oA.l0 GZ s x7 x8 x9 aL a_=some r/\kJ x9 gh bT/\dH cT s.todo nj nx aL dj n11/\aa aL<=n11/\aj (Fl.int .i64) 3 a_ a12 n12 dq,[],[(cl bg 369 [(ii x7),(ii x8),(ll kM s.t.C kW),(pp gh),(ll dj aL n11),(ll a12 a_ n12)]),bT,dq])) J J (fuel,v1.t.W,v1.t.H,v1.wait,v1.todo,v1.aN,b4,H4,a5,n5,a6,n6,H6) [0,0,0,0] ⟨H,s4,FY,Rb,s6⟩ J J ?_));rintro GZ ⟨x7,x8,x9,aL,a_,gh,bT,dj,n11,a12,n12,dq⟩ ⟨Z2,bL,zm,AW,dE⟩;rw[oA.l0] at Z2;refine rc T 6 (lf T 1 J (k [2] J NA Z2 (wU.c · bL) (λlP Z2=>ro T 3 (cd J Z2 (λZ2=>?_) (λZ2=>?_)))))
 ·refine rc T 9 (lf T 1 J (kr (pd.R gh) [] [2] J adv Z2 (pd.c · bL) (λdT Z2=>?_)));rintro _ _ ⟨dI,cY,rfl,rfl⟩;refine fz J (ro T 14 (lf T 1 J (ro T 1 ?_)));obtain⟨c6,Z2⟩:=az Z2;obtain⟨q14,o14,Cj⟩:=dE.r.addr c6.1 c6.2;refine ix T J Cj c6 (le T 0 (oO dE 2) Cj c6 J J (ro T 3 (cb J Z2 (λZ2=>?_) (λZ2=>?_))))
  ·refine rc T 5 (lf T 1 J (ro T 2 (ix T J Cj c6 (aV (jZ (k:=(Fl.int .i64)) T 2 0 dT.1 J J J J J J dE Cj c6 J J J (λdP dS=>kg [0,3] [0,1,1] [0,1,1,0] [] [(cl bg 369 [(ii x7),(ii x8),(ll kM s.t.C kW),(pp gh),(ll dj aL n11),(ll a12 (aD a_ (ax dT.2.1) dT.1) n12)])] J J trivial dB (ro T 5 (kr (yQ.R bg (ll kM s.t.C kW) aL dj n11) [] [3,2,1] J adw Z2 (yQ.c (s:=(dr.mk (aG.mk x7 x8 s.t.C) dT.2.2.2 aL (aD a_ (ax dT.2.1) dT.1))) · (rO qw 0) u6 cY (oQ zm (rO pG 0) jI) AW dS) (λdz Z2=>?_)))))))));rintro _ _ ⟨ri,ft,a17,n17,jl,n18,fv,eB,QZ,aai,fM,rfl,rfl⟩;refine fz J (ro T 1 (ks [0] J (rx T 4 (kr (ki.R bg (ll kM s.t.C kW) dz.todo a17 n17) [] [1,1,1] J Nz Z2 (ki.c (s:=(dr.mk (aG.mk dz.t.W dz.t.H s.t.C) dz.wait dz.todo dz.aN)) · (rO qw 0) u6 eB (oQ QZ (oQ zm (rO pG 0) jI) AW) aai fM) (λdZ Z2=>?_)))));rintro _ _ ⟨ZS,kH,a20,n20,a21,n21,ln,gP,ZT,aaj,jA,rfl,rfl⟩;refine fz J (ro T 2 (ar (_,_,_,_,_,_,_,_,_,_,_,_) [0,0,0,0] ⟨Z2,gP,(dH.trans (dH.trans zm jI QZ) jI ZT),aaj,jA⟩ J J))
  refine rc T 5 (kr (ki.R bg (ll kM s.t.C kW) aL dj n11) [] [1,2,1] J Nz Z2 (ki.c (s:=(dr.mk (aG.mk x7 x8 s.t.C) dT.2.2.2 aL a_)) · (rO qw 0) u6 cY (oQ zm (rO pG 0) jI) AW dE) (λv17 Z2=>?_));rintro _ _ ⟨ly,mz,a23,n23,a24,n24,qZ,iz,Q1,Ra,kZ,rfl,rfl⟩;refine fz J (ro T 2 (ar (_,_,_,_,_,_,_,_,_,_,_,_) [0,0,0,0] ⟨Z2,iz,(dH.trans zm jI Q1),Ra,kZ⟩ J J))
 refine rc T 4 (jm ?_)
 cases Z2;exact p1 T J [1,1,1,0] ⟨gh,bT,dj,n11,a12,n12,dq,bL,zm,AW,dE,J,J⟩ J
def uG.f (t:aG) (l:(List aX)):Option ((List Int)×Int):=(Ak.f t l).bind λv1=>if(!v1)=true then(some ([],1)) else(((wT.f 0).bind λv9=>dM v9 (none) (λXM=>(nz.f l).bind λv10=>(kD.f [1099511627776] (aa t.C:Int)).bind λv11=>some (t.W,t.H,t.C,XM,v10,v11))).bind λ(x2,x3,x4,x5,x6,x7)=>(oA.f (dr.mk (aG.mk x2 x3 x4) x5 x6 x7)).bind λv17=>some (v17.aN,0))
def uG.R (r:((List Int)×Int)):bj:=λu G=> ∃a0 n0 H0,aj (Fl.int .i64) 3 r.1 a0 n0 H0/\u=(.tuple #[(ll a0 r.1 n0),(ii r.2)])/\G=[H0]
theorem uG.c (H:uG.f t l=some r) (d_:aO (Fl.int .u8) t.C iD F) (fy:aa t.C<=iE) (dm:aO cT l gZ F) (gj:aa l<=gX):
 QR 228 [(.agg #[(ii t.W),(ii t.H),(ll iD t.C iE)]),(ll gZ l gX)] [] [] F (uG.R r):=by
 unfold uG.f at H;refine aF Tryz.func228 J J (λW=>rc T 2 (nc T J (λb1=>ro T 7 (lm T 1 J (ro T 1 (k [] J S3 H (Ak.c · (rO d_ 0) fy (rO dm 0) gj) (λv1 H=>ro T 3 (cb J H (λH=>?_) (λH=>?_)))))))))
 ·refine rc T 8 ?_
  cases H;refine bz (p1 T J [2,0] ⟨none,0,[],aj.nil,J,J⟩ J)
 refine rc T 2 (mq H [] [0] (λz8 (⟨x2,x3,x4,x5,x6,x7,b3,a4,n4,b5,H5,a6,n6,H6,a7,n7,H7⟩:Int×Int×List Int×eX×List aX×List Int×Nat×Option Addr×Nat×Nat×Hp×Option Addr×Nat×Hp×Option Addr×Nat×Hp)=>((x2,x3,x4,x5,x6,x7)=z8/\dH (Fl.int .u8) t.C iD iE x4 a4 n4/\aa x4<=n4/\kJ x5 b5 H5/\aj cT 285 x6 a6 n6 H6/\aj (Fl.int .i64) 3 x7 a7 n7 H7,[(6,(pp b3))],[(cl b3 369 [(ii x2),(ii x3),(ll a4 x4 n4),(pp b5),(ll a6 x6 n6),(ll a7 x7 n7)]),H5,H6,H7])) J J (λz8 Z3 _=>?_) ?_)
 ·refine ks [1,2] J (fz J (rz [] mix (bH bG) (λhg pf=>av 0 sz hg pf J (gA T 1 J J J J J J J) (ha T 9 [2,5] sz hg pf J (al T 6 1 sz hg pf J J J (ha T 7 [7] sz hg pf J (gK 1 4 ?_ ?_)))))))
  ·refine kR wT.R [] [] J Tk Z3 (wT.c ·) (λv9 Z3=>?_);rintro _ _ ⟨_,_,O5,rfl,rfl⟩;rcases v9 with _ |XM
   ·replace Z3:=fj J Z3
    cases Z3
   replace Z3:=fk J Z3;obtain⟨b8,H8,s8,rfl,rfl⟩:=O5;refine an (so [0,0]) (gK 3 4 ?_ ?_)
   ·refine kR nz.R [] [] J Gx Z3 (nz.c · (rO dm 0) gj) (λv10 Z3=>?_);rintro _ _ ⟨a9,n9,H9,s9,rfl,rfl⟩;refine fz J (an (so [0,0]) (ao 4 (cW (k:=(Fl.int .i64)) T [1099511627776] J J J J J J J J J (λcC bT bL=>an (so [0,0]) (ao 8 (kR kD.R [] [] J Nx Z3 (kD.c · (oO bL 4) bL.bZ) (λv11 Z3=>?_)))))));rintro _ _ ⟨dj,n11,cH,cX,rfl,rfl⟩;refine fz J (an (so [0,0]) (ha T 2 [9] (so [0,0]) hg pf J (ao 10 (nw T J (λlv=>an (so [0,0]) (ha T 0 [11] (so [0,0]) hg pf J (ae (rx T 1 (am (_,_,_,_,_,_,_,_,_,_,_,_,_,_,_,_,_) [0,5,1,1,2] ⟨oi Z3,dH.self,fy,s8,s9,cX⟩ J J)))))))))
   refine cW (k:=(Fl.int .i64)) T [1099511627776] J J J J J J J J J (λdh dI cY=>an (so [0,0]) (ao 3 (kR nz.R [] [] J Gx Z3 (nz.c · (rO dm 0) gj) (λv12 Z3=>?_))));rintro _ _ ⟨gU,n14,fp,fT,rfl,rfl⟩;refine fz J (an (so [0,0]) (ao 8 (kR kD.R [] [] J Nx Z3 (kD.c · (oO cY 3) cY.bZ) (λlP Z3=>?_))));rintro _ _ ⟨jX,n15,dP,dS,rfl,rfl⟩;refine fz J (an (so [0,0]) (ha T 2 [9] (so [0,0]) hg pf J (ao 10 (nw T J (λri=>an (so [0,0]) (ha T 0 [11] (so [0,0]) hg pf J (ae (rx T 1 (am (_,_,_,_,_,_,_,_,_,_,_,_,_,_,_,_,_) [0,5,1,2,2] ⟨oi Z3,dH.self,fy,s8,fT,dS⟩ J J)))))))))
  refine cW (k:=(Fl.int .i64)) T [1099511627776] J J J J J J J J J (λa17 eU fL=>an (so [0,0]) (ao 1 (kR wT.R [] [] J Tk Z3 (wT.c ·) (λdT Z3=>?_))));rintro _ _ ⟨_,_,XY,rfl,rfl⟩;rcases dT with _ |ajU
  ·replace Z3:=fj J Z3
   cases Z3
  replace Z3:=fk J Z3;obtain⟨qi,fv,fM,rfl,rfl⟩:=XY;refine an (so [0,0]) (ao 3 (kR nz.R [] [] J Gx Z3 (nz.c · (rO dm 0) gj) (λdz Z3=>?_)));rintro _ _ ⟨ma,n19,kH,gP,rfl,rfl⟩;refine fz J (an (so [0,0]) (ao 8 (kR kD.R [] [] J Nx Z3 (kD.c · (oO fL 2) fL.bZ) (λdZ Z3=>?_))));rintro _ _ ⟨a20,n20,nI,lL,rfl,rfl⟩;refine fz J (an (so [0,0]) (ha T 2 [9] (so [0,0]) hg pf J (ao 10 (nw T J (λCc=>an (so [0,0]) (ha T 0 [11] (so [0,0]) hg pf J (ae (rx T 1 (am (_,_,_,_,_,_,_,_,_,_,_,_,_,_,_,_,_) [0,5,2,2,2] ⟨oi Z3,dH.self,fy,fM,gP,lL⟩ J J)))))))))
 rintro _ ⟨x2,x3,x4,x5,x6,x7,b3,a4,n4,b5,H5,a6,n6,H6,a7,n7,H7⟩ ⟨rfl,ZY,c4_,s5,s6,s7⟩ H;refine rc T 3 (kr (oA.R b3 (ll a4 x4 n4) x6 a6 n6) [] [1,1,2] J adj H (oA.c (s:=(dr.mk (aG.mk x2 x3 x4) x5 x6 x7)) · (oQ ZY (rO d_ 0) fy) c4_ s5 (oO s6 1) s6.bZ s7) (λv17 H=>?_));rintro _ _ ⟨ly,mz,a23,n23,a24,n24,qZ,iz,Q1,Ra,kZ,rfl,rfl⟩;refine fz J (ro T 7 (lf T 2 J (ro T 5 ?_)))
 cases H;exact p1 T J [4,0] ⟨a24,n24,qZ,kZ,J,J⟩ J
end
noncomputable section
def qP.l0:Nat->aG->(List Int)->Int->Option Bool
 |0,_,_,_=>none
 |k3+1,t,l,x2=>if x2<(aa l:Int) then(if(0<=x2/\x2<(aa l:Int)) then((BJ.f t (rd l x2)).bind λv4=>(if((v4==0)||(v4==255))=true then(some true) else(if x2>0 then(if(0<=(af (x2-1))/\(af (x2-1))<(aa l:Int)) then(some (decide ((rd l x2)<=(rd l (af (x2-1)))))) else none) else(some false))).bind λx5=>if x5=true then(some false) else(qP.l0 k3 t l (af (x2+1)))) else none) else((uH.f t).bind λv7=>some v7)
def qP.f (t:aG) (l:(List Int)):Option Bool:=qP.l0 fuel t l 0
theorem qP.c (H:qP.f t l=some r) (d_:aO (Fl.int .u8) t.C iD F) (fy:aa t.C<=iE) (dm:aO (Fl.int .i64) l gZ F) (gj:aa l<=gX):
 QU 266 [(.agg #[(ii t.W),(ii t.H),(ll iD t.C iE)]),(ll gZ l gX)] [] F (bb r):=by
 unfold qP.f at H;refine aF Tryz.func266 J J (λW=>rc T 2 (nc T J (λb1=>ro T 12 (lq [1,2,8,9] [0,0] (λ(⟨k3,x2⟩:Nat×Int)=>(qP.l0 k3 t l x2=some r,[(10,(ii x2))],[])) J J (fuel,0) [0,0] H J J ?_))));rintro k3 x2 Z1;replace Z1:qP.l0 (k3+1) t l x2=some r:=Z1;rw[qP.l0] at Z1;refine rc T 6 (cd J Z1 (λZ1=>?_) (λZ1=>?_))
 ·refine rc T 7 ?_;obtain⟨c3,Z1⟩:=az Z1;obtain⟨q2,o2,e2⟩:=dm.addr c3.1 c3.2;refine ix T J e2 c3 (le T 0 (rO dm 0) e2 c3 J J (ro T 6 (lm T 1 J (ro T 1 (k [] J adA Z1 (BJ.c · (rO d_ 0) fy) (λv4 Z1=>ro T 3 (mq Z1 [1,2,8,9,10] [0,0] (λz6 (x5:Bool)=>(x5=z6,[(36,(bb x5))],[])) J J (λz6 Z5 _=>?_) ?_)))))))
  ·refine rc T 4 (go T [3,4,5] 20 [1,2,5,6,8,9,10] 23 J J J J J J J (ro T 1 (ab 24 J Z5 (λZ5=>?_) (λZ5=>?_))))
   ·refine ro T 14 (am _ [0,0] (oi Z5) J J)
   refine ro T 3 (ad 27 J Z5 (λZ5=>?_) (λZ5=>?_))
   ·refine ro T 4 ?_;obtain⟨c8,Z5⟩:=az Z5;refine ix T J e2 c8 (le T 0 (rO dm 0) e2 c8 J J (ro T 5 (am _ [0,0] (oi Z5) J J)))
   refine ro T 11 (am _ [0,0] (oi Z5) J J)
  rintro _ x5 rfl Z1;refine cb J Z1 (λZ1=>?_) (λZ1=>?_)
  ·refine rc T 11 ?_
   cases Z1;exact p0 T J [0] J
  refine rc T 8 (ar _ [0,0] Z1 J J)
 refine rc T 7 (lm T 1 J (k [] J JX Z1 (uH.c · (rO d_ 0) fy) (λv7 Z1=>ro T 4 ?_)))
 cases Z1;exact p0 T J [0] J
def yR.f (t:aG) (ai:Int):Option ((List Int)×Int):=(uG.f t [(aX.mk ai 4 0)]).bind λv1=>some (v1.1,v1.2)
def yR.R (r:((List Int)×Int)):bj:=λu G=> ∃a0 n0 H0,aj (Fl.int .i64) 3 r.1 a0 n0 H0/\u=(.tuple #[(ll a0 r.1 n0),(ii r.2)])/\G=[H0]
theorem yR.c (H:yR.f t ai=some r) (d_:aO (Fl.int .u8) t.C iD F) (fy:aa t.C<=iE):
 QR 267 [(.agg #[(ii t.W),(ii t.H),(ll iD t.C iE)]),(ii ai)] [] [] F (yR.R r):=by
 unfold yR.f at H;refine aF Tryz.func267 J J (λW=>rc T 2 (nc T J (λb1=>ro T 6 (lm T 1 J (ro T 2 (aV (cW (k:=cT) T [(aX.mk ai 4 0)] J J J J J J J J J (λa2 H2 s2=>kr uG.R [] [] J Th H (uG.c (l:=[(aX.mk ai 4 0)]) · (rO d_ 0) fy (oO s2 2) s2.bZ) (λv1 H=>?_)))))))));rintro _ _ ⟨a3,n3,H3,s3,rfl,rfl⟩;refine fz J (ro T 7 ?_)
 cases H;exact p1 T J [3,0] ⟨a3,n3,H3,s3,J,J⟩ J
def jU.l1:Nat->(List Int)->Int->((List Int)×Int)->List Int->Int->Option (List Int)
 |0,_,_,_,_,_=>none
 |yc+1,l,x5,v9,bl,aP=>if aP<(aa l:Int) then(if(0<=aP/\aP<(aa l:Int)) then(if(0<=(rd l aP)/\(rd l aP)<(aa v9.1:Int)) then(if(0<=(af ((af (aP*(aa l:Int)))+x5))/\(af ((af (aP*(aa l:Int)))+x5))<(aa bl:Int)) then(jU.l1 yc l x5 v9 (aD bl (ax (af ((af (aP*(aa l:Int)))+x5))) (rd v9.1 (rd l aP))) (af (aP+1))) else none) else none) else none) else(some bl)
def jU.l0:Nat->aG->(List Int)->List Int->Int->Option ((List Int)×Int)
 |0,_,_,_,_=>none
 |k6+1,t,l,x4,x5=>if x5<(aa l:Int) then((if(0<=x5/\x5<(aa l:Int)) then((yR.f t (rd l x5)).bind λv9=>jU.l1 fuel l x5 v9 x4 0) else none).bind λx7=>jU.l0 k6 t l x7 (af (x5+1))) else(some (x4,0))
def jU.f (t:aG) (l:(List Int)):Option ((List Int)×Int):=(qP.f t l).bind λv1=>if(!v1)=true then(some ([],1)) else(if(0<=(af ((aa l:Int)*(aa l:Int)))/\(af ((aa l:Int)*(aa l:Int)))<=1099511627776) then(jU.l0 fuel t l (cy (ax (af ((aa l:Int)*(aa l:Int)))) (0:Int)) 0) else none)
def jU.R (r:((List Int)×Int)):bj:=λu G=> ∃a0 n0 H0,aj (Fl.int .i64) 3 r.1 a0 n0 H0/\u=(.tuple #[(ll a0 r.1 n0),(ii r.2)])/\G=[H0]
theorem jU.c (H:jU.f t l=some r) (d_:aO (Fl.int .u8) t.C iD F) (fy:aa t.C<=iE) (dm:aO (Fl.int .i64) l gZ F) (gj:aa l<=gX):
 QR 238 [(.agg #[(ii t.W),(ii t.H),(ll iD t.C iE)]),(ll gZ l gX)] [] [] F (jU.R r):=by
 unfold jU.f at H;refine aF Tryz.func238 J J (λW=>rc T 2 (nc T J (λb1=>ro T 7 (lm T 1 J (ro T 1 (k [] J adq H (qP.c · (rO d_ 0) fy (rO dm 0) gj) (λv1 H=>ro T 3 (cb J H (λH=>?_) (λH=>?_)))))))))
 ·refine rc T 8 ?_
  cases H;refine bz (p1 T J [2,0] ⟨none,0,[],aj.nil,J,J⟩ J)
 refine rc T 14 ?_;obtain⟨c3,H⟩:=az H;refine aV (xy (k:=(Fl.int .i64)) T (0:Int) J J J J J J J J c3 J (λa3 n3 H3 s3=>ro T 12 (lq [1,2,6,24,25] [0,0] (λ(⟨k6,x4,x5,a5,n5,H5⟩:Nat×List Int×Int×Option Addr×Nat×Hp)=>(jU.l0 k6 t l x4 x5=some r/\aj (Fl.int .i64) 3 x4 a5 n5 H5,[(7,(ll a5 x4 n5)),(26,(ii x5))],[H5])) J J (fuel,(cy (ax (af ((aa l:Int)*(aa l:Int)))) (0:Int)),0,a3,n3,H3) [0,0,0] ⟨H,s3⟩ J J ?_)));rintro k6 ⟨x4,x5,a5,n5,H5⟩ ⟨Z4,s5⟩;rw[jU.l0] at Z4;refine rc T 6 (cd J Z4 (λZ4=>?_) (λZ4=>?_))
 ·refine rc T 2 (mq Z4 [1,2,6,24,25,26] [0,0] (λz8 (⟨x7,a6,n6,H6⟩:List Int×Option Addr×Nat×Hp)=>(x7=z8/\aj (Fl.int .i64) 3 x7 a6 n6 H6,[(7,(ll a6 x7 n6))],[H6])) J J (λz8 Z6 _=>?_) ?_)
  ·refine rc T 4 ?_;obtain⟨c7,Z6⟩:=az Z6;obtain⟨q7,o7,e7⟩:=dm.addr c7.1 c7.2;refine ix T J e7 c7 (le T 0 (rO dm 0) e7 c7 J J (ro T 6 (lm T 1 J (ro T 1 (kr yR.R [] [] J adr Z6 (yR.c · (rO d_ 0) fy) (λv9 Z6=>?_))))));rintro _ _ ⟨a8,n8,H8,s8,rfl,rfl⟩;refine fz J (ro T 15 (lq [1,2,6,8,10,24,25,26,37,38] [0,0,1] (λ(⟨yc,bl,aP,cC,n10,bT⟩:Nat×List Int×Int×Option Addr×Nat×Hp)=>(jU.l1 yc l x5 v9 bl aP=some z8/\aj (Fl.int .i64) 3 bl cC n10 bT,[(7,(ll cC bl n10)),(39,(ii aP))],[bT])) J J (fuel,x4,0,a5,n5,H5) [0,0,1,0] ⟨Z6,s5⟩ J J ?_));rintro yc ⟨bl,aP,cC,n10,bT⟩ ⟨Z9,bL⟩;rw[jU.l1] at Z9;refine rc T 6 (cd J Z9 (λZ9=>?_) (λZ9=>?_))
   ·refine rc T 7 ?_;obtain⟨dK,Z9⟩:=az Z9;obtain⟨q11,o11,zu⟩:=dm.addr dK.1 dK.2;refine ix T J zu dK (le T 0 (rO dm 0) zu dK J J (ro T 13 ?_));obtain⟨gy,Z9⟩:=az Z9;obtain⟨wL,O1,tQ⟩:=s8.r.addr gy.1 gy.2;refine ix T J tQ gy (le T 0 (oO s8 2) tQ gy J J ?_);obtain⟨jn,Z9⟩:=az Z9;obtain⟨VQ,Vs,xH⟩:=bL.r.addr jn.1 jn.2;refine ix T J xH jn (aV (jZ (k:=(Fl.int .i64)) T 3 0 (rd v9.1 (rd l aP)) J J J J J J bL xH jn J J J (λfp fT=>kf [1,2,6,8,10,24,25,26,37,38,39] [0,0,0,0] [(7,(ll cC (aD bl (ax (af ((af (aP*(aa l:Int)))+x5))) (rd v9.1 (rd l aP))) n10))] J J ⟨dB,trivial⟩ (ro T 8 (ar (_,_,_,_,_) [0,0,0,0] ⟨Z9,fT⟩ J J)))))
   refine rc T 6 (am (_,_,_,_) [0,0,1] ⟨oi Z9,bL⟩ J J)
  rintro _ ⟨x7,a6,n6,H6⟩ ⟨rfl,s6⟩ Z4;refine rc T 5 (ar (_,_,_,_,_) [0,0,0] ⟨Z4,s6⟩ J J)
 refine rc T 13 ?_
 cases Z4;exact p1 T J [2,0] ⟨a5,n5,H5,s5,J,J⟩ J
end
noncomputable section
def mv.f (s:g_):Option (List Int):=some [s.bM,s.bN,s.bJ,s.bF,s.bW,s.bR]
theorem mv.c (H:mv.f s=some r):
 QU 62 [(.agg #[(uu s.bM),(uu s.bN),(uu s.bJ),(uu s.bF),(uu s.bW),(uu s.bR)])] [] F (.agg #[(uu (rd r 0)),(uu (rd r 1)),(uu (rd r 2)),(uu (rd r 3)),(uu (rd r 4)),(uu (rd r 5))]):=by
 unfold mv.f at H;refine aF Tryz.func62 J J (λW=>rc T 2 (nc T J (λb1=>nc T J (λb2=>ro T 5 (lf T 1 J (ro T 1 (lf T 1 J (ro T 1 (lf T 1 J (ro T 1 (lf T 1 J (ro T 1 (lf T 1 J (ro T 1 (lf T 1 J (bA J (Gf T J J J J J J) (sg T 2 J (ro T 3 ?_))))))))))))))))))
 cases H;exact pb T J (.cS (j:=2) [(uu s.bM),(uu s.bN),(uu s.bJ),(uu s.bF),(uu s.bW),(uu s.bR)] J J J J J J J .nil) [0] () J J
def tg.f (a:Int) (b:Int):Option Int:=if a>(eZ (18446744073709551615-b)) then(some 18446744073709551615) else(some (eZ (a+b)))
theorem tg.c (H:tg.f a b=some r):
 QU 106 [(uu a),(uu b)] [] F (uu r):=by
 unfold tg.f at H;refine aF Tryz.func106 J J (λW=>rc T 14 (cd J H (λH=>?_) (λH=>?_)))
 ·refine rc T 7 ?_
  cases H;exact p0 T J [0] J
 refine rc T 11 ?_
 cases H;exact p0 T J [0] J
def mX.l0:Nat->Int->Int->Int->Int->Int->Int->Int->Int->Int->Int->Int->Int->Int->Option g_
 |0,_,_,_,_,_,_,_,_,_,_,_,_,_=>none
 |yd+1,x7,x8,x9,aL,a_,bl,iW,gJ,iq,iX,fO,iY,iA=>if iA<6 then(if(0<=iA/\iA<6) then(if(0<=iA/\iA<6) then((tg.f (rd [iW,gJ,iq,iX,fO,iY] iA) (rd [x7,x8,x9,aL,a_,bl] iA)).bind λqS=>if(0<=iA/\iA<6) then(mX.l0 yd x7 x8 x9 aL a_ bl (rd (aD [iW,gJ,iq,iX,fO,iY] (ax iA) qS) 0) (rd (aD [iW,gJ,iq,iX,fO,iY] (ax iA) qS) 1) (rd (aD [iW,gJ,iq,iX,fO,iY] (ax iA) qS) 2) (rd (aD [iW,gJ,iq,iX,fO,iY] (ax iA) qS) 3) (rd (aD [iW,gJ,iq,iX,fO,iY] (ax iA) qS) 4) (rd (aD [iW,gJ,iq,iX,fO,iY] (ax iA) qS) 5) (af (iA+1))) else none) else none) else none) else(some (g_.mk iW gJ iq iX fO iY))
def mX.f (a:g_) (b:g_):Option g_:=((mv.f a).bind λdT=>(mv.f b).bind λdz=>some ((rd dT 0),(rd dT 1),(rd dT 2),(rd dT 3),(rd dT 4),(rd dT 5),(rd dz 0),(rd dz 1),(rd dz 2),(rd dz 3),(rd dz 4),(rd dz 5))).bind λ(x1,x2,x3,x4,x5,x6,x7,x8,x9,aL,a_,bl)=>mX.l0 fuel x7 x8 x9 aL a_ bl x1 x2 x3 x4 x5 x6 0
theorem mX.c (H:mX.f a b=some r):
 QU 78 [(.agg #[(uu a.bM),(uu a.bN),(uu a.bJ),(uu a.bF),(uu a.bW),(uu a.bR)]),(.agg #[(uu b.bM),(uu b.bN),(uu b.bJ),(uu b.bF),(uu b.bW),(uu b.bR)])] [] F (.agg #[(uu r.bM),(uu r.bN),(uu r.bJ),(uu r.bF),(uu r.bW),(uu r.bR)]):=by
 unfold mX.f at H;refine aF Tryz.func78 J J (λW=>rc T 2 (nc T J (λb1=>nc T J (λb2=>nc T J (λb3=>ro T 2 (mq H [4] [0,2] (λIC (⟨x1,x2,x3,x4,x5,x6,x7,x8,x9,aL,a_,bl,b4,b5⟩:Int×Int×Int×Int×Int×Int×Int×Int×Int×Int×Int×Int×Nat×Nat)=>((x1,x2,x3,x4,x5,x6,x7,x8,x9,aL,a_,bl)=IC,[(5,(pp b4)),(6,(pp b5))],[(cl b4 123 [(uu x1),(uu x2),(uu x3),(uu x4),(uu x5),(uu x6)]),(cl b5 123 [(uu x7),(uu x8),(uu x9),(uu aL),(uu a_),(uu bl)])])) J J (λIC Z1 _=>?_) ?_))))))
 ·refine ks [2,3,4] J (fz J (rz [] mix (bH bG) (λhg pf=>av 0 sz hg pf J (gA T 1 J J J J J J J) (av 2 sz hg pf J (gA T 2 J J J J J J J) (QC 1 4 5 ?_ ?_ ?_)))))
  ·refine kh [] J qy Z1 (mv.c ·) (λdT Z1=>an sz (QC 3 4 5 ?_ ?_ ?_))
   ·refine kh [] J qy Z1 (mv.c ·) (λdz Z1=>an sz (gK 4 5 ?_ ?_))
    ·refine nw T J (λb6=>an (so [0,0,0,0]) (ao 5 (nw T J (λb7=>an (so [0,0,0,0]) (ao 6 (sf T 4 J (an (so [0,0,0,0]) (ao 7 (sf T 5 J (an (so [0,0,0,0]) (ae (rx T 1 (am (_,_,_,_,_,_,_,_,_,_,_,_,_,_) [0,2,2,2] (oi Z1) J J)))))))))))))
    refine nw T J (λb8=>an (so [0,0,0,0]) (ao 4 (nw T J (λb9=>an (so [0,0,0,0]) (ao 6 (sf T 5 J (an (so [0,0,0,0]) (ao 7 (sf T 4 J (an (so [0,0,0,0]) (ae (rx T 1 (am (_,_,_,_,_,_,_,_,_,_,_,_,_,_) [0,2,3,2] (oi Z1) J J)))))))))))))
   ·refine nw T J (λgh=>an (so [0,0,0,0]) (gK 3 5 ?_ ?_))
    ·refine kh [] J qy Z1 (mv.c ·) (λdZ Z1=>an (so [0,0,0,0]) (ao 5 (nw T J (λiN=>an (so [0,0,0,0]) (ao 6 (sf T 4 J (an (so [0,0,0,0]) (ao 7 (sf T 5 J (an (so [0,0,0,0]) (ae (rx T 1 (am (_,_,_,_,_,_,_,_,_,_,_,_,_,_) [0,2,2,2] (oi Z1) J J)))))))))))))
    refine nw T J (λlv=>an (so [0,0,0,0]) (ao 3 (kh [] J qy Z1 (mv.c ·) (λv17 Z1=>an (so [0,0,0,0]) (ao 6 (sf T 4 J (an (so [0,0,0,0]) (ao 7 (sf T 5 J (an (so [0,0,0,0]) (ae (rx T 1 (am (_,_,_,_,_,_,_,_,_,_,_,_,_,_) [0,2,2,2] (oi Z1) J J)))))))))))))
   refine nw T J (λZQ=>an (so [0,0,0,0]) (gK 3 4 ?_ ?_))
   ·refine kh [] J qy Z1 (mv.c ·) (λfW Z1=>an (so [0,0,0,0]) (ao 4 (nw T J (λJf=>an (so [0,0,0,0]) (ao 6 (sf T 5 J (an (so [0,0,0,0]) (ao 7 (sf T 4 J (an (so [0,0,0,0]) (ae (rx T 1 (am (_,_,_,_,_,_,_,_,_,_,_,_,_,_) [0,2,3,2] (oi Z1) J J)))))))))))))
   refine nw T J (λoP=>an (so [0,0,0,0]) (ao 3 (kh [] J qy Z1 (mv.c ·) (λoD Z1=>an (so [0,0,0,0]) (ao 6 (sf T 5 J (an (so [0,0,0,0]) (ao 7 (sf T 4 J (an (so [0,0,0,0]) (ae (rx T 1 (am (_,_,_,_,_,_,_,_,_,_,_,_,_,_) [0,2,3,2] (oi Z1) J J)))))))))))))
  ·refine nw T J (λri=>an (so [0,0,0,0]) (gK 1 5 ?_ ?_))
   ·refine kh [] J qy Z1 (mv.c ·) (λv20 Z1=>an (so [0,0,0,0]) (gK 3 5 ?_ ?_))
    ·refine kh [] J qy Z1 (mv.c ·) (λv21 Z1=>an (so [0,0,0,0]) (ao 5 (nw T J (λAR=>an (so [0,0,0,0]) (ao 6 (sf T 4 J (an (so [0,0,0,0]) (ao 7 (sf T 5 J (an (so [0,0,0,0]) (ae (rx T 1 (am (_,_,_,_,_,_,_,_,_,_,_,_,_,_) [0,2,2,2] (oi Z1) J J)))))))))))))
    refine nw T J (λqi=>an (so [0,0,0,0]) (ao 3 (kh [] J qy Z1 (mv.c ·) (λv22 Z1=>an (so [0,0,0,0]) (ao 6 (sf T 4 J (an (so [0,0,0,0]) (ao 7 (sf T 5 J (an (so [0,0,0,0]) (ae (rx T 1 (am (_,_,_,_,_,_,_,_,_,_,_,_,_,_) [0,2,2,2] (oi Z1) J J)))))))))))))
   refine nw T J (λZS=>an (so [0,0,0,0]) (ao 1 (kh [] J qy Z1 (mv.c ·) (λv23 Z1=>an (so [0,0,0,0]) (ao 3 (kh [] J qy Z1 (mv.c ·) (λv24 Z1=>an (so [0,0,0,0]) (ao 6 (sf T 4 J (an (so [0,0,0,0]) (ao 7 (sf T 5 J (an (so [0,0,0,0]) (ae (rx T 1 (am (_,_,_,_,_,_,_,_,_,_,_,_,_,_) [0,2,2,2] (oi Z1) J J))))))))))))))))
  refine nw T J (λJg=>an (so [0,0,0,0]) (gK 1 4 ?_ ?_))
  ·refine kh [] J qy Z1 (mv.c ·) (λv25 Z1=>an (so [0,0,0,0]) (gK 3 4 ?_ ?_))
   ·refine kh [] J qy Z1 (mv.c ·) (λv26 Z1=>an (so [0,0,0,0]) (ao 4 (nw T J (λCc=>an (so [0,0,0,0]) (ao 6 (sf T 5 J (an (so [0,0,0,0]) (ao 7 (sf T 4 J (an (so [0,0,0,0]) (ae (rx T 1 (am (_,_,_,_,_,_,_,_,_,_,_,_,_,_) [0,2,3,2] (oi Z1) J J)))))))))))))
   refine nw T J (λly=>an (so [0,0,0,0]) (ao 3 (kh [] J qy Z1 (mv.c ·) (λP1 Z1=>an (so [0,0,0,0]) (ao 6 (sf T 5 J (an (so [0,0,0,0]) (ao 7 (sf T 4 J (an (so [0,0,0,0]) (ae (rx T 1 (am (_,_,_,_,_,_,_,_,_,_,_,_,_,_) [0,2,3,2] (oi Z1) J J)))))))))))))
  refine nw T J (λZV=>an (so [0,0,0,0]) (ao 1 (kh [] J qy Z1 (mv.c ·) (λv28 Z1=>an (so [0,0,0,0]) (ao 3 (kh [] J qy Z1 (mv.c ·) (λqR Z1=>an (so [0,0,0,0]) (ao 6 (sf T 5 J (an (so [0,0,0,0]) (ao 7 (sf T 4 J (an (so [0,0,0,0]) (ae (rx T 1 (am (_,_,_,_,_,_,_,_,_,_,_,_,_,_) [0,2,3,2] (oi Z1) J J))))))))))))))))
 rintro _ ⟨x1,x2,x3,x4,x5,x6,x7,x8,x9,aL,a_,bl,b4,b5⟩ rfl H;refine rc T 7 (lq [4,5,6] [0,0,1] (λ(⟨yd,iW,gJ,iq,iX,fO,iY,iA⟩:Nat×Int×Int×Int×Int×Int×Int×Int)=>(mX.l0 yd x7 x8 x9 aL a_ bl iW gJ iq iX fO iY iA=some r,[(12,(ii iA))],[(cl b4 123 [(uu iW),(uu gJ),(uu iq),(uu iX),(uu fO),(uu iY)])])) J J (fuel,x1,x2,x3,x4,x5,x6,0) [0,0,1,0] H J J ?_);rintro yd ⟨iW,gJ,iq,iX,fO,iY,iA⟩ lp;replace lp:mX.l0 (yd+1) x7 x8 x9 aL a_ bl iW gJ iq iX fO iY iA=some r:=lp;rw[mX.l0] at lp;refine rc T 6 (cd J lp (λlp=>?_) (λlp=>?_))
 ·refine rc T 10 (fz J (rz [9] mix (bH bG) (λhg pf=>ha T 8 [0,1] sz hg pf J ?_)));obtain⟨F1,lp⟩:=az lp;refine av 2 sz hg pf J (zy T J J J J J F1) (av 3 sz hg pf J (cw T J J J J (UB (kk:= .u64) (xs:=[iW,gJ,iq,iX,fO,iY]) (j:=3) J J F1)) (ha T 5 [4] sz hg pf J ?_));obtain⟨pB,lp⟩:=az lp;refine av 5 sz hg pf J (zy T J J J J J pB) (av 6 sz hg pf J (cw T J J J J (UB (kk:= .u64) (xs:=[x7,x8,x9,aL,a_,bl]) (j:=2) J J pB)) (ao 7 (kh [] J JQ lp (tg.c ·) (λqS lp=>an sz ?_))));obtain⟨Q',lp⟩:=az lp;refine av 8 sz hg pf J (zy T J J J J J Q') (ao 9 (Zx (kk:= .u64) (xs:=[iW,gJ,iq,iX,fO,iY]) T 3 [(uu (rd (aD [iW,gJ,iq,iX,fO,iY] (ax iA) qS) 0)),(uu (rd (aD [iW,gJ,iq,iX,fO,iY] (ax iA) qS) 1)),(uu (rd (aD [iW,gJ,iq,iX,fO,iY] (ax iA) qS) 2)),(uu (rd (aD [iW,gJ,iq,iX,fO,iY] (ax iA) qS) 3)),(uu (rd (aD [iW,gJ,iq,iX,fO,iY] (ax iA) qS) 4)),(uu (rd (aD [iW,gJ,iq,iX,fO,iY] (ax iA) qS) 5))] J J J J J J J Q' J (an sl (ae (rx T 7 (ar (_,_,_,_,_,_,_) [0,0,0,0] lp J J))))))
 refine rc T 7 (bA J (zy T J J J J J (by decide)) (lf T 3 J (bA J (zy T J J J J J (by decide)) (lf T 3 J (bA J (zy T J J J J J (by decide)) (lf T 3 J (bA J (zy T J J J J J (by decide)) (lf T 3 J (bA J (zy T J J J J J (by decide)) (lf T 3 J (bA J (zy T J J J J J (by decide)) (lf T 3 J (ro T 1 (sg T 1 J (ro T 1 (rx T 2 ?_))))))))))))))))
 cases lp;exact pb T J (.cS (j:=1) [(uu iW),(uu gJ),(uu iq),(uu iX),(uu fO),(uu iY)] J J J J J J J .nil) [0] () J J
end
noncomputable section
def Hn.f:Option Int:=some 0
theorem Hn.c (H:Hn.f=some r):
 QU 107 [(.pointer none)] [] F (uu r):=by
 unfold Hn.f at H;refine aF Tryz.func107 J J (λW=>rc T 12 (nS J (rc T 7 ?_)))
 cases H;exact p0 T J [0] J
def Ht.f (m:dO) (mG:bx):Option Int:=some m.count
theorem Ht.c (H:Ht.f m mG=some r) (sY:ng m iO lB nJ) (lN:iL mG lB lR):
 QU 107 [(pp iO)] [nJ,lR] F (uu r):=by
 unfold Ht.f at H;refine aF Tryz.func107 J J (λW=>rc T 12 (eN J (rc T 3 ?_)));obtain⟨a5,n5,H5,s5,dx⟩:=(λx=>x) sY;refine bU 0 (congrArg some dx) (fz J (rc T 4 (lf T 2 J (ro T 4 ?_))))
 cases H;refine dD [2,2] J dx (p0 T J [2,0,0] J)
def sO.f (g:bx):Option (Option dO):=(iQ.f g).bind λv1=>(qT.f v1.1 v1.2).bind λv2=>if(0<=(af (v2.1*v2.2))/\(af (v2.1*v2.2))<=1099511627776) then(some (some (dO.mk (cy (ax (af (v2.1*v2.2))) (default:pQ)) 0 0))) else none
def sO.R (w0:Nat) (r:(Option dO)):bj:=λu G=> ∃(u0:Value) (G0:List Hp),X_ w0 r u0 G0/\u=u0/\G=G0
theorem sO.c (H:sO.f g=some r) (fU:iL g fq gu):
 QR 150 [(pp fq)] [gu] [gu] F (sO.R fq r):=by
 unfold sO.f at H;refine aF Tryz.func150 J J (λW=>rc T 12 (eN J (rc T 5 (k [0] J vc H (iQ.c · fU) (λv1 H=>ro T 2 (k [] J GA H (qT.c ·) (λv2 H=>ro T 13 ?_)))))));obtain⟨c3,H⟩:=az H;refine aV (Zd (kd:=Pe) (E:=217) T (default:pQ) J J J J J J J ⟨none,0,[],none,0,[],(aj.nil (k:=(Fl.int .i64)) (E:=3)),(aj.nil (k:=(Fl.int .i32)) (E:=21)),J,J⟩ c3 J (λa2 n2 H2 s2=>ro T 1 (nc T J (λb3=>ro T 4 ?_))))
 cases H;refine gL [3,2] J (p1 T J [2,0,0] ⟨_,_,⟨b3,(List.flatten [(cl b3 213 [(pp fq),(ll a2 (cy (ax (af (v2.1*v2.2))) (default:pQ)) n2),(ii 0),(uu 0)]),H2]),(show ng (dO.mk (cy (ax (af (v2.1*v2.2))) (default:pQ)) 0 0) b3 fq (List.flatten [(cl b3 213 [(pp fq),(ll a2 (cy (ax (af (v2.1*v2.2))) (default:pQ)) n2),(ii 0),(uu 0)]),H2]) from⟨a2,n2,H2,s2,J⟩),J,J⟩,J,J⟩ J)
def oc.l0:Nat->dO->bx->List Int->Int->Option (List Int)
 |0,_,_,_,_=>none
 |k6+1,m,mG,x4,x5=>if x5<(aa m.parts:Int) then(if(0<=x5/\x5<(aa m.parts:Int)) then((qv.f mG x5).bind λv7=>if((rd m.parts x5).version !=v7)=true then(if(aa x4+1<=1099511627776) then(oc.l0 k6 m mG (x4++[x5]) (af (x5+1))) else none) else(oc.l0 k6 m mG x4 (af (x5+1)))) else none) else(some x4)
def oc.f (m:dO) (mG:bx):Option (List Int):=(pE.f mG).bind λv1=>if(m.clean==v1)=true then(some []) else(oc.l0 fuel m mG [] 0)
def oc.R (r:(List Int)):bj:=λu G=> ∃a0 n0 H0,aj (Fl.int .i64) 3 r a0 n0 H0/\u=(ll a0 r n0)/\G=[H0]
theorem oc.c (H:oc.f m mG=some r) (sY:ng m iO lB nJ) (lN:iL mG lB lR):
 QR 97 [(pp iO)] [nJ,lR] [nJ,lR] F (oc.R r):=by
 unfold oc.f at H;refine aF Tryz.func97 J J (λW=>rc T 7 ?_);obtain⟨a5,n5,H5,s5,dx⟩:=(λx=>x) sY;refine bU 0 (congrArg some dx) (fz J (dw mix aB ?_))
 iterate 6 refine au T J ?_
 refine cD T 2 J J J (au T J (au T J (au T J (cD T 2 J J J ?_))));obtain⟨v1,V1,H⟩:=gx H;refine xz [0] J J J J J J Cu J (pE.c V1 lN) (au T J (au T J (cO (rx T 1 (cb J H (λH=>?_) (λH=>?_))))))
 ·refine rc T 7 ?_
  cases H;refine dD [2,2] J dx (bz (p1 T J [3,2,0,0] ⟨none,0,[],aj.nil,J,J⟩ J))
 refine rc T 13 (lf T 2 J (ro T 5 (bz (lq [0,23] [1,1,0,0] (λ(⟨k6,x4,x5,a8,n8,H8⟩:Nat×List Int×Int×Option Addr×Nat×Hp)=>(oc.l0 k6 m mG x4 x5=some r/\aj (Fl.int .i64) 3 x4 a8 n8 H8,[(3,(ll a8 x4 n8)),(24,(ii x5))],[H8])) J J (fuel,[],0,none,0,[]) [1,1,0,0,0] ⟨H,aj.nil⟩ J J ?_))));rintro k6 ⟨x4,x5,a8,n8,H8⟩ ⟨Z3,s8⟩;rw[oc.l0] at Z3;refine rc T 6 (cd J Z3 (λZ3=>?_) (λZ3=>?_))
 ·refine rc T 11 (dw mix aB (au T J (au T J (au T J (cD T 1 J J J (au T J ?_))))));obtain⟨c5,Z3⟩:=az Z3;obtain⟨q9,o9,e9⟩:=s5.r.addr c5.1 c5.2;refine bf J J J (cu T J J J J J e9 c5.1 c5.2) (au T J ?_);obtain⟨_,w12,⟨cC,n10,dj,n11,⟨Pf,m10⟩,⟨Ws,m11⟩,rfl⟩⟩:=nQ.view s5.r c5;refine bf J J J (cw T J J J J (CJ (j:=3) J w12 e9 0 J)) (au T J (au T J (au T J (cD T 1 J J J (au T J ?_)))));obtain⟨v7,V6,Z3⟩:=gx Z3;refine xz [2] J J J J J J Cv J (qv.c V6 lN) (au T J (cO (rx T 1 (cb J Z3 (λZ3=>?_) (λZ3=>?_)))))
  ·refine rc T 3 (aV (cW (k:=(Fl.int .i64)) T [x5] J J J J J J J J J (λdh dI cY=>?_)));obtain⟨c8,Z3⟩:=az Z3;refine aV (dQ (k:=(Fl.int .i64)) (xs:=x4) T (g:=4) J J J J J J J J J J s8 (oO cY 5) c8 J (λgU n14 fp fT=>ro T 9 (ar (_,_,_,_,_) [0,0,0,0,0] ⟨Z3,fT⟩ J J)))
  refine rc T 8 (ar (_,_,_,_,_) [0,0,0,0,0] ⟨Z3,s8⟩ J J)
 refine rc T 12 ?_
 cases Z3;refine dD [1,2] J dx (p1 T J [2,2,1,0] ⟨a8,n8,H8,s8,J,J⟩ J)
def jw.l1:Nat->Int->List Int->((List Int)×Int)->List Int->Int->Option pQ
 |0,_,_,_,_,_=>none
 |G2+1,x3,x4,fW,eQ,bI=>if bI<(aa fW.1:Int) then(if(0<=bI/\bI<(aa fW.1:Int)) then(if(0<=bI/\bI<(aa eQ:Int)) then(if((rd fW.1 bI)!=1099511627776)=true then(if(0<=bI/\bI<(aa (aD eQ (ax bI) (-1)):Int)) then(jw.l1 G2 x3 x4 fW (aD (aD eQ (ax bI) (-1)) (ax bI) (IntKind.i32.wrap (rd fW.1 bI))) (af (bI+1))) else none) else(jw.l1 G2 x3 x4 fW (aD eQ (ax bI) (-1)) (af (bI+1)))) else none) else none) else(some (pQ.mk x3 x4 eQ))
def jw.l0:Nat->(Int×Int)->(aG×Bool)->Int->List Int->List Int->Int->Option pQ
 |0,_,_,_,_,_,_=>none
 |zN+1,v1,v2,x3,x4,bh,cn=>if cn<(aa x4:Int) then(if(0<=cn/\cn<(aa x4:Int)) then((rR.f v1.1 v1.2 (rd x4 cn)).bind λv17=>if(aa bh+1<=1099511627776) then(jw.l0 zN v1 v2 x3 x4 (bh++[v17]) (af (cn+1))) else none) else none) else((jU.f v2.1 bh).bind λfW=>if(0<=(aa fW.1:Int)/\(aa fW.1:Int)<=1099511627776) then(jw.l1 fuel x3 x4 fW (cy (ax (aa fW.1:Int)) (0:Int)) 0) else none)
def jw.f (m:dO) (bB:Int) (mG:bx):Option pQ:=(iQ.f mG).bind λv1=>(mg.f mG bB).bind λv2=>((qv.f mG bB).bind λv7=>(ko.f mG bB).bind λv8=>some (v7,v8,([]:List Int))).bind λ(x3,x4,x5)=>jw.l0 fuel v1 v2 x3 x4 [] 0
def jw.R (r:pQ):bj:=λu G=> ∃a0 n0 H0 a1 n1 H1,aj (Fl.int .i64) 3 r.nodes a0 n0 H0/\aj (Fl.int .i32) 21 r.aN a1 n1 H1/\u=(.agg #[(ii r.version),(ll a0 r.nodes n0),(ll a1 r.aN n1)])/\G=[H0,H1]
theorem jw.c (H:jw.f m bB mG=some r) (sY:ng m iO lB nJ) (lN:iL mG lB lR):
 QR 211 [(pp iO),(ii bB)] [nJ,lR] [nJ,lR] F (jw.R r):=by
 unfold jw.f at H;refine aF Tryz.func211 J J (λW=>rc T 2 (nc T J (λb3=>ro T 3 ?_)));obtain⟨a6,n6,H6,s6,lC⟩:=(λx=>x) sY;refine bU 0 (congrArg some lC) (fz J (rc T 4 (lf T 3 J (k [0] J vc H (iQ.c · lN) (λv1 H=>ro T 12 (lf T 3 J (ro T 1 (kr mg.R [0] [0] J SM H (mg.c · lN) (λv2 H=>?_)))))))));rintro _ _ ⟨a7,n7,H7,s7,rfl,rfl⟩;refine fz J (ro T 3 (nc T J (λb8=>sg T 6 J (ro T 3 (mq H [4,5,6,7] [0,0,4,2,0,1,0] (λz6 (⟨x3,x4,x5,b9,cC,n10,bT,dj,n11,cH⟩:Int×List Int×List Int×Nat×Option Addr×Nat×Hp×Option Addr×Nat×Hp)=>((x3,x4,x5)=z6/\aj (Fl.int .i64) 3 x4 cC n10 bT/\aj (Fl.int .i32) 21 x5 dj n11 cH,[(9,(pp b9))],[(cl b9 217 [(ii x3),(ll cC x4 n10),(ll dj x5 n11)]),bT,cH])) J J (λz6 Z3 _=>?_) ?_)))))
 ·refine ks [0,1,4,5,6,7] J (fz J (rz [] mix (bH bG) (λhg pf=>ha T 12 [0,1,2] sz hg pf J (al T 3 2 sz hg pf J J J (ha T 7 [4,6,7,8] sz hg pf J (al T 9 2 sz hg pf J J J (ha T 5 [10] sz hg pf J (gK 5 13 ?_ ?_))))))))
  ·refine kh [5] J Cv Z3 (qv.c · lN) (λv7 Z3=>an sz (gK 11 13 ?_ ?_))
   ·refine kR ko.R [5] [5] J JT Z3 (ko.c · lN) (λv8 Z3=>?_);rintro _ _ ⟨a12,n12,dq,dE,rfl,rfl⟩;refine fz J (an (so [0,0,0,0,0,2,0]) (ha T 2 [12] (so [0,0,0,0,0,2,0]) hg pf J (ao 13 (nw T J (λZQ=>an (so [0,0,0,0,0,2,0]) (ao 14 (sf T 8 J (an (so [0,0,0,0,0,2,0]) (ae (rx T 1 (bz (am (_,_,_,_,_,_,_,_,_,_) [0,0,3,2,0,2,0,1,0,0] ⟨oi Z3,dE,aj.nil⟩ J J))))))))))))
   refine nw T J (λJf=>an (so [0,0,0,0,0,0,0]) (ao 11 (kR ko.R [5] [5] J JT Z3 (ko.c · lN) (λv9 Z3=>?_))));rintro _ _ ⟨jX,n15,dP,dS,rfl,rfl⟩;refine fz J (an (so [0,0,0,0,0,3,0]) (ha T 1 [12] (so [0,0,0,0,0,3,0]) hg pf J (ao 14 (sf T 6 J (an (so [0,0,0,0,0,3,0]) (ae (rx T 1 (bz (am (_,_,_,_,_,_,_,_,_,_) [0,0,3,2,0,3,0,0,0,0] ⟨oi Z3,dS,aj.nil⟩ J J)))))))))
  refine nw T J (λri=>an (so [0,0,0,0,0,0,0]) (ao 5 (kh [5] J Cv Z3 (qv.c · lN) (λv10 Z3=>an (so [0,0,0,0,0,0,0]) (ao 11 (kR ko.R [5] [5] J JT Z3 (ko.c · lN) (λv11 Z3=>?_)))))));rintro _ _ ⟨a17,n17,eU,fL,rfl,rfl⟩;refine fz J (an (so [0,0,0,0,0,3,0]) (ha T 1 [12] (so [0,0,0,0,0,3,0]) hg pf J (ao 14 (sf T 6 J (an (so [0,0,0,0,0,3,0]) (ae (rx T 1 (bz (am (_,_,_,_,_,_,_,_,_,_) [0,0,3,2,0,3,0,0,0,0] ⟨oi Z3,fL,aj.nil⟩ J J)))))))))
 rintro _ ⟨x3,x4,x5,b9,cC,n10,bT,dj,n11,cH⟩ ⟨rfl,bL,cX⟩ H;refine rc T 9 (lf T 7 J (ro T 5 (bz (lq [4,5,6,7,9,48,49] [0,0,0,0,3,3,3,0,0,0] (λ(⟨zN,bh,cn,ma,n19,kH⟩:Nat×List Int×Int×Option Addr×Nat×Hp)=>(jw.l0 zN v1 v2 x3 x4 bh cn=some r/\aj (Fl.int .i64) 3 bh ma n19 kH,[(10,(ll ma bh n19)),(50,(ii cn))],[kH])) J J (fuel,[],0,none,0,[]) [0,0,0,0,3,3,3,0,0,0,0] ⟨H,aj.nil⟩ J J ?_))));rintro zN ⟨bh,cn,ma,n19,kH⟩ ⟨Z9,gP⟩;rw[jw.l0] at Z9;refine rc T 6 (cd J Z9 (λZ9=>?_) (λZ9=>?_))
 ·refine rc T 6 ?_;obtain⟨dK,Z9⟩:=az Z9;obtain⟨Wc,Vu,tR⟩:=bL.r.addr dK.1 dK.2;refine ix T J tR dK (le T 0 (oO bL 5) tR dK J J (ro T 8 (k [] J Gv Z9 (rR.c ·) (λv17 Z9=>aV (cW (k:=(Fl.int .i64)) T [v17] J J J J J J J J J (λa21 ln jA=>?_))))));obtain⟨jn,Z9⟩:=az Z9;refine aV (dQ (k:=(Fl.int .i64)) (xs:=bh) T (g:=10) J J J J J J J J J J gP (oO jA 11) jn J (λa22 n22 mz iz=>ro T 9 (ar (_,_,_,_,_) [0,0,0,0,0,0,0,0,0,0,0] ⟨Z9,iz⟩ J J)))
 refine rc T 7 (lm T 2 J (ro T 1 (kr jU.R [] [] J adb Z9 (jU.c · (oO s7 3) s7.bZ (oO gP 10) gP.bZ) (λfW Z9=>?_))));rintro _ _ ⟨a23,n23,jC,gD,rfl,rfl⟩;refine fz J (ro T 11 ?_);obtain⟨zs,Z9⟩:=az Z9;refine aV (xy (k:=(Fl.int .i32)) T (0:Int) J J J J J J J J zs J (λa24 n24 qZ kZ=>ro T 1 (sg T 4 J (ro T 11 (lq [4,9,72,73] [0,0,3,8,4,4,4] (λ(⟨G2,eQ,bI,a26,n26,po⟩:Nat×List Int×Int×Option Addr×Nat×Hp)=>(jw.l1 G2 x3 x4 fW eQ bI=some r/\aj (Fl.int .i32) 21 eQ a26 n26 po,[(74,(ii bI))],[(cl b9 217 [(ii x3),(ll cC x4 n10),(ll a26 eQ n26)]),po])) J J (fuel,(cy (ax (aa fW.1:Int)) (0:Int)),0,a24,n24,qZ) [0,0,3,8,4,4,4,2,4] ⟨Z9,kZ⟩ J J ?_)))));rintro G2 ⟨eQ,bI,a26,n26,po⟩ ⟨eF,ot⟩;rw[jw.l1] at eF;refine rc T 6 (cd J eF (λeF=>?_) (λeF=>?_))
 ·refine rc T 7 ?_;obtain⟨lV,eF⟩:=az eF;obtain⟨HG,o27,Ck⟩:=gD.r.addr lV.1 lV.2;refine ix T J Ck lV (le T 0 (oO gD 3) Ck lV J J (ro T 7 (lf T 7 J (ro T 1 ?_))));obtain⟨tK,eF⟩:=az eF;obtain⟨q28,o28,Jp⟩:=ot.r.addr tK.1 tK.2;refine ix T J Jp tK (aV (jZ (k:=(Fl.int .i32)) T 8 0 (-1) J J J J J J ot Jp tK J J J (λrY rJ=>kg [4,9,15,16,72,73,74] [0,0,0,0,0,0,0,1] [0,0,0,0,0,0,0,1,0] [] [(cl b9 217 [(ii x3),(ll cC x4 n10),(ll a26 (aD eQ (ax bI) (-1)) n26)])] J J trivial dB (ro T 8 (cb J eF (λeF=>?_) (λeF=>?_))))))
  ·refine rc T 2 (lf T 8 J (ro T 3 ?_));obtain⟨pB,eF⟩:=az eF;refine ix T J Jp pB (aV (jZ (k:=(Fl.int .i32)) T 7 0 (IntKind.i32.wrap (rd fW.1 bI)) J J J J J J rJ Jp pB J J J (λrZ pW=>kg [4,9,72,73,74] [0,0,0,0,0,0,0,0] [0,0,0,0,0,0,0,0,0] [] [(cl b9 217 [(ii x3),(ll cC x4 n10),(ll a26 (aD (aD eQ (ax bI) (-1)) (ax bI) (IntKind.i32.wrap (rd fW.1 bI))) n26)])] J J trivial dB (ro T 8 (ar (_,_,_,_,_) [0,0,0,0,0,0,0,1,0] ⟨eF,pW⟩ J J)))))
  refine rc T 8 (ar (_,_,_,_,_) [0,0,0,0,0,0,0,1,0] ⟨eF,rJ⟩ J J)
 refine rc T 7 (lm T 7 J (sg T 1 J (ro T 3 ?_)))
 cases eF;refine dD [4,5] J lC (pb T J (.cS (j:=1) [(ii x3),(ll cC x4 n10),(ll a26 eQ n26)] J J J J J J J .nil) [2,5,5,3,0] ⟨(_,_),cC,n10,bT,a26,n26,po,bL,ot,J,J⟩ J J)
def od.l0:Nat->bx->(List Int)->dO->Int->Option (Int×dO)
 |0,_,_,_,_=>none
 |k6+1,mG,v1,x4,x5=>if x5<(aa v1:Int) then(if(0<=x5/\x5<(aa v1:Int)) then((jw.f x4 (rd v1 x5) mG).bind λv7=>if(0<=(rd v1 x5)/\(rd v1 x5)<(aa x4.parts:Int)) then((tg.f x4.count 1).bind λv8=>od.l0 k6 mG v1 (dO.mk (aD x4.parts (ax (rd v1 x5)) v7) x4.clean v8) (af (x5+1))) else none) else none) else((pE.f mG).bind λv9=>some ((aa v1:Int),(dO.mk x4.parts v9 x4.count)))
def od.f (m:dO) (mG:bx):Option (Int×dO):=(oc.f m mG).bind λv1=>od.l0 fuel mG v1 m 0
def od.R (aaD:Nat) (afo:Nat) (r:(Int×dO)):bj:=λu G=> ∃(H0:Hp),ng r.2 aaD afo H0/\u=(ii r.1)/\G=[H0]
theorem od.c (H:od.f m mG=some r) (sY:ng m iO lB nJ) (lN:iL mG lB lR):
 QR 181 [(pp iO)] [nJ,lR] [lR] F (od.R iO lB r):=by
 unfold od.f at H;refine aF Tryz.func181 J J (λW=>rc T 12 (eN J (rc T 5 (kr oc.R [0,0] [0,0] J aeb H (oc.c · sY lN) (λv1 H=>?_)))));rintro _ _ ⟨a3,n3,H3,s3,rfl,rfl⟩;refine fz J (ro T 12 (lq [0,3,10,11] [0,2,0] (λ(⟨k6,x4,x5,H5⟩:Nat×dO×Int×Hp)=>(od.l0 k6 mG v1 x4 x5=some r/\ng x4 iO lB H5,[(12,(ii x5))],[H5])) J J (fuel,m,0,nJ) [0,2,0,0] ⟨H,sY⟩ J J ?_));rintro k6 ⟨x4,x5,H5⟩ ⟨Z2,s5⟩;rw[od.l0] at Z2;refine rc T 6 (cd J Z2 (λZ2=>?_) (λZ2=>?_))
 ·refine rc T 6 ?_;obtain⟨c4,Z2⟩:=az Z2;obtain⟨q6,o6,e6⟩:=s3.r.addr c4.1 c4.2;refine ix T J e6 c4 (le T 0 (oO s3 2) e6 c4 J J (ro T 4 ?_));obtain⟨a9,n9,H9,s9,sE⟩:=(λx=>x) s5;refine bU 3 (congrArg some sE) (fz J (fz J (rz [9] mix (bH bG) (λhg pf=>ha T 7 [0,1,2] sz hg pf J (al T 3 3 sz hg pf J J J (ha T 3 [4,5,6] sz hg pf J (ao 7 ?_)))))));obtain⟨v7,V5,Z2⟩:=gx Z2;refine FP (As:=[(cl iO 213 [(pp lB),(ll a9 x4.parts n9),(ii x4.clean),(uu x4.count)]),H9,lR]) (jw.R v7) [(cl iO 213 [(pp lB),(ll a9 x4.parts n9),(ii x4.clean),(uu x4.count)]),H9,lR] [3,3,1] J J J J acU J J (Jm (A:=[H5,lR]) (A2:=[H5,lR]) (by simp only[sE,vQ,vP,vR,tv,uR]) (by simp only[sE,vQ,vP,vR,tv,uR]) (jw.c V5 s5 lN)) ?_
  rintro _ _ ⟨cC,n10,bT,dj,n11,cH,bL,cX,rfl,rfl⟩;refine fz J (an (so [0,5,0,2,2]) ?_);obtain⟨c6,Z2⟩:=az Z2;obtain⟨wL,O1,tQ⟩:=s9.r.addr c6.1 c6.2;refine av 8 (so [0,5,0,2,2]) hg pf J (cu T J J J J J tQ c6.1 c6.2) (ao 9 (Mc (j:=5) J s9 c6 (λ_ _ dP o15 dS=>?_)));obtain⟨dh,n13,dI,gU,n14,fp,cY,fT,rfl,rfl⟩:=o15;refine Mf (Md T 5 0 [(ii v7.version),(ll cC v7.nodes n10),(ll dj v7.aN n11)] J J J J J J dS tQ J J J J (λft eB=>an sl (ae (gL [2,2] J (Mb (j:=3) (q:=7) v7 J eB J J ⟨cC,n10,bT,dj,n11,cH,bL,cX,J,J⟩ (λfv fM=>kg [0,3,10,11,12] [0,0,1,1] [0,0,1,1,0] [] [(cl iO 213 [(pp lB),(ll a9 (aD x4.parts (ax (rd v1 x5)) v7) n9),(ii x4.clean),(uu x4.count)])] J J trivial dB (rx T 6 (lf T 4 J (k [] J JQ Z2 (tg.c ·) (λv8 Z2=>ro T 2 (sg T 4 J (ro T 8 (gL [4,2] J (ar (_,_,_) [0,1,0,0] ⟨Z2,(show ng (dO.mk (aD x4.parts (ax (rd v1 x5)) v7) x4.clean v8) iO lB (List.flatten [(cl iO 213 [(pp lB),(ll a9 (aD x4.parts (ax (rd v1 x5)) v7) n9),(ii x4.clean),(uu v8)]),fv]) from⟨a9,n9,fv,fM,J⟩)⟩ J J))))))))))))))
 refine rc T 6 ?_;obtain⟨a21,n21,ln,jA,Gm⟩:=(λx=>x) s5;refine bU 3 (congrArg some Gm) (fz J (rc T 5 (lf T 3 J (k [1] J Cu Z2 (pE.c · lN) (λv9 Z2=>ro T 2 (sg T 3 J (ro T 10 ?_)))))))
 cases Z2;refine gL [3,3] J (p1 T J [3,1,0] ⟨(List.flatten [(cl iO 213 [(pp lB),(ll a21 x4.parts n21),(ii v9),(uu x4.count)]),ln]),(show ng (dO.mk x4.parts v9 x4.count) iO lB (List.flatten [(cl iO 213 [(pp lB),(ll a21 x4.parts n21),(ii v9),(uu x4.count)]),ln]) from⟨a21,n21,ln,jA,J⟩),J,J⟩ J)
def yi.f (m:dO) (bB:Int) (mG:bx):Option (List Int):=(if bB<0 then(some true) else(some (decide (bB≥(aa m.parts:Int))))).bind λx1=>if x1=true then(some []) else(if(0<=bB/\bB<(aa m.parts:Int)) then((qO.f ((rd m.parts bB).nodes)).bind λv3=>some v3) else none)
def yi.R (r:(List Int)):bj:=λu G=> ∃a0 n0 H0,aj (Fl.int .i64) 3 r a0 n0 H0/\u=(ll a0 r n0)/\G=[H0]
theorem yi.c (H:yi.f m bB mG=some r) (sY:ng m iO lB nJ) (lN:iL mG lB lR):
 QR 215 [(pp iO),(ii bB)] [nJ,lR] [nJ,lR] F (yi.R r):=by
 unfold yi.f at H;refine aF Tryz.func215 J J (λW=>rc T 6 (mq H [0,1] [2,0,0] (λz2 (x1:Bool)=>(x1=z2,[(19,(bb x1))],[])) J J (λz2 Z1 _=>?_) ?_))
 ·obtain⟨a5,n5,H5,s5,dx⟩:=(λx=>x) sY;refine bU 0 (congrArg some dx) (fz J (rc T 8 (ad 11 J Z1 (λZ1=>?_) (λZ1=>?_))))
  ·refine ro T 10 (dD [2,2] J dx (am _ [1,1,0] (oi Z1) J J))
  refine ro T 4 (lf T 2 J (ro T 5 (dD [2,2] J dx (am _ [1,1,0] (oi Z1) J J))))
 rintro _ x1 rfl H;refine cb J H (λH=>?_) (λH=>?_)
 ·refine rc T 7 ?_
  cases H;refine bz (p1 T J [3,1,1,0] ⟨none,0,[],aj.nil,J,J⟩ J)
 refine rc T 3 ?_;obtain⟨a9,n9,H9,s9,sE⟩:=(λx=>x) sY;refine bU 1 (congrArg some sE) (fz J (rc T 4 (lf T 2 J (ro T 1 ?_))));obtain⟨c4,H⟩:=az H;obtain⟨K4,KY,qn⟩:=s9.r.addr c4.1 c4.2;refine ix T J qn c4 (ro T 1 ?_);obtain⟨_,w13,⟨dj,n11,a12,n12,⟨Ws,m11⟩,⟨r12,m12⟩,rfl⟩⟩:=nQ.view s9.r c4;refine lg T J (CJ (j:=3) J w13 qn 1 J) (kr qO.R [] [] J Nu H (qO.c · (rO Ws 3) m11) (λv3 H=>?_));rintro _ _ ⟨gU,n14,fp,fT,rfl,rfl⟩;refine fz J (ro T 4 ?_)
 cases H;refine dD [2,2] J sE (p1 T J [2,2,1,0] ⟨gU,n14,fp,fT,J,J⟩ J)
def EC.f (p:pQ) (cell:Int):Option (Int×Bool):=(pg.f p.nodes cell).bind λv1=>some (v1.1,v1.2)
theorem EC.c (H:EC.f p cell=some r) (KP:BR Mm O7 [(ii p.version),(ll L3 p.nodes OT),(ll L2 p.aN OS)] F) (SC:aO (Fl.int .i64) p.nodes L3 F) (Rg:aa p.nodes<=OT) (Na:aO (Fl.int .i32) p.aN L2 F) (aav:aa p.aN<=OS):
 QU 272 [(.pointer (some ⟨Mm,O7+0,none⟩)),(ii cell)] [] F (.tuple #[(ii r.1),(bb r.2)]):=by
 unfold EC.f at H;refine aF Tryz.func272 J J (λW=>rc T 11 (lg T J (Ow KP (j:=0) J 1 J) (ro T 1 (k [] J adB H (pg.c · (rO SC 0) Rg) (λv1 H=>ro T 7 ?_)))))
 cases H;exact p0 T J [0] J
def ud.f (m:dO) (cell:Int) (mG:bx):Option ((Option Int)×Int×Bool):=(iQ.f mG).bind λv1=>(gG.f v1.1 v1.2 cell).bind λv2=>if v2<0 then(some (none,0,false)) else(if(0<=v2/\v2<(aa m.parts:Int)) then((EC.f (rd m.parts v2) cell).bind λv3=>some ((some v2),v3.1,v3.2)) else none)
def ud.R (xa0:Option Addr) (xl0:Nat) (r:((Option Int)×Int×Bool)):bj:=λu G=> ∃(u0:Value),Yg r.1 xa0 xl0 3 u0/\u=(.tuple #[u0,(ii r.2.1),(bb r.2.2)])/\G=[]
theorem ud.c (H:ud.f m cell mG=some r) (WU:gT Pe 217 m.parts L0 Ve Qh) (lN:iL mG lB lR):
 QR 243 [(pp iO),(ii cell)] [(cl iO 213 [(pp lB),(ll L0 m.parts Ve),(ii m.clean),(uu m.count)]),Qh,lR] [(cl iO 213 [(pp lB),(ll L0 m.parts Ve),(ii m.clean),(uu m.count)]),Qh,lR] F (ud.R L0 (aa m.parts) r):=by
 unfold ud.f at H;refine aF Tryz.func243 J J (λW=>rc T 14 (eN J (rc T 7 (lf T 0 J (k [2] J vc H (iQ.c · lN) (λv1 H=>ro T 12 (k [] J sF H (gG.c ·) (λv2 H=>ro T 10 (cd J H (λH=>?_) (λH=>?_))))))))))
 ·refine rc T 9 ?_
  cases H;exact p1 T J [0,0,0,0] ⟨_,J,J,J⟩ J
 refine rc T 7 (lf T 0 J (ro T 1 ?_));obtain⟨c4,H⟩:=az H;obtain⟨q4,o4,e4⟩:=WU.r.addr c4.1 c4.2;refine ix T J e4 c4 (ro T 7 ?_);obtain⟨_,w7,⟨a5,n5,a6,n6,⟨r5,m5⟩,⟨r6,m6⟩,rfl⟩⟩:=nQ.view WU.r c4;refine k [] J adu H (EC.c · (QS w7 e4 (j:=1) J) (rO r5 1) m5 (rO r6 1) m6) (λv3 H=>ro T 18 ?_)
 cases H;exact p1 T J [0,0,0,0] ⟨_,⟨c4,q4,o4,e4,J⟩,J,J⟩ J
def CX.f (p:pQ) (i:Int) (j:Int):Option Int:=if(0<=(af ((af (i*(aa p.nodes:Int)))+j))/\(af ((af (i*(aa p.nodes:Int)))+j))<(aa p.aN:Int)) then(if((rd p.aN (af ((af (i*(aa p.nodes:Int)))+j)))!=(-1))=true then(some (af (rd p.aN (af ((af (i*(aa p.nodes:Int)))+j))))) else(some 1099511627776)) else none
theorem CX.c (H:CX.f p i j=some r) (KP:BR Mm O7 [(ii p.version),(ll L3 p.nodes OT),(ll L2 p.aN OS)] F) (SC:aO (Fl.int .i64) p.nodes L3 F) (Rg:aa p.nodes<=OT) (Na:aO (Fl.int .i32) p.aN L2 F) (aav:aa p.aN<=OS):
 QU 244 [(.pointer (some ⟨Mm,O7+0,none⟩)),(ii i),(ii j)] [] F (ii r):=by
 unfold CX.f at H;refine aF Tryz.func244 J J (λW=>rc T 7 (dw mix aB (au T J (au T J (au T J (bf J J J (cw T J J J J (Ow KP (j:=0) J 2 J)) ?_))))))
 iterate 4 refine au T J ?_
 refine bf J J J (cw T J J J J (Ow KP (j:=0) J 1 J)) ?_
 iterate 4 refine au T J ?_
 obtain⟨c1,H⟩:=az H;obtain⟨q1,o1,e1⟩:=Na.addr c1.1 c1.2;refine bf J J J (cu T J J J J J e1 c1.1 c1.2) (bf J J J (cw T J J J J (eH (k:=(Fl.int .i32)) (rO Na 0) e1 c1 0 J)) (au T J (cO (rx T 7 (cb J H (λH=>?_) (λH=>?_))))))
 ·refine rc T 9 ?_
  cases H;exact p0 T J [0] J
 refine rc T 8 ?_
 cases H;exact p0 T J [0] J
def ig.l1:Nat->dO->Int->bx->Int->(Int×Int)->List ez->Int->Option (List ez)
 |0,_,_,_,_,_,_,_=>none
 |lZ+1,m,b,mG,eT,v10,aP,bh=>if bh<=3 then((nf.f v10.1 v10.2 b bh).bind λdZ=>(ud.f m dZ mG).bind λv17=>dM v17.1 (if v17.2.2=true then((jf.f mG b).bind λfW=>if(aa aP+1<=1099511627776) then(ig.l1 lZ m b mG eT v10 (aP++[(ez.mk dZ fW)]) (af (bh+1))) else none) else(ig.l1 lZ m b mG eT v10 aP (af (bh+1)))) (λXL=>if v17.2.2=true then(if(!(XL==eT))=true then((jf.f mG b).bind λoD=>if(aa aP+1<=1099511627776) then(ig.l1 lZ m b mG eT v10 (aP++[(ez.mk dZ oD)]) (af (bh+1))) else none) else(ig.l1 lZ m b mG eT v10 aP (af (bh+1)))) else(ig.l1 lZ m b mG eT v10 aP (af (bh+1))))) else(some aP)
def ig.l0:Nat->dO->Int->bx->((Option Int)×Int×Bool)->Int->List ez->Int->Option (List ez)
 |0,_,_,_,_,_,_,_=>none
 |k6+1,m,b,mG,v1,eT,x4,x5=>if x5<(aa ((rd m.parts eT).nodes):Int) then((if(0<=x5/\x5<(aa ((rd m.parts eT).nodes):Int)) then((CX.f (rd m.parts eT) x5 v1.2.1).bind λv9=>if((x5 !=v1.2.1)&&(v9 !=1099511627776))=true then(if(aa x4+1<=1099511627776) then(some (x4++[(ez.mk (rd ((rd m.parts eT).nodes) x5) v9)])) else none) else(some x4)) else none).bind λx7=>ig.l0 k6 m b mG v1 eT x7 (af (x5+1))) else((iQ.f mG).bind λv10=>ig.l1 fuel m b mG eT v10 x4 0)
def ig.f (m:dO) (b:Int) (mG:bx):Option (List ez):=(ud.f m b mG).bind λv1=>dM v1.1 (if(!v1.2.2)=true then(some []) else(none)) (λeT=>if(!v1.2.2)=true then(some []) else(if(0<=(0:Int)/\(0:Int)<=(af ((aa ((rd m.parts eT).nodes):Int)+1))/\(af ((aa ((rd m.parts eT).nodes):Int)+1))<=1099511627776) then(ig.l0 fuel m b mG v1 eT (cy (ax 0) (default:ez)) 0) else none))
def ig.R (r:(List ez)):bj:=λu G=> ∃a0 n0 H0,aj pN 283 r a0 n0 H0/\u=(ll a0 r n0)/\G=[H0]
theorem ig.c (H:ig.f m b mG=some r) (sY:ng m iO lB nJ) (lN:iL mG lB lR):
 QR 219 [(pp iO),(ii b)] [nJ,lR] [nJ,lR] F (ig.R r):=by
 unfold ig.f at H;refine aF Tryz.func219 J J (λW=>rc T 6 ?_);obtain⟨a5,n5,H5,s5,dx⟩:=(λx=>x) sY;refine bU 0 (congrArg some dx) (fz J (rc T 3 (kr (ud.R a5 (aa m.parts)) [2,2,0] [2,2,0] J Ti H (ud.c · s5 lN) (λv1 H=>?_))));rintro _ _ ⟨_,X2,rfl,rfl⟩;refine fz J ?_;rcases Ks:v1.1 with _ |eT
 ·replace H:=fj Ks H;rw[Ks] at X2;obtain rfl:=X2;refine ro T 16 (cb J H (λH=>?_) (λH=>?_))
  ·refine rc T 7 ?_
   cases H;refine dD [1,1] J dx (bz (p1 T J [3,2,1,0] ⟨none,0,[],aj.nil,J,J⟩ J))
  refine rc T 5 ?_
  cases H
 replace H:=fk Ks H;rw[Ks] at X2;obtain⟨M0,q6,o6,e6,rfl⟩:=X2;refine ro T 16 (cb J H (λH=>?_) (λH=>?_))
 ·refine rc T 7 ?_
  cases H;refine dD [1,1] J dx (bz (p1 T J [3,2,1,0] ⟨none,0,[],aj.nil,J,J⟩ J))
 refine rc T 7 ?_;obtain⟨_,Xv,⟨a9,n9,cC,n10,⟨r9,m9⟩,⟨Pf,m10⟩,rfl⟩⟩:=nQ.view s5.r M0;refine lg T J (CJ (j:=2) J Xv e6 1 J) (ro T 2 ?_);obtain⟨c5,H⟩:=az H;refine aV (Zm (k:=pN) T (default:ez) J J J J J J J J c5 J (λa12 n12 dq dE=>ro T 9 (lg T J (CJ (j:=2) J Xv e6 1 J) (ro T 5 (lq [0,1,5,6,38,39] [0,0,1,0] (λ(⟨k6,x4,x5,gU,n14,fp⟩:Nat×List ez×Int×Option Addr×Nat×Hp)=>(ig.l0 k6 m b mG v1 eT x4 x5=some r/\aj pN 283 x4 gU n14 fp,[(8,(ll gU x4 n14)),(40,(ii x5))],[fp])) J J (fuel,(cy (ax 0) (default:ez)),0,a12,n12,dq) [0,0,1,0,0] ⟨H,dE⟩ J J ?_)))));rintro k6 ⟨x4,x5,gU,n14,fp⟩ ⟨Z6,fT⟩;rw[ig.l0] at Z6;refine rc T 6 (cd J Z6 (λZ6=>?_) (λZ6=>?_))
 ·refine rc T 2 (mq Z6 [0,1,5,6,38,39,40] [0,0,0,0] (λz8 (⟨x7,jX,n15,dP⟩:List ez×Option Addr×Nat×Hp)=>(x7=z8/\aj pN 283 x7 jX n15 dP,[(8,(ll jX x7 n15))],[dP])) J J (λz8 Z8 _=>?_) ?_)
  ·refine rc T 4 ?_;obtain⟨c9,Z8⟩:=az Z8;obtain⟨q16,o16,F9⟩:=r9.addr c9.1 c9.2;refine ix T J F9 c9 (le T 0 (rO r9 3) F9 c9 J J (ro T 9 ?_));obtain⟨_,w19,⟨a17,n17,jl,n18,⟨r17,m17⟩,⟨r18,m18⟩,rfl⟩⟩:=nQ.view s5.r M0;refine k [] J adh Z8 (CX.c · (QS w19 e6 (j:=3) J) (rO r17 3) m17 (rO r18 3) m18) (λv9 Z8=>ro T 9 (ga T [4,5,6] 52 [0,1,5,6,8,10,11,38,39,40] 55 J J J J J J J (ro T 2 (cb J Z8 (λZ8=>?_) (λZ8=>?_)))))
   ·refine rc T 5 (aV (cW (k:=pN) T [(ez.mk (rd ((rd m.parts eT).nodes) x5) v9)] J J J J J J J J J (λa20 nI lL=>?_)));obtain⟨gy,Z8⟩:=az Z8;refine aV (dQ (k:=pN) (xs:=x4) T (g:=4) J J J J J J J J J J fT (oO lL 5) gy J (λa21 n21 ln jA=>ro T 4 (am (_,_,_,_) [0,0,0,0,0] ⟨oi Z8,jA⟩ J J)))
   refine rc T 3 (am (_,_,_,_) [0,0,0,0,0] ⟨oi Z8,fT⟩ J J)
  rintro _ ⟨x7,jX,n15,dP⟩ ⟨rfl,dS⟩ Z6;refine rc T 5 (ar (_,_,_,_,_) [0,0,0,0,0] ⟨Z6,dS⟩ J J)
 refine rc T 10 (lf T 1 J (k [2] J vc Z6 (iQ.c · lN) (λv10 Z6=>ro T 14 (lq [0,1,5,12,13] [0,0,0,0] (λ(⟨lZ,aP,bh,a23,n23,jC⟩:Nat×List ez×Int×Option Addr×Nat×Hp)=>(ig.l1 lZ m b mG eT v10 aP bh=some r/\aj pN 283 aP a23 n23 jC,[(8,(ll a23 aP n23)),(14,(ii bh))],[jC])) J J (fuel,x4,0,gU,n14,fp) [0,0,0,0,0] ⟨Z6,fT⟩ J J ?_))));rintro lZ ⟨aP,bh,a23,n23,jC⟩ ⟨bY,gD⟩;rw[ig.l1] at bY;refine rc T 7 (cd J bY (λbY=>?_) (λbY=>?_))
 ·refine rc T 10 (k [] J A9 bY (nf.c ·) (λdZ bY=>ro T 7 (kr (ud.R a5 (aa m.parts)) [1,2,1] [1,2,1] J Ti bY (ud.c · s5 lN) (λv17 bY=>?_))));rintro _ _ ⟨_,I1,rfl,rfl⟩;refine fz J ?_;rcases Ku:v17.1 with _ |XL
  ·replace bY:=fj Ku bY;rw[Ku] at I1;obtain rfl:=I1;refine ro T 13 (ab 88 J bY (λbY=>?_) (λbY=>?_))
   ·refine ro T 2 (bA J (abA T J J J J) (ro T 3 (nS J (rc T 6 (lf T 2 J (ro T 1 (k [4] J wm bY (jf.c · lN) (λfW bY=>ro T 1 (aV (cW (k:=pN) T [(ez.mk dZ fW)] J J J J J J J J J (λa25 ir jQ=>?_)))))))))));obtain⟨pB,bY⟩:=az bY;refine aV (dQ (k:=pN) (xs:=aP) T (g:=1) J J J J J J J J J J gD (oO jQ 5) pB J (λa26 n26 po ot=>ro T 10 (ar (_,_,_,_,_) [0,1,2,1,0] ⟨bY,ot⟩ J J)))
   refine ro T 6 (eN J (rc T 9 (ar (_,_,_,_,_) [0,1,2,1,0] ⟨bY,gD⟩ J J)))
  replace bY:=fk Ku bY;rw[Ku] at I1;obtain⟨abN,q24,o24,e24,rfl⟩:=I1;refine ro T 13 (ab 88 J bY (λbY=>?_) (λbY=>?_))
  ·refine ro T 2 (bA J (abB T J J J J J J e24 e6 abN.1 M0.1) (ro T 3 (cb J bY (λbY=>?_) (λbY=>?_))))
   ·refine rc T 6 (lf T 2 J (ro T 1 (k [4] J wm bY (jf.c · lN) (λoD bY=>ro T 1 (aV (cW (k:=pN) T [(ez.mk dZ oD)] J J J J J J J J J (λI2 Fq wV=>?_)))))));obtain⟨c25,bY⟩:=az bY;refine aV (dQ (k:=pN) (xs:=aP) T (g:=1) J J J J J J J J J J gD (oO wV 5) c25 J (λa28 n28 vH kB=>ro T 10 (ar (_,_,_,_,_) [0,1,2,1,0] ⟨bY,kB⟩ J J)))
   refine rc T 9 (ar (_,_,_,_,_) [0,1,2,1,0] ⟨bY,gD⟩ J J)
  refine ro T 6 (eN J (rc T 9 (ar (_,_,_,_,_) [0,1,2,1,0] ⟨bY,gD⟩ J J)))
 refine rc T 12 ?_
 cases bY;refine dD [1,2] J dx (p1 T J [2,2,1,0] ⟨a23,n23,jC,gD,J,J⟩ J)
end
end Go.Proofs.YthodkonhneebbaaGreatDoor
