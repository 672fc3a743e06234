/- What the functions of some packages compute, each as a function of plain Lean, with its contract. No condition. -/
import Derived.Test.YthodkonhneebbaaGreatDoorKDT
import Derived.Test.YthodkonhneebbaaGreatDoorKD5
import Derived.Test.YthodkonhneebbaaGreatDoorKDSort
import Derived.Test.YthodkonhneebbaaGreatDoorKD7
import Derived.Test.YthodkonhneebbaaGreatDoorKD6
namespace Go.Proofs.YthodkonhneebbaaGreatDoor
open Go.Hx
open Int renaming tmod->fy,tdiv->cZ,toNat->ax
open List renaming length->aa,set->aD,replicate->ct,flatten_cons->vC,flatten_append->vB,flatten_nil->vD,append_nil->sY,append_assoc->uz,length_cons->uA
set_option maxRecDepth 100000
set_option linter.unusedSimpArgs false
set_option linter.unusedVariables false
set_option maxHeartbeats 4000000
set_option autoImplicit true
set_option relaxedAutoImplicit true
noncomputable section
def Dl.f (t:aF) (cell:Int) (side:Int):Option Bool:=if(¬t.W=0) then(if(¬t.W=0) then(if(side==0)=true then(some ((af (cZ cell t.W))==0)) else(if(side==1)=true then(some ((fy cell t.W)==(af (t.W-1)))) else(if(side==2)=true then(some ((af (cZ cell t.W))==(af (t.H-1)))) else(if(side==3)=true then(some ((fy cell t.W)==0)) else(some (side==4)))))) else none) else none
theorem Dl.c (H:Dl.f t cell side=some r) (dU:aP (Fl.int .u8) t.C iz F) (fq:aa t.C<=iB):
 QU 223 [(.agg #[(ii t.W),(ii t.H),(ll iz t.C iB)]),(ii cell),(ii side)] [] F (bb r):=by
 unfold Dl.f at H;refine aG Tryz.func223 J J (λW=>rc T 2 (nc T J (λb1=>ro T 4 (dq mix aA (au T J (au T J (cw T 1 J J J ?_)))))));obtain⟨c1,H⟩:=az H;refine bg J J J (uP J J J c1) (au T J (au T J (cw T 1 J J J ?_)));obtain⟨c2,H⟩:=az H;refine bg J J J (uO J J J c2) (au T J (au T J (cM (rx T 14 (cb J H (λH=>?_) (λH=>?_))))))
 ·refine rc T 10 ?_
  cases H;exact p0 T J [0] J
 refine rc T 6 (cb J H (λH=>?_) (λH=>?_))
 ·refine rc T 4 (lf T 1 J (ro T 8 ?_))
  cases H;exact p0 T J [0] J
 refine rc T 6 (cb J H (λH=>?_) (λH=>?_))
 ·refine rc T 4 (lf T 1 J (ro T 8 ?_))
  cases H;exact p0 T J [0] J
 refine rc T 6 (cb J H (λH=>?_) (λH=>?_))
 ·refine rc T 10 ?_
  cases H;exact p0 T J [0] J
 refine rc T 11 ?_
 cases H;exact p0 T J [0] J
def Dk.f (s:aX) (ai:aF):Option Bool:=(if s.Cell<0 then(some true) else(if s.Cell≥(aa ai.C:Int) then(some true) else(if(0<=s.Cell/\s.Cell<(aa ai.C:Int)) then(if((rd ai.C s.Cell)==255)=true then(some true) else(if s.Key<0 then(some true) else(if s.Key>1073741824 then(some true) else((Dl.f ai s.Cell s.cH).bind λv3=>some (!v3))))) else none))).bind λx1=>some x1
theorem Dk.c (H:Dk.f s ai=some r) (G2:(uF,Obj.cells #[(ii ai.W),(ii ai.H),(ll IP ai.C Kz)] 139 (0,0))∈F) (D8:aP (Fl.int .u8) ai.C IP F) (QW:aa ai.C<=Kz):
 QU 222 [(.agg #[(ii s.Cell),(ii s.cH),(ii s.Key)]),(pp uF)] [] F (bb r):=by
 unfold Dk.f at H;refine aG Tryz.func222 J J (λW=>rc T 2 (nc T J (λb1=>ro T 3 (mq H [] [0] (λz2 (x1:Bool)=>(x1=z2,[(3,(bb x1))],[])) J J (λz2 Z1 _=>?_) ?_))))
 ·refine rc T 2 (lf T 1 J (ro T 2 (ad 7 J Z1 (λZ1=>?_) (λZ1=>?_))))
  ·refine ro T 38 (am _ [0] (oi Z1) J J)
  refine ro T 1 (lf T 1 J (ro T 1 (lg T J (nU (j:=0) G2 J J) (ro T 4 (ad 15 J Z1 (λZ1=>?_) (λZ1=>?_))))))
  ·refine ro T 30 (am _ [0] (oi Z1) J J)
  refine ro T 1 (lg T J (nU (j:=0) G2 J J) (ro T 1 (lf T 1 J ?_)));obtain⟨c4,Z1⟩:=az Z1;obtain⟨q2,o2,e2⟩:=D8.addr c4.1 c4.2;refine ix T J e2 c4 (le T 0 (rO D8 0) e2 c4 J J (ro T 3 (ab 24 J Z1 (λZ1=>?_) (λZ1=>?_))))
  ·refine ro T 21 (am _ [0] (oi Z1) J J)
  refine ro T 1 (lf T 1 J (ro T 3 (ad 29 J Z1 (λZ1=>?_) (λZ1=>?_))))
  ·refine ro T 16 (am _ [0] (oi Z1) J J)
  refine ro T 1 (lf T 1 J (ro T 3 (ad 34 J Z1 (λZ1=>?_) (λZ1=>?_))))
  ·refine ro T 11 (am _ [0] (oi Z1) J J)
  refine bx J (gd T (cs:=[(ii ai.W),(ii ai.H),(ll IP ai.C Kz)]) J J J J J J (aef (j:=0) G2 J J)) (ro T 1 (lf T 1 J (ro T 1 (lf T 1 J (k [] J acB Z1 (Dl.c · (rO D8 0) QW) (λv3 Z1=>ro T 5 (am _ [0] (oi Z1) J J)))))))
 rintro _ x1 rfl H;refine rc T 1 ?_
 cases H;exact p0 T J [0] J
def rA.l0:Nat->(List aX)->aF->Int->Option Int
 |0,_,_,_=>none
 |k3+1,s,fE,x2=>if x2<(aa s:Int) then(if(0<=x2/\x2<(aa s:Int)) then((Dk.f (rd s x2) fE).bind λv4=>if v4=true then(some x2) else(rA.l0 k3 s fE (af (x2+1)))) else none) else(some (-1))
def rA.f (s:(List aX)) (fE:aF):Option Int:=rA.l0 fuel s fE 0
theorem rA.c (H:rA.f s fE=some r) (jB:aP cP s iW F) (rV:aa s<=jc) (CG:(B2,Obj.cells #[(ii fE.W),(ii fE.H),(ll BU fE.C CN)] 139 (0,0))∈F) (Cf:aP (Fl.int .u8) fE.C BU F) (B7:aa fE.C<=CN):
 QU 246 [(ll iW s jc),(.func (.func 222) #[] #[(pp B2)])] [] F (ii r):=by
 unfold rA.f at H;refine aG Tryz.func246 J J (λW=>rc T 14 (lq [0,1,7] [0] (λ(⟨k3,x2⟩:Nat×Int)=>(rA.l0 k3 s fE x2=some r,[(8,(ii x2))],[])) J J (fuel,0) [0] H J J ?_));rintro k3 x2 Z1;replace Z1:rA.l0 (k3+1) s fE x2=some r:=Z1;rw[rA.l0] at Z1;refine rc T 6 (cd J Z1 (λZ1=>?_) (λZ1=>?_))
 ·refine rc T 15 ?_;obtain⟨c3,Z1⟩:=az Z1;obtain⟨q1,o1,e1⟩:=jB.addr c3.1 c3.2;refine ix T J e1 c3 (bx J (gd T (cs:=[(ii (rd s x2).Cell),(ii (rd s x2).cH),(ii (rd s x2).Key)]) J J J J J J (iu (k:=cP) (rO jB 0) e1 c3 J)) (k [] J acA Z1 (Dk.c · (qo CG (j:=0) J) (rO Cf 0) B7) (λv4 Z1=>ro T 2 (cb J Z1 (λZ1=>?_) (λZ1=>?_)))))
  ·refine rc T 12 ?_
   cases Z1;exact p0 T J [0] J
  refine rc T 8 (ar _ [0] Z1 J J)
 refine rc T 11 ?_
 cases Z1;exact p0 T J [0] J
def ES.f (s:(List aX)) (fE:aF):Option Bool:=(rA.f s fE).bind λv1=>some (decide (v1≥0))
theorem ES.c (H:ES.f s fE=some r) (jB:aP cP s iW F) (rV:aa s<=jc) (CG:(B2,Obj.cells #[(ii fE.W),(ii fE.H),(ll BU fE.C CN)] 139 (0,0))∈F) (Cf:aP (Fl.int .u8) fE.C BU F) (B7:aa fE.C<=CN):
 QU 221 [(ll iW s jc),(.func (.func 222) #[] #[(pp B2)])] [] F (bb r):=by
 unfold ES.f at H;refine aG Tryz.func221 J J (λW=>rc T 9 (k [] J acS H (rA.c · (rO jB 0) rV (qo CG (j:=0) J) (rO Cf 0) B7) (λv1 H=>ro T 5 ?_)))
 cases H;exact p0 T J [0] J
def zZ.f (t:aF) (l:(List aX)):Option Bool:=(uk.f t).bind λv1=>if(!v1)=true then(some false) else((ES.f l t).bind λv2=>some (!v2))
theorem zZ.c (H:zZ.f t l=some r) (dU:aP (Fl.int .u8) t.C iz F) (fq:aa t.C<=iB) (df:aP cP l gV F) (f_:aa l<=gQ):
 QU 183 [(.agg #[(ii t.W),(ii t.H),(ll iz t.C iB)]),(ll gV l gQ)] [] F (bb r):=by
 unfold zZ.f at H;refine aG Tryz.func183 J J (λW=>rc T 2 (nc T J (λb1=>ro T 6 (lm T 1 J (k [] J JI H (uk.c · (rO dU 0) fq) (λv1 H=>ro T 3 (cb J H (λH=>?_) (λH=>?_))))))))
 ·refine rc T 7 ?_
  cases H;exact p0 T J [0] J
 refine rc T 6 (k [] J acz H (ES.c · (rO df 0) f_ (CI (j:=1) J) (rO dU 0) fq) (λv2 H=>ro T 5 ?_))
 cases H;exact p0 T J [0] J
def pT.f (a:aX) (b:aX):Option Int:=(tn.f a.Key b.Key).bind λv1=>(tn.f a.Cell b.Cell).bind λv2=>(tn.f a.cH b.cH).bind λv3=>(ng.f [v1,v2,v3]).bind λv4=>some v4
theorem pT.c (H:pT.f a b=some r):
 QU 209 [(.agg #[(ii a.Cell),(ii a.cH),(ii a.Key)]),(.agg #[(ii b.Cell),(ii b.cH),(ii b.Key)])] [] F (ii r):=by
 unfold pT.f at H;refine aG Tryz.func209 J J (λW=>rc T 2 (nc T J (λb1=>nc T J (λb2=>ro T 4 (ks [2,3] J (fz J (rg [] [0,0,0] mix (bR bQ) (λhg pf=>ha T 17 [0] sz hg pf J (al T 1 1 sz hg pf J J J (ha T 15 [2] sz hg pf J (al T 3 2 sz hg pf J J J (ha T 13 [5] sz hg pf J (al T 6 1 sz hg pf J J J (ha T 11 [7] sz hg pf J (al T 8 2 sz hg pf J J J (ha T 9 [10] sz hg pf J (al T 11 1 sz hg pf J J J (ha T 7 [12] sz hg pf J (al T 13 2 sz hg pf J J J (ao 4 (kh [] J M5 H (tn.c ·) (λv1 H=>an sz (ao 9 (kh [] J M5 H (tn.c ·) (λv2 H=>an sz (ao 14 (kh [] J M5 H (tn.c ·) (λv3 H=>an sz (ao 15 (c_ (k:=(Fl.int .i64)) T [v1,v2,v3] J J J J J J J J J (λa3 H3 s3=>an (so [0,0,0]) (ao 16 (kh [] J acM H (ng.c · (oO s3 3) s3.b_) (λv4 H=>an (so [0,0,0]) (ha T 0 [17] (so [0,0,0]) hg pf J (ae (rx T 2 ?_)))))))))))))))))))))))))))))))))))))
 cases H;exact p0 T J [0] J
def HN.f:Option Unit:=some ()
theorem HN.c (H:HN.f=some r):
 QU 255 [nl,(ii 0),(ii 0),(.func (.func 209) #[] #[])] [] F (.tuple #[]):=by
 unfold HN.f at H;refine aG Tryz.func255 J J (λW=>rc T 8 (lu [0,1,2,3,8] [0] J J (rc T 8 (e_ J (rc T 4 (jk ?_))))))
 cases H;exact p0 T J [0] J
def HO.f (UL:Int):Option Unit:=(HN.f).bind λv1=>some ()
theorem HO.c (H:HO.f UL=some r):
 QU 234 [nl,(ii 0),(ii 0),(ii UL),(.func (.func 209) #[] #[])] [] F (.tuple #[]):=by
 unfold HO.f at H;refine aG Tryz.func234 J J (λW=>rc T 11 (lu [0,1,2,3,4,10,11] [0] J J (rc T 16 (nL J (rc T 6 (k [] J acY H (HN.c ·) (λv1 H=>ro T 7 ?_)))))))
 cases H;exact p0 T J [0] J
def K0.f:Option Unit:=(G4.f (eW 0)).bind λv1=>(HO.f v1).bind λv2=>some ()
theorem K0.c (H:K0.f=some r):
 QU 208 [nl,(.func (.func 209) #[] #[])] [] F (.tuple #[]):=by
 unfold K0.f at H;refine aG Tryz.func208 J J (λW=>rc T 12 (k [] J acL H (G4.c ·) (λv1 H=>ro T 1 (k [] J acK H (HO.c ·) (λv2 H=>ro T 1 (jk ?_))))))
 cases H;exact p0 T J [0] J
def Bl.f (s:(List aX)):Option (List aX):=if aa s<4611686018427387904 then some (pX (λa b=>Option.getD (pT.f a b) 0) s) else none
def Bl.R (aib:Option Addr) (aiy:Nat) (aiu:Nat) (r:List aX):bk:=λu G=> ∃(H0:Hp),ak cP 285 r aib aiy H0/\aa r=aiu/\u=(.tuple #[])/\G=[H0]
theorem Q7 (x y:Int):tn.f x y=some (if x<y then-1 else if x>y then 1 else 0):=by
 simp[tn.f,cmp_isNaN_int.f];split
 ·rfl
 ·split<;>rfl
theorem Q8 (a b c:Int):ng.f [a,b,c]=some (if a=0 then(if b=0 then c else b) else a):=by
 have e1:af (0+1)=1:=by decide
 have e2:af (1+1)=2:=by decide
 have e3:af (2+1)=3:=by decide
 unfold ng.f;rw[cY,ng.l0]
 by_cases ha:a=0
 ·subst ha;simp only[uA,List.length_nil,rd,e1];rw[ng.l0]
  by_cases hb:b=0
  ·subst hb;simp only[uA,List.length_nil,rd,e2];rw[ng.l0]
   by_cases hc:c=0
   ·subst hc;simp only[uA,List.length_nil,rd,e3];rw[ng.l0];simp
   ·simp[rd,hc]
  ·simp[rd,hb]
 ·simp[rd,ha]
theorem ahq (a b:aX): ∃v,pT.f a b=some v:=by
 unfold pT.f;simp only[Q7,Q8,Option.bind_some];exact⟨_,J⟩
theorem aho (a b:aX):pT.f a b=some (Option.getD (pT.f a b) 0):=by
 obtain⟨v,h⟩:=ahq a b;rw[h];rfl
theorem ahn (a b:aX):Option.getD (pT.f a b) 0=(if(if a.Key<b.Key then(-1:Int) else if a.Key>b.Key then 1 else 0)=0 then(if(if a.Cell<b.Cell then(-1:Int) else if a.Cell>b.Cell then 1 else 0)=0 then(if a.cH<b.cH then(-1:Int) else if a.cH>b.cH then 1 else 0) else(if a.Cell<b.Cell then(-1:Int) else if a.Cell>b.Cell then 1 else 0)) else(if a.Key<b.Key then(-1:Int) else if a.Key>b.Key then 1 else 0)):=by
 unfold pT.f;simp only[Q7,Q8,Option.bind_some,Option.getD_some]
theorem Pd (a b:aX):Go.Proofs.ltOf (λa b=>Option.getD (pT.f a b) 0) a b=decide (a.Key<b.Key∨a.Key=b.Key/\(a.Cell<b.Cell∨a.Cell=b.Cell/\a.cH<b.cH)):=by
 unfold Go.Proofs.ltOf;simp only[ahn]
 congr 1
 apply propext;constructor
 ·intro h
  by_cases k1:a.Key<b.Key
  ·exact .inl k1
  ·by_cases k2:a.Key>b.Key
   ·simp[k1,k2] at h
   ·by_cases c1:a.Cell<b.Cell
    ·exact .inr ⟨by omega,.inl c1⟩
    ·by_cases c2:a.Cell>b.Cell
     ·simp[k1,k2,c1,c2] at h
     ·by_cases s1:a.cH<b.cH
      ·exact .inr ⟨by omega,.inr ⟨by omega,s1⟩⟩
      ·by_cases s2:a.cH>b.cH
       ·simp[k1,k2,c1,c2,s1,s2] at h
       ·simp[k1,k2,c1,c2,s1,s2] at h
 ·intro h
  by_cases k1:a.Key<b.Key
  ·simp[k1]
  ·by_cases k2:a.Key>b.Key
   ·exfalso;omega
   ·by_cases c1:a.Cell<b.Cell
    ·simp[k1,k2,c1]
    ·by_cases c2:a.Cell>b.Cell
     ·exfalso;omega
     ·have s1:a.cH<b.cH:=U;simp[k1,k2,c1,c2,s1]
theorem ahp:Go.Sort.SWO (Go.Proofs.ltOf (λa b=>Option.getD (pT.f a b) 0)) where
 irrefl x:=by rw[Pd];simp
 trans x y z h1 h2:=by rw[Pd] at*;simp only[decide_eq_true_eq] at*;omega
 ntrans x y z h1 h2:=by rw[Pd] at*;simp only[decide_eq_false_iff_not] at*;omega
theorem ahE: ∀w,(isAgg 285).run Tryz.prog w= .ok true w:=λw=>by kernel_rfl
theorem ahH: ∀w,(Go.sizeOf 285).run Tryz.prog w= .ok 3 w:=λw=>by kernel_rfl
theorem Bl.c {iW:Option Addr} {jc:Nat} {dZ:Hp} {s r:List aX} {F:Hp} (H:Bl.f s=some r) (cX:ak cP 285 s iW jc dZ):
 QR 208 [(ll iW s jc),(.func (.func 209) #[] #[])] [dZ] [] F (Bl.R iW jc (aa s) r):=by
 obtain⟨hl,H⟩:=az H;obtain rfl:=Option.some.inj H;exact ahI Go.Proofs.Tryz.ahF cP ahE ahH (λa b=>Option.getD (pT.f a b) 0) ahp 209 (Go.Proofs.enters_of Tryz.func209 aA J) (λx y F=>pT.c (F:=F) (aho x y)) 285 (λF=>K0.c (r:=()) (F:=F) aA) s F hl cX
def np.f (l:(List aX)):Option (List aX):=(sK.f l).bind λv1=>(Bl.f v1).bind λv2=>(jI.f v2).bind λv3=>some v3
def np.R (r:(List aX)):bk:=λu G=> ∃a0 n0 H0,ak cP 285 r a0 n0 H0/\u=(ll a0 r n0)/\G=[H0]
theorem np.c (H:np.f l=some r) (df:aP cP l gV F) (f_:aa l<=gQ):
 QR 180 [(ll gV l gQ)] [] [] F (np.R r):=by
 unfold np.f at H;refine aG Tryz.func180 J J (λW=>rc T 8 (kr sK.R [] [] J SI H (sK.c · (rO df 0) f_) (λv1 H=>?_)));rintro _ _ ⟨a1,n1,H1,s1,rfl,rfl⟩;refine fz J (ro T 6 (kr (Bl.R a1 n1 (aa v1)) [] [1] J acr H (Bl.c · s1) (λv2 H=>?_)));rintro _ _ ⟨H2,s2,l2,rfl,rfl⟩;refine fz J (kf [] [0,0] [(0,(ll a1 v2 n1))] J J ⟨(by first |rfl |(simp only[ll,l2];rfl)),trivial⟩ (ro T 5 ?_))
 refine kr jI.R [] [1] J acs H (jI.c · s2) (λv3 H=>?_);rintro _ _ ⟨a3,n3,H3,s3,rfl,rfl⟩;refine fz J (ro T 2 (ks [2] J (rx T 2 ?_)))
 cases H;exact p1 T J [1,0] ⟨a3,n3,H3,s3,J,J⟩ J
def Bi.f (a:(List aX)) (b:(List aX)):Option Bool:=(ry.f a b).bind λv1=>some v1
theorem Bi.c (H:Bi.f a b=some r) (D7:aP cP a Fx F) (L2:aa a<=Hc) (ir:aP cP b ki F) (gF:aa b<=jV):
 QU 185 [(ll Fx a Hc),(ll ki b jV)] [] F (bb r):=by
 unfold Bi.f at H;refine aG Tryz.func185 J J (λW=>rc T 9 (k [] J acD H (ry.c · (rO D7 0) L2 (rO ir 0) gF) (λv1 H=>ro T 4 ?_)))
 cases H;exact p0 T J [0] J
def kY.l0:Nat->(List aX)->Int->Int->Int->Bool->Int->Option Int
 |0,_,_,_,_,_,_=>none
 |k7+1,l,cell,side,x4,x5,x6=>if x6<(aa l:Int) then(if(0<=x6/\x6<(aa l:Int)) then((if((rd l x6).Cell==cell)=true then(if((rd l x6).cH==side)=true then(if(!x5)=true then(some true) else(some (decide ((rd l x6).Key<x4)))) else(some false)) else(some false)).bind λx8=>if x8=true then(kY.l0 k7 l cell side ((rd l x6).Key) true (af (x6+1))) else(kY.l0 k7 l cell side x4 x5 (af (x6+1)))) else none) else(some x4)
def kY.f (l:(List aX)) (cell:Int) (side:Int):Option Int:=kY.l0 fuel l cell side 1099511627776 false 0
theorem kY.c (H:kY.f l cell side=some r) (df:aP cP l gV F) (f_:aa l<=gQ):
 QU 250 [(ll gV l gQ),(ii cell),(ii side)] [] F (ii r):=by
 unfold kY.f at H;refine aG Tryz.func250 J J (λW=>rc T 20 (lq [1,2,11,12] [0] (λ(⟨k7,x4,x5,x6⟩:Nat×Int×Bool×Int)=>(kY.l0 k7 l cell side x4 x5 x6=some r,[(7,(ii x4)),(8,(bb x5)),(13,(ii x6))],[])) J J (fuel,1099511627776,false,0) [0] H J J ?_));rintro k7 ⟨x4,x5,x6⟩ Z1;replace Z1:kY.l0 (k7+1) l cell side x4 x5 x6=some r:=Z1;rw[kY.l0] at Z1;refine rc T 6 (cd J Z1 (λZ1=>?_) (λZ1=>?_))
 ·refine rc T 6 ?_;obtain⟨c3,Z1⟩:=az Z1;obtain⟨q1,o1,e1⟩:=df.addr c3.1 c3.2;refine ix T J e1 c3 (bx J (gd T (cs:=[(ii (rd l x6).Cell),(ii (rd l x6).cH),(ii (rd l x6).Key)]) J J J J J J (iu (k:=cP) (rO df 0) e1 c3 J)) (nc T J (λb2=>sg T 1 J (ro T 2 (mq Z1 [1,2,7,8,10,11,12,13] [0,0] (λz9 (x8:Bool)=>(x8=z9,[(36,(bb x8))],[])) J J (λz9 Z4 _=>?_) ?_)))))
  ·refine rc T 2 (lf T 1 J (ro T 3 (ab 21 J Z4 (λZ4=>?_) (λZ4=>?_))))
   ·refine ro T 1 (lf T 1 J (ro T 4 (ab 27 J Z4 (λZ4=>?_) (λZ4=>?_))))
    ·refine ro T 3 (ab 30 J Z4 (λZ4=>?_) (λZ4=>?_))
     ·refine ro T 8 (am _ [0,0] (oi Z4) J J)
     refine ro T 1 (lf T 1 J (ro T 6 (am _ [0,0] (oi Z4) J J)))
    refine ro T 11 (am _ [0,0] (oi Z4) J J)
   refine ro T 17 (am _ [0,0] (oi Z4) J J)
  rintro _ x8 rfl Z1;refine cb J Z1 (λZ1=>?_) (λZ1=>?_)
  ·refine rc T 2 (lf T 1 J (ro T 10 (ar (_,_,_) [0] Z1 J J)))
  refine rc T 8 (ar (_,_,_) [0] Z1 J J)
 refine rc T 12 ?_
 cases Z1;exact p0 T J [0] J
end
noncomputable section
def j6.l0:Nat->dj->eU->List aX->Option dj
 |0,_,_,_=>none
 |nV+1,s,x9,aK=>(if(aa aK:Int)>0 then(if(0<=(0:Int)/\(0:Int)<(aa aK:Int)) then((tR.f x9 ((rd aK 0).Key) ((rd aK 0).Cell)).bind λdt=>some (dt.2,dt.1)) else none) else(some (x9,false))).bind λ(bt,aO)=>if aO=true then(if(0<=(1:Int)/\(1:Int)<=(aa aK:Int)/\(aa aK:Int)<=(aa aK:Int)) then(j6.l0 nV s bt (aB aK 1 (aa aK:Int))) else none) else(some (dj.mk s.t bt aK s.aN))
def j6.f (s:dj):Option dj:=((if(aa s.todo:Int)>0 then((wG.f s.wait).bind λv5=>some (v5==0)) else(some false)).bind λx3=>if x3=true then(if(0<=(0:Int)/\(0:Int)<(aa s.todo:Int)) then((yo.f s.wait ((rd s.todo 0).Key)).bind λv6=>some v6.2) else none) else(some s.wait)).bind λx1=>j6.l0 fuel s x1 s.todo
def j6.R (bh:Nat) (y0:Value) (B5:List aX) (B3:Option Addr) (B4:Nat) (r:dj):bk:=λu G=> ∃(b0:Nat) (H0:Hp) (a1:Option Addr) (n1:Nat) (a2 n2 H2:_),kG r.wait b0 H0/\dD cP B5 B3 B4 r.todo a1 n1/\aa r.todo<=n1/\ak (Fl.int .i64) 3 r.aN a2 n2 H2/\u=(.tuple #[])/\G=[(cl bh 369 [(ii r.t.W),(ii r.t.H),y0,(pp b0),(ll a1 r.todo n1),(ll a2 r.aN n2)]),H0,H2]
theorem j6.c (H:j6.f s=some r) (qk:aP (Fl.int .u8) s.t.C kK F) (uJ:aa s.t.C<=kV) (wN:kG s.wait pr Au) (pB:aP cP s.todo nf F) (jA:aa s.todo<=nk) (uc:ak (Fl.int .i64) 3 s.aN vI wv xa):
 QR 273 [(pp bh)] [(cl bh 369 [(ii s.t.W),(ii s.t.H),(ll kK s.t.C kV),(pp pr),(ll nf s.todo nk),(ll vI s.aN wv)]),Au,xa] [] F (j6.R bh (ll kK s.t.C kV) s.todo nf nk r):=by
 unfold j6.f at H;refine aG Tryz.func273 J J (λW=>mq H [0] [3,0,1] (λz2 (⟨x1,H4⟩:eU×Hp)=>(x1=z2/\kG x1 pr H4,[],[H4])) J J (λz2 Z1 _=>?_) ?_)
 ·refine mq Z1 [0] [3,0,0,0] (λz4 (x3:Bool)=>(x3=z4,[(15,(bb x3))],[])) J J (λz4 Z2 _=>?_) ?_
  ·refine rc T 4 (lf T 0 J (ro T 3 (ad 8 J Z2 (λZ2=>?_) (λZ2=>?_))))
   ·refine ro T 3 (lf T 0 J (k [1] J M9 Z2 (wG.c · wN) (λv5 Z2=>ro T 4 (am _ [3,0,0,0] (oi Z2) J J))))
   refine ro T 9 (am _ [3,0,0,0] (oi Z2) J J)
  rintro _ x3 rfl Z1;refine cb J Z1 (λZ1=>?_) (λZ1=>?_)
  ·refine fz J (rz [11] mix (bR bQ) (λhg pf=>ha T 9 [0,1,2] sz hg pf J (al T 3 1 sz hg pf J J J (ha T 5 [4,5,6] sz hg pf J (al T 7 1 sz hg pf J J J ?_)))));obtain⟨c6,Z1⟩:=az Z1;obtain⟨q5,o5,e5⟩:=pB.addr c6.1 c6.2;refine av 8 sz hg pf J (cB T J J J J J e5 c6.1 c6.2) (ha T 2 [9] sz hg pf J (av 10 sz hg pf J (cC T J J J J (fv (k:=cP) (rO pB 0) e5 c6 2 J)) (ao 11 (kR (yo.R pr) [] [2] J adb Z1 (yo.c · wN) (λv6 Z1=>?_)))));rintro _ _ ⟨H6,s6,rfl,rfl⟩;refine fz J (an sl (ae (rx T 1 (am (_,_) [0,0,0,0] ⟨oi Z1,s6⟩ J J))))
  refine rc T 2 (am (_,_) [0,0,1,0] ⟨oi Z1,wN⟩ J J)
 rintro _ ⟨x1,H4⟩ ⟨rfl,s4⟩ H;refine rc T 1 (lq [0] [0,1] (λ(⟨nV,x9,aK,H9,cz,n10⟩:Nat×eU×List aX×Hp×Option Addr×Nat)=>(j6.l0 nV s x9 aK=some r/\kG x9 pr H9/\dD cP s.todo nf nk aK cz n10/\aa aK<=n10,[],[(cl bh 369 [(ii s.t.W),(ii s.t.H),(ll kK s.t.C kV),(pp pr),(ll cz aK n10),(ll vI s.aN wv)]),H9])) J J (fuel,x1,s.todo,H4,nf,nk) [0,1,0,0] ⟨H,s4,dD.self,jA⟩ J J ?_);rintro nV ⟨x9,aK,H9,cz,n10⟩ ⟨Z8,s9,BX,FP⟩;rw[j6.l0] at Z8;refine rc T 1 (mq Z8 [0] [0,1,0] (λvt (⟨bt,aO,cE⟩:eU×Bool×Hp)=>((bt,aO)=vt/\kG bt pr cE,[(54,(bb aO))],[cE])) J J (λvt Z9 _=>?_) ?_)
 ·refine fz J (rz [25] mix (bR bQ) (λhg pf=>ha T 24 [0,1,2] sz hg pf J (al T 3 2 sz hg pf J J J (ha T 20 [4,5,6] sz hg pf J (ad 34 J Z9 (λZ9=>?_) (λZ9=>?_))))))
  ·refine ha T 17 [7,8,9] sz hg pf J (al T 10 2 sz hg pf J J J (ha T 13 [11,12,13] sz hg pf J (al T 14 2 sz hg pf J J J ?_)));obtain⟨di,Z9⟩:=az Z9;obtain⟨wz,OC,tr⟩:=(dD.r BX pB jA).addr di.1 di.2;refine av 15 sz hg pf J (cB T J J J J J tr di.1 di.2) (ha T 10 [16] sz hg pf J (av 17 sz hg pf J (cC T J J J J (fv (k:=cP) (oH BX (rO pB 0) jA) tr di 2 J)) (ha T 6 [18,19,20] sz hg pf J (al T 21 2 sz hg pf J J J (av 22 sz hg pf J (cB T J J J J J tr di.1 di.2) (ha T 3 [23] sz hg pf J (av 24 sz hg pf J (cC T J J J J (fv (k:=cP) (oH BX (rO pB 0) jA) tr di 0 J)) (ao 25 (kR (tR.R pr) [] [3] J S9 Z9 (tR.c · s9) (λdt Z9=>?_))))))))));rintro _ _ ⟨dT,dg,rfl,rfl⟩;refine fz J (an sl (hb T 26 sl hg pf J (ae (rx T 1 (am (_,_,_) [0,1,0,0] ⟨oi Z9,dg⟩ J J)))))
  refine ha T 2 [7,8,9,10,11,12,13,14,15,16,17,18,19,20,21,22,23,24] sz hg pf J (ao 25 (Zg J (an sl (hb T 26 sl hg pf J (ae (rx T 1 (am (_,_,_) [0,1,0,0] ⟨oi Z9,s9⟩ J J)))))))
 rintro _ ⟨bt,aO,cE⟩ ⟨rfl,cW⟩ Z8;refine cb J Z8 (λZ8=>?_) (λZ8=>?_)
 ·refine rc T 8 (lf T 1 J ?_);obtain⟨pt,Z8⟩:=az Z8;refine bx J (kP T J J J J J J pt FP) (ro T 2 (sg T 1 J (ro T 3 (ar (_,_,_,_,_) [0,1,0,0] ⟨Z8,cW,(dD.sub BX jA pt),(mS pt FP)⟩ J J))))
 refine rc T 4 (jk ?_)
 cases Z8;exact p1 T J [1,2,1,0] ⟨pr,cE,cz,n10,vI,wv,xa,cW,BX,FP,uc,J,J⟩ J
def lb.f (s:dj) (ai:Int) (key:Int):Option dj:=(if(0<=ai/\ai<(aa s.t.C:Int)) then(if((rd s.t.C ai)!=255)=true then(if(0<=ai/\ai<(aa s.aN:Int)) then(some ((rd s.aN ai)==1099511627776)) else none) else(some false)) else none).bind λx1=>if x1=true then((tR.f s.wait key ai).bind λv3=>some (dj.mk s.t v3.2 s.todo s.aN)) else(some s)
def lb.R (bh:Nat) (y0:Value) (B5:List aX) (B3:Option Addr) (B4:Nat) (r:dj):bk:=λu G=> ∃(b0:Nat) (H0:Hp) (a1:Option Addr) (n1:Nat) (a2 n2 H2:_),kG r.wait b0 H0/\dD cP B5 B3 B4 r.todo a1 n1/\aa r.todo<=n1/\ak (Fl.int .i64) 3 r.aN a2 n2 H2/\u=(.tuple #[])/\G=[(cl bh 369 [(ii r.t.W),(ii r.t.H),y0,(pp b0),(ll a1 r.todo n1),(ll a2 r.aN n2)]),H0,H2]
theorem lb.c (H:lb.f s ai key=some r) (qk:aP (Fl.int .u8) s.t.C kK F) (uJ:aa s.t.C<=kV) (wN:kG s.wait pr Au) (pB:aP cP s.todo nf F) (jA:aa s.todo<=nk) (uc:ak (Fl.int .i64) 3 s.aN vI wv xa):
 QR 294 [(pp bh),(ii ai),(ii key)] [(cl bh 369 [(ii s.t.W),(ii s.t.H),(ll kK s.t.C kV),(pp pr),(ll nf s.todo nk),(ll vI s.aN wv)]),Au,xa] [] F (lb.R bh (ll kK s.t.C kV) s.todo nf nk r):=by
 unfold lb.f at H;refine aG Tryz.func294 J J (λW=>mq H [0,1,2] [3,0,0,0] (λz2 (x1:Bool)=>(x1=z2,[(24,(bb x1))],[])) J J (λz2 Z1 _=>?_) ?_)
 ·refine rc T 5 (lf T 0 J (ro T 1 ?_));obtain⟨c2,Z1⟩:=az Z1;obtain⟨q4,o4,e4⟩:=qk.addr c2.1 c2.2;refine ix T J e4 c2 (le T 0 (rO qk 3) e4 c2 J J (ro T 2 (ab 15 J Z1 (λZ1=>?_) (λZ1=>?_))))
  ·refine ro T 3 (lf T 0 J (ro T 1 ?_));obtain⟨c4,Z1⟩:=az Z1;obtain⟨q5,o5,e5⟩:=uc.r.addr c4.1 c4.2;refine ix T J e5 c4 (le T 0 (oO uc 2) e5 c4 J J (ro T 4 (am _ [3,0,0,0] (oi Z1) J J)))
  refine ro T 11 (am _ [3,0,0,0] (oi Z1) J J)
 rintro _ x1 rfl H;refine cb J H (λH=>?_) (λH=>?_)
 ·refine rc T 4 (lf T 1 J (ro T 2 (kr (tR.R pr) [] [2] J S9 H (tR.c · wN) (λv3 H=>?_))));rintro _ _ ⟨H6,s6,rfl,rfl⟩;refine fz J (ro T 1 (jk ?_))
  cases H;exact p1 T J [1,2,1,0] ⟨pr,H6,nf,nk,vI,wv,xa,s6,dD.self,jA,uc,J,J⟩ J
 refine rc T 1 (jk ?_)
 cases H;exact p1 T J [1,1,1,0] ⟨pr,Au,nf,nk,vI,wv,xa,wN,dD.self,jA,uc,J,J⟩ J
def yz.f (s:dj) (ai:Int):Option dj:=if(0<=ai/\ai<(aa s.aN:Int)) then(if(0<=ai/\ai<(aa s.t.C:Int)) then(if(¬s.t.W=0) then(if(¬s.t.W=0) then((if(af (cZ ai s.t.W))>0 then((lb.f s (af (ai-s.t.W)) (af ((rd s.aN ai)+(af (rd s.t.C ai))))).bind λv7=>some (v7.t.W,v7.t.H,v7.wait,v7.todo,v7.aN)) else(some (s.t.W,s.t.H,s.wait,s.todo,s.aN))).bind λ(x1,x2,x3,x4,x5)=>(if(fy ai s.t.W)<(af (x1-1)) then((lb.f (dj.mk (aF.mk x1 x2 s.t.C) x3 x4 x5) (af (ai+1)) (af ((rd s.aN ai)+(af (rd s.t.C ai))))).bind λei=>some (ei.t.W,ei.t.H,ei.wait,ei.todo,ei.aN)) else(some (x1,x2,x3,x4,x5))).bind λ(x8,x9,aK,bf,bt)=>if(af (cZ ai s.t.W))<(af (x9-1)) then((lb.f (dj.mk (aF.mk x8 x9 s.t.C) aK bf bt) (af (ai+x8)) (af ((rd s.aN ai)+(af (rd s.t.C ai))))).bind λdt=>if(fy ai s.t.W)>0 then((lb.f (dj.mk (aF.mk dt.t.W dt.t.H s.t.C) dt.wait dt.todo dt.aN) (af (ai-1)) (af ((rd s.aN ai)+(af (rd s.t.C ai))))).bind λdI=>some (dj.mk (aF.mk dI.t.W dI.t.H s.t.C) dI.wait dI.todo dI.aN)) else(some (dj.mk (aF.mk dt.t.W dt.t.H s.t.C) dt.wait dt.todo dt.aN))) else(if(fy ai s.t.W)>0 then((lb.f (dj.mk (aF.mk x8 x9 s.t.C) aK bf bt) (af (ai-1)) (af ((rd s.aN ai)+(af (rd s.t.C ai))))).bind λv17=>some (dj.mk (aF.mk v17.t.W v17.t.H s.t.C) v17.wait v17.todo v17.aN)) else(some (dj.mk (aF.mk x8 x9 s.t.C) aK bf bt)))) else none) else none) else none) else none
def yz.R (bh:Nat) (y0:Value) (B5:List aX) (B3:Option Addr) (B4:Nat) (r:dj):bk:=λu G=> ∃(b0:Nat) (H0:Hp) (a1:Option Addr) (n1:Nat) (a2 n2 H2:_),kG r.wait b0 H0/\dD cP B5 B3 B4 r.todo a1 n1/\aa r.todo<=n1/\ak (Fl.int .i64) 3 r.aN a2 n2 H2/\u=(.tuple #[])/\G=[(cl bh 369 [(ii r.t.W),(ii r.t.H),y0,(pp b0),(ll a1 r.todo n1),(ll a2 r.aN n2)]),H0,H2]
theorem yz.c (H:yz.f s ai=some r) (qk:aP (Fl.int .u8) s.t.C kK F) (uJ:aa s.t.C<=kV) (wN:kG s.wait pr Au) (pB:aP cP s.todo nf F) (jA:aa s.todo<=nk) (uc:ak (Fl.int .i64) 3 s.aN vI wv xa):
 QR 276 [(pp bh),(ii ai)] [(cl bh 369 [(ii s.t.W),(ii s.t.H),(ll kK s.t.C kV),(pp pr),(ll nf s.todo nk),(ll vI s.aN wv)]),Au,xa] [] F (yz.R bh (ll kK s.t.C kV) s.todo nf nk r):=by
 unfold yz.f at H;refine aG Tryz.func276 J J (λW=>rc T 1 (dq mix aA (au T J (au T J (au T J (cw T 0 J J J (au T J ?_)))))));obtain⟨c1,H⟩:=az H;obtain⟨q4,o4,e4⟩:=uc.r.addr c1.1 c1.2;refine bg J J J (cB T J J J J J e4 c1.1 c1.2) (bg J J J (cC T J J J J (fv (k:=(Fl.int .i64)) (oO uc 2) e4 c1 0 J)) ?_)
 iterate 4 refine au T J ?_
 refine cw T 0 J J J (au T J ?_);obtain⟨c2,H⟩:=az H;obtain⟨q5,o5,e5⟩:=qk.addr c2.1 c2.2;refine bg J J J (cB T J J J J J e5 c2.1 c2.2) (bg J J J (cC T J J J J (fv (k:=(Fl.int .u8)) (rO qk 3) e5 c2 0 J)) (au T J (au T J (au T J (cM (rx T 2 (dq mix aA ?_)))))))
 iterate 5 refine au T J ?_
 refine cw T 0 J J J ?_;obtain⟨c3,H⟩:=az H;refine bg J J J (uP J J J c3) ?_
 iterate 5 refine au T J ?_
 refine cw T 0 J J J ?_;obtain⟨c4,H⟩:=az H;refine bg J J J (uO J J J c4) (au T J (au T J (cM (rx T 1 (mq H [0,1,4,5,6] [3] (λz6 (⟨x1,x2,x3,x4,x5,b6,H6,a7,n7,a8,n8,H8⟩:Int×Int×eU×List aX×List Int×Nat×Hp×Option Addr×Nat×Option Addr×Nat×Hp)=>((x1,x2,x3,x4,x5)=z6/\kG x3 b6 H6/\dD cP s.todo nf nk x4 a7 n7/\aa x4<=n7/\ak (Fl.int .i64) 3 x5 a8 n8 H8,[],[(cl bh 369 [(ii x1),(ii x2),(ll kK s.t.C kV),(pp b6),(ll a7 x4 n7),(ll a8 x5 n8)]),H6,H8])) J J (λz6 Z5 _=>?_) ?_)))))
 ·refine rc T 6 (cd J Z5 (λZ5=>?_) (λZ5=>?_))
  ·refine rc T 7 (lf T 0 J (ro T 2 (kr (lb.R bh (ll kK s.t.C kV) s.todo nf nk) [] [0,0,0] J Gk Z5 (lb.c · (rO qk 0) uJ wN (rO pB 0) jA uc) (λv7 Z5=>?_))));rintro _ _ ⟨b9,H9,cz,n10,de,n11,cE,s9,BX,FP,cW,rfl,rfl⟩;refine fz J (ro T 2 (am (_,_,_,_,_,_,_,_,_,_,_,_) [0,0,0,0] ⟨oi Z5,s9,BX,FP,cW⟩ J J))
  refine rc T 2 (am (_,_,_,_,_,_,_,_,_,_,_,_) [3,0,0,0] ⟨oi Z5,wN,dD.self,jA,uc⟩ J J)
 rintro _ ⟨x1,x2,x3,x4,x5,b6,H6,a7,n7,a8,n8,H8⟩ ⟨rfl,s6,LW,QT,s8⟩ H;refine mq H [0,1,4,5,6] [0] (λIp (⟨x8,x9,aK,bf,bt,ln,dH,dy,n13,gU,n14,fm⟩:Int×Int×eU×List aX×List Int×Nat×Hp×Option Addr×Nat×Option Addr×Nat×Hp)=>((x8,x9,aK,bf,bt)=Ip/\kG aK ln dH/\dD cP s.todo nf nk bf dy n13/\aa bf<=n13/\ak (Fl.int .i64) 3 bt gU n14 fm,[],[(cl bh 369 [(ii x8),(ii x9),(ll kK s.t.C kV),(pp ln),(ll dy bf n13),(ll gU bt n14)]),dH,fm])) J J (λIp Z8 _=>?_) ?_
 ·refine rc T 7 (lf T 1 J (ro T 4 (cd J Z8 (λZ8=>?_) (λZ8=>?_))))
  ·refine rc T 5 (kr (lb.R bh (ll kK s.t.C kV) x4 a7 n7) [] [1,1,1] J Gk Z8 (lb.c (s:=(dj.mk (aF.mk x1 x2 s.t.C) x3 x4 x5)) · (rO qk 0) uJ s6 (oH LW (rO pB 0) jA) QT s8) (λei Z8=>?_));rintro _ _ ⟨oG,dO,ik,n16,a17,n17,eP,dW,Zv,ZO,fF,rfl,rfl⟩;refine fz J (ro T 2 (am (_,_,_,_,_,_,_,_,_,_,_,_) [0,0,0,0] ⟨oi Z8,dW,(dD.trans LW jA Zv),ZO,fF⟩ J J))
  refine rc T 2 (am (_,_,_,_,_,_,_,_,_,_,_,_) [0,0,0,0] ⟨oi Z8,s6,LW,QT,s8⟩ J J)
 rintro _ ⟨x8,x9,aK,bf,bt,ln,dH,dy,n13,gU,n14,fm⟩ ⟨rfl,dN,BZ,I6,gi⟩ H;refine rc T 8 (lf T 1 J (ro T 4 (cd J H (λH=>?_) (λH=>?_))))
 ·refine rc T 7 (lf T 1 J (ro T 2 (kr (lb.R bh (ll kK s.t.C kV) bf dy n13) [] [1,1,1] J Gk H (lb.c (s:=(dj.mk (aF.mk x8 x9 s.t.C) aK bf bt)) · (rO qk 0) uJ dN (oH BZ (rO pB 0) jA) I6 gi) (λdt H=>?_))));rintro _ _ ⟨qR,fo,my,n19,a20,n20,oA,fG,LU,QO,mi,rfl,rfl⟩;refine fz J (ro T 8 (cd J H (λH=>?_) (λH=>?_)))
  ·refine rc T 5 (kr (lb.R bh (ll kK s.t.C kV) dt.todo my n19) [] [1,1,1] J Gk H (lb.c (s:=(dj.mk (aF.mk dt.t.W dt.t.H s.t.C) dt.wait dt.todo dt.aN)) · (rO qk 0) uJ fG (oH LU (oH BZ (rO pB 0) jA) I6) QO mi) (λdI H=>?_));rintro _ _ ⟨B1,lJ,a22,n22,a23,n23,jL,j4,Zy,ZR,hU,rfl,rfl⟩;refine fz J (ro T 1 (jk ?_))
   cases H;exact p1 T J [1,1,1,0] ⟨B1,lJ,a22,n22,a23,n23,jL,j4,(dD.trans (dD.trans BZ jA LU) jA Zy),ZR,hU,J,J⟩ J
  refine rc T 1 (jk ?_)
  cases H;exact p1 T J [1,1,1,0] ⟨qR,fo,my,n19,a20,n20,oA,fG,(dD.trans BZ jA LU),QO,mi,J,J⟩ J
 refine rc T 8 (cd J H (λH=>?_) (λH=>?_))
 ·refine rc T 5 (kr (lb.R bh (ll kK s.t.C kV) bf dy n13) [] [1,1,1] J Gk H (lb.c (s:=(dj.mk (aF.mk x8 x9 s.t.C) aK bf bt)) · (rO qk 0) uJ dN (oH BZ (rO pB 0) jA) I6 gi) (λv17 H=>?_));rintro _ _ ⟨FL,rK,a25,n25,a26,n26,pd,mj,ZA,ZT,od,rfl,rfl⟩;refine fz J (ro T 1 (jk ?_))
  cases H;exact p1 T J [1,1,1,0] ⟨FL,rK,a25,n25,a26,n26,pd,mj,(dD.trans BZ jA ZA),ZT,od,J,J⟩ J
 refine rc T 1 (jk ?_)
 cases H;exact p1 T J [1,1,1,0] ⟨ln,dH,dy,n13,gU,n14,fm,dN,BZ,I6,gi,J,J⟩ J
def ot.l0:Nat->dj->Int->Int->eU->List aX->List Int->Option dj
 |0,_,_,_,_,_,_=>none
 |GL+1,s,x7,x8,x9,aK,bf=>(wG.f x9).bind λjf=>if jf>0 then((oX.f x9).bind λei=>if(0<=ei.2.1/\ei.2.1<(aa bf:Int)) then(if((rd bf ei.2.1)==1099511627776)=true then((yz.f (dj.mk (aF.mk x7 x8 s.t.C) ei.2.2.2 aK (aD bf (ax ei.2.1) ei.1)) ei.2.1).bind λdt=>(j6.f (dj.mk (aF.mk dt.t.W dt.t.H s.t.C) dt.wait dt.todo dt.aN)).bind λdI=>ot.l0 GL s dI.t.W dI.t.H dI.wait dI.todo dI.aN) else((j6.f (dj.mk (aF.mk x7 x8 s.t.C) ei.2.2.2 aK bf)).bind λv17=>ot.l0 GL s v17.t.W v17.t.H v17.wait v17.todo v17.aN)) else none) else(some (dj.mk (aF.mk x7 x8 s.t.C) x9 aK bf))
def ot.f (s:dj):Option dj:=(j6.f s).bind λv1=>ot.l0 fuel s v1.t.W v1.t.H v1.wait v1.todo v1.aN
def ot.R (bh:Nat) (y0:Value) (B5:List aX) (B3:Option Addr) (B4:Nat) (r:dj):bk:=λu G=> ∃(b0:Nat) (H0:Hp) (a1:Option Addr) (n1:Nat) (a2 n2 H2:_),kG r.wait b0 H0/\dD cP B5 B3 B4 r.todo a1 n1/\aa r.todo<=n1/\ak (Fl.int .i64) 3 r.aN a2 n2 H2/\u=(.tuple #[])/\G=[(cl bh 369 [(ii r.t.W),(ii r.t.H),y0,(pp b0),(ll a1 r.todo n1),(ll a2 r.aN n2)]),H0,H2]
theorem ot.c (H:ot.f s=some r) (qk:aP (Fl.int .u8) s.t.C kK F) (uJ:aa s.t.C<=kV) (wN:kG s.wait pr Au) (pB:aP cP s.todo nf F) (jA:aa s.todo<=nk) (uc:ak (Fl.int .i64) 3 s.aN vI wv xa):
 QR 249 [(pp bh)] [(cl bh 369 [(ii s.t.W),(ii s.t.H),(ll kK s.t.C kV),(pp pr),(ll nf s.todo nk),(ll vI s.aN wv)]),Au,xa] [] F (ot.R bh (ll kK s.t.C kV) s.todo nf nk r):=by
 unfold ot.f at H;refine aG Tryz.func249 J J (λW=>rc T 3 (kr (j6.R bh (ll kK s.t.C kV) s.todo nf nk) [] [0,0,0] J M8 H (j6.c · (rO qk 0) uJ wN (rO pB 0) jA uc) (λv1 H=>?_)));rintro _ _ ⟨b4,H4,a5,n5,a6,n6,H6,s4,FN,QS,s6,rfl,rfl⟩;refine fz J (ro T 3 (lq [0] [0] (λ(⟨GL,x7,x8,x9,aK,bf,fZ,bZ,de,n11,a12,n12,dH⟩:Nat×Int×Int×eU×List aX×List Int×Nat×Hp×Option Addr×Nat×Option Addr×Nat×Hp)=>(ot.l0 GL s x7 x8 x9 aK bf=some r/\kG x9 fZ bZ/\dD cP s.todo nf nk aK de n11/\aa aK<=n11/\ak (Fl.int .i64) 3 bf a12 n12 dH,[],[(cl bh 369 [(ii x7),(ii x8),(ll kK s.t.C kV),(pp fZ),(ll de aK n11),(ll a12 bf n12)]),bZ,dH])) J J (fuel,v1.t.W,v1.t.H,v1.wait,v1.todo,v1.aN,b4,H4,a5,n5,a6,n6,H6) [0,0,0,0] ⟨H,s4,FN,QS,s6⟩ J J ?_));rintro GL ⟨x7,x8,x9,aK,bf,fZ,bZ,de,n11,a12,n12,dH⟩ ⟨Z2,bT,yZ,AE,dN⟩;rw[ot.l0] at Z2;refine rc T 6 (lf T 1 J (k [2] J M9 Z2 (wG.c · bT) (λjf Z2=>ro T 3 (cd J Z2 (λZ2=>?_) (λZ2=>?_)))))
 ·refine rc T 9 (lf T 1 J (kr (oX.R fZ) [] [2] J ac5 Z2 (oX.c · bT) (λei Z2=>?_)));rintro _ _ ⟨dT,dg,rfl,rfl⟩;refine fz J (ro T 14 (lf T 1 J (ro T 1 ?_)));obtain⟨c6,Z2⟩:=az Z2;obtain⟨q14,o14,B8⟩:=dN.r.addr c6.1 c6.2;refine ix T J B8 c6 (le T 0 (oO dN 2) B8 c6 J J (ro T 3 (cb J Z2 (λZ2=>?_) (λZ2=>?_))))
  ·refine rc T 5 (lf T 1 J (ro T 2 (ix T J B8 c6 (aV (jN (k:=(Fl.int .i64)) T 2 0 ei.1 J J J J J J dN B8 c6 J J J (λdO dW=>kg [0,3] [0,1,1] [0,1,1,0] [] [(cl bh 369 [(ii x7),(ii x8),(ll kK s.t.C kV),(pp fZ),(ll de aK n11),(ll a12 (aD bf (ax ei.2.1) ei.1) n12)])] J J trivial dw (ro T 5 (kr (yz.R bh (ll kK s.t.C kV) aK de n11) [] [3,2,1] J ac6 Z2 (yz.c (s:=(dj.mk (aF.mk x7 x8 s.t.C) ei.2.2.2 aK (aD bf (ax ei.2.1) ei.1))) · (rO qk 0) uJ dg (oH yZ (rO pB 0) jA) AE dW) (λdt Z2=>?_)))))))));rintro _ _ ⟨qQ,fx,a17,n17,jj,n18,fo,eK,QE,ZP,fG,rfl,rfl⟩;refine fz J (ro T 1 (ks [0] J (rx T 4 (kr (j6.R bh (ll kK s.t.C kV) dt.todo a17 n17) [] [1,1,1] J M8 Z2 (j6.c (s:=(dj.mk (aF.mk dt.t.W dt.t.H s.t.C) dt.wait dt.todo dt.aN)) · (rO qk 0) uJ eK (oH QE (oH yZ (rO pB 0) jA) AE) ZP fG) (λdI Z2=>?_)))));rintro _ _ ⟨Zw,lh,a20,n20,a21,n21,lJ,hJ,Zx,ZQ,j4,rfl,rfl⟩;refine fz J (ro T 2 (ar (_,_,_,_,_,_,_,_,_,_,_,_) [0,0,0,0] ⟨Z2,hJ,(dD.trans (dD.trans yZ jA QE) jA Zx),ZQ,j4⟩ J J))
  refine rc T 5 (kr (j6.R bh (ll kK s.t.C kV) aK de n11) [] [1,2,1] J M8 Z2 (j6.c (s:=(dj.mk (aF.mk x7 x8 s.t.C) ei.2.2.2 aK bf)) · (rO qk 0) uJ dg (oH yZ (rO pB 0) jA) AE dN) (λv17 Z2=>?_));rintro _ _ ⟨lp,mr,a23,n23,a24,n24,rK,iv,QF,QQ,mj,rfl,rfl⟩;refine fz J (ro T 2 (ar (_,_,_,_,_,_,_,_,_,_,_,_) [0,0,0,0] ⟨Z2,iv,(dD.trans yZ jA QF),QQ,mj⟩ J J))
 refine rc T 4 (jk ?_)
 cases Z2;exact p1 T J [1,1,1,0] ⟨fZ,bZ,de,n11,a12,n12,dH,bT,yZ,AE,dN,J,J⟩ J
def uj.f (t:aF) (l:(List aX)):Option ((List Int)×Int):=(zZ.f t l).bind λv1=>if(!v1)=true then(some ([],1)) else(((wF.f 0).bind λv9=>dF v9 (none) (λXt=>(np.f l).bind λv10=>(kA.f [1099511627776] (aa t.C:Int)).bind λv11=>some (t.W,t.H,t.C,Xt,v10,v11))).bind λ(x2,x3,x4,x5,x6,x7)=>(ot.f (dj.mk (aF.mk x2 x3 x4) x5 x6 x7)).bind λv17=>some (v17.aN,0))
def uj.R (r:((List Int)×Int)):bk:=λu G=> ∃a0 n0 H0,ak (Fl.int .i64) 3 r.1 a0 n0 H0/\u=(.tuple #[(ll a0 r.1 n0),(ii r.2)])/\G=[H0]
theorem uj.c (H:uj.f t l=some r) (dU:aP (Fl.int .u8) t.C iz F) (fq:aa t.C<=iB) (df:aP cP l gV F) (f_:aa l<=gQ):
 QR 228 [(.agg #[(ii t.W),(ii t.H),(ll iz t.C iB)]),(ll gV l gQ)] [] [] F (uj.R r):=by
 unfold uj.f at H;refine aG Tryz.func228 J J (λW=>rc T 2 (nc T J (λb1=>ro T 7 (lm T 1 J (ro T 1 (k [] J SG H (zZ.c · (rO dU 0) fq (rO df 0) f_) (λv1 H=>ro T 3 (cb J H (λH=>?_) (λH=>?_)))))))))
 ·refine rc T 8 ?_
  cases H;refine bA (p1 T J [2,0] ⟨none,0,[],ak.nil,J,J⟩ J)
 refine rc T 2 (mq H [] [0] (λz8 (⟨x2,x3,x4,x5,x6,x7,b3,a4,n4,b5,H5,a6,n6,H6,a7,n7,H7⟩:Int×Int×List Int×eU×List aX×List Int×Nat×Option Addr×Nat×Nat×Hp×Option Addr×Nat×Hp×Option Addr×Nat×Hp)=>((x2,x3,x4,x5,x6,x7)=z8/\dD (Fl.int .u8) t.C iz iB x4 a4 n4/\aa x4<=n4/\kG x5 b5 H5/\ak cP 285 x6 a6 n6 H6/\ak (Fl.int .i64) 3 x7 a7 n7 H7,[(6,(pp b3))],[(cl b3 369 [(ii x2),(ii x3),(ll a4 x4 n4),(pp b5),(ll a6 x6 n6),(ll a7 x7 n7)]),H5,H6,H7])) J J (λz8 Z3 _=>?_) ?_)
 ·refine ks [1,2] J (fz J (rz [] mix (bR bQ) (λhg pf=>av 0 sz hg pf J (gA T 1 J J J J J J J) (ha T 9 [2,5] sz hg pf J (al T 6 1 sz hg pf J J J (ha T 7 [7] sz hg pf J (gM 1 4 ?_ ?_)))))))
  ·refine kR wF.R [] [] J S3 Z3 (wF.c ·) (λv9 Z3=>?_);rintro _ _ ⟨_,_,O5,rfl,rfl⟩;rcases v9 with _ |Xt
   ·replace Z3:=ff J Z3
    cases Z3
   replace Z3:=fg J Z3;obtain⟨b8,H8,s8,rfl,rfl⟩:=O5;refine an (so [0,0]) (gM 3 4 ?_ ?_)
   ·refine kR np.R [] [] J Gj Z3 (np.c · (rO df 0) f_) (λv10 Z3=>?_);rintro _ _ ⟨a9,n9,H9,s9,rfl,rfl⟩;refine fz J (an (so [0,0]) (ao 4 (c_ (k:=(Fl.int .i64)) T [1099511627776] J J J J J J J J J (λcz bZ bT=>an (so [0,0]) (ao 8 (kR kA.R [] [] J M7 Z3 (kA.c · (oO bT 4) bT.b_) (λv11 Z3=>?_)))))));rintro _ _ ⟨de,n11,cE,cW,rfl,rfl⟩;refine fz J (an (so [0,0]) (ha T 2 [9] (so [0,0]) hg pf J (ao 10 (nw T J (λln=>an (so [0,0]) (ha T 0 [11] (so [0,0]) hg pf J (ae (rx T 1 (am (_,_,_,_,_,_,_,_,_,_,_,_,_,_,_,_,_) [0,5,1,1,2] ⟨oi Z3,dD.self,fq,s8,s9,cW⟩ J J)))))))))
   refine c_ (k:=(Fl.int .i64)) T [1099511627776] J J J J J J J J J (λdy dT dg=>an (so [0,0]) (ao 3 (kR np.R [] [] J Gj Z3 (np.c · (rO df 0) f_) (λv12 Z3=>?_))));rintro _ _ ⟨gU,n14,fm,gi,rfl,rfl⟩;refine fz J (an (so [0,0]) (ao 8 (kR kA.R [] [] J M7 Z3 (kA.c · (oO dg 3) dg.b_) (λjf Z3=>?_))));rintro _ _ ⟨kc,n15,dO,dW,rfl,rfl⟩;refine fz J (an (so [0,0]) (ha T 2 [9] (so [0,0]) hg pf J (ao 10 (nw T J (λqQ=>an (so [0,0]) (ha T 0 [11] (so [0,0]) hg pf J (ae (rx T 1 (am (_,_,_,_,_,_,_,_,_,_,_,_,_,_,_,_,_) [0,5,1,2,2] ⟨oi Z3,dD.self,fq,s8,gi,dW⟩ J J)))))))))
  refine c_ (k:=(Fl.int .i64)) T [1099511627776] J J J J J J J J J (λa17 eP fF=>an (so [0,0]) (ao 1 (kR wF.R [] [] J S3 Z3 (wF.c ·) (λei Z3=>?_))));rintro _ _ ⟨_,_,XF,rfl,rfl⟩;rcases ei with _ |ajn
  ·replace Z3:=ff J Z3
   cases Z3
  replace Z3:=fg J Z3;obtain⟨qR,fo,fG,rfl,rfl⟩:=XF;refine an (so [0,0]) (ao 3 (kR np.R [] [] J Gj Z3 (np.c · (rO df 0) f_) (λdt Z3=>?_)));rintro _ _ ⟨my,n19,lh,hJ,rfl,rfl⟩;refine fz J (an (so [0,0]) (ao 8 (kR kA.R [] [] J M7 Z3 (kA.c · (oO fF 2) fF.b_) (λdI Z3=>?_))));rintro _ _ ⟨a20,n20,oA,mi,rfl,rfl⟩;refine fz J (an (so [0,0]) (ha T 2 [9] (so [0,0]) hg pf J (ao 10 (nw T J (λB1=>an (so [0,0]) (ha T 0 [11] (so [0,0]) hg pf J (ae (rx T 1 (am (_,_,_,_,_,_,_,_,_,_,_,_,_,_,_,_,_) [0,5,2,2,2] ⟨oi Z3,dD.self,fq,fG,hJ,mi⟩ J J)))))))))
 rintro _ ⟨x2,x3,x4,x5,x6,x7,b3,a4,n4,b5,H5,a6,n6,H6,a7,n7,H7⟩ ⟨rfl,ZC,ZV,s5,s6,s7⟩ H;refine rc T 3 (kr (ot.R b3 (ll a4 x4 n4) x6 a6 n6) [] [1,1,2] J acT H (ot.c (s:=(dj.mk (aF.mk x2 x3 x4) x5 x6 x7)) · (oH ZC (rO dU 0) fq) ZV s5 (oO s6 1) s6.b_ s7) (λv17 H=>?_));rintro _ _ ⟨lp,mr,a23,n23,a24,n24,rK,iv,QF,QQ,mj,rfl,rfl⟩;refine fz J (ro T 7 (lf T 2 J (ro T 5 ?_)))
 cases H;exact p1 T J [4,0] ⟨a24,n24,rK,mj,J,J⟩ J
end
noncomputable section
def qE.l0:Nat->aF->(List Int)->Int->Option Bool
 |0,_,_,_=>none
 |k3+1,t,l,x2=>if x2<(aa l:Int) then(if(0<=x2/\x2<(aa l:Int)) then((Bu.f t (rd l x2)).bind λv4=>(if((v4==0)||(v4==255))=true then(some true) else(if x2>0 then(if(0<=(af (x2-1))/\(af (x2-1))<(aa l:Int)) then(some (decide ((rd l x2)<=(rd l (af (x2-1)))))) else none) else(some false))).bind λx5=>if x5=true then(some false) else(qE.l0 k3 t l (af (x2+1)))) else none) else((uk.f t).bind λv7=>some v7)
def qE.f (t:aF) (l:(List Int)):Option Bool:=qE.l0 fuel t l 0
theorem qE.c (H:qE.f t l=some r) (dU:aP (Fl.int .u8) t.C iz F) (fq:aa t.C<=iB) (df:aP (Fl.int .i64) l gV F) (f_:aa l<=gQ):
 QU 266 [(.agg #[(ii t.W),(ii t.H),(ll iz t.C iB)]),(ll gV l gQ)] [] F (bb r):=by
 unfold qE.f at H;refine aG Tryz.func266 J J (λW=>rc T 2 (nc T J (λb1=>ro T 12 (lq [1,2,8,9] [0,0] (λ(⟨k3,x2⟩:Nat×Int)=>(qE.l0 k3 t l x2=some r,[(10,(ii x2))],[])) J J (fuel,0) [0,0] H J J ?_))));rintro k3 x2 Z1;replace Z1:qE.l0 (k3+1) t l x2=some r:=Z1;rw[qE.l0] at Z1;refine rc T 6 (cd J Z1 (λZ1=>?_) (λZ1=>?_))
 ·refine rc T 7 ?_;obtain⟨c3,Z1⟩:=az Z1;obtain⟨q2,o2,e2⟩:=df.addr c3.1 c3.2;refine ix T J e2 c3 (le T 0 (rO df 0) e2 c3 J J (ro T 6 (lm T 1 J (ro T 1 (k [] J ac_ Z1 (Bu.c · (rO dU 0) fq) (λv4 Z1=>ro T 3 (mq Z1 [1,2,8,9,10] [0,0] (λz6 (x5:Bool)=>(x5=z6,[(36,(bb x5))],[])) J J (λz6 Z5 _=>?_) ?_)))))))
  ·refine rc T 4 (go T [3,4,5] 20 [1,2,5,6,8,9,10] 23 J J J J J J J (ro T 1 (ab 24 J Z5 (λZ5=>?_) (λZ5=>?_))))
   ·refine ro T 14 (am _ [0,0] (oi Z5) J J)
   refine ro T 3 (ad 27 J Z5 (λZ5=>?_) (λZ5=>?_))
   ·refine ro T 4 ?_;obtain⟨c8,Z5⟩:=az Z5;refine ix T J e2 c8 (le T 0 (rO df 0) e2 c8 J J (ro T 5 (am _ [0,0] (oi Z5) J J)))
   refine ro T 11 (am _ [0,0] (oi Z5) J J)
  rintro _ x5 rfl Z1;refine cb J Z1 (λZ1=>?_) (λZ1=>?_)
  ·refine rc T 11 ?_
   cases Z1;exact p0 T J [0] J
  refine rc T 8 (ar _ [0,0] Z1 J J)
 refine rc T 7 (lm T 1 J (k [] J JI Z1 (uk.c · (rO dU 0) fq) (λv7 Z1=>ro T 4 ?_)))
 cases Z1;exact p0 T J [0] J
def yA.f (t:aF) (ai:Int):Option ((List Int)×Int):=(uj.f t [(aX.mk ai 4 0)]).bind λv1=>some (v1.1,v1.2)
def yA.R (r:((List Int)×Int)):bk:=λu G=> ∃a0 n0 H0,ak (Fl.int .i64) 3 r.1 a0 n0 H0/\u=(.tuple #[(ll a0 r.1 n0),(ii r.2)])/\G=[H0]
theorem yA.c (H:yA.f t ai=some r) (dU:aP (Fl.int .u8) t.C iz F) (fq:aa t.C<=iB):
 QR 267 [(.agg #[(ii t.W),(ii t.H),(ll iz t.C iB)]),(ii ai)] [] [] F (yA.R r):=by
 unfold yA.f at H;refine aG Tryz.func267 J J (λW=>rc T 2 (nc T J (λb1=>ro T 6 (lm T 1 J (ro T 2 (aV (c_ (k:=cP) T [(aX.mk ai 4 0)] J J J J J J J J J (λa2 H2 s2=>kr uj.R [] [] J SY H (uj.c (l:=[(aX.mk ai 4 0)]) · (rO dU 0) fq (oO s2 2) s2.b_) (λv1 H=>?_)))))))));rintro _ _ ⟨a3,n3,H3,s3,rfl,rfl⟩;refine fz J (ro T 7 ?_)
 cases H;exact p1 T J [3,0] ⟨a3,n3,H3,s3,J,J⟩ J
def jJ.l1:Nat->(List Int)->Int->((List Int)×Int)->List Int->Int->Option (List Int)
 |0,_,_,_,_,_=>none
 |xP+1,l,x5,v9,bt,aO=>if aO<(aa l:Int) then(if(0<=aO/\aO<(aa l:Int)) then(if(0<=(rd l aO)/\(rd l aO)<(aa v9.1:Int)) then(if(0<=(af ((af (aO*(aa l:Int)))+x5))/\(af ((af (aO*(aa l:Int)))+x5))<(aa bt:Int)) then(jJ.l1 xP l x5 v9 (aD bt (ax (af ((af (aO*(aa l:Int)))+x5))) (rd v9.1 (rd l aO))) (af (aO+1))) else none) else none) else none) else(some bt)
def jJ.l0:Nat->aF->(List Int)->List Int->Int->Option ((List Int)×Int)
 |0,_,_,_,_=>none
 |k6+1,t,l,x4,x5=>if x5<(aa l:Int) then((if(0<=x5/\x5<(aa l:Int)) then((yA.f t (rd l x5)).bind λv9=>jJ.l1 fuel l x5 v9 x4 0) else none).bind λx7=>jJ.l0 k6 t l x7 (af (x5+1))) else(some (x4,0))
def jJ.f (t:aF) (l:(List Int)):Option ((List Int)×Int):=(qE.f t l).bind λv1=>if(!v1)=true then(some ([],1)) else(if(0<=(af ((aa l:Int)*(aa l:Int)))/\(af ((aa l:Int)*(aa l:Int)))<=1099511627776) then(jJ.l0 fuel t l (ct (ax (af ((aa l:Int)*(aa l:Int)))) (0:Int)) 0) else none)
def jJ.R (r:((List Int)×Int)):bk:=λu G=> ∃a0 n0 H0,ak (Fl.int .i64) 3 r.1 a0 n0 H0/\u=(.tuple #[(ll a0 r.1 n0),(ii r.2)])/\G=[H0]
theorem jJ.c (H:jJ.f t l=some r) (dU:aP (Fl.int .u8) t.C iz F) (fq:aa t.C<=iB) (df:aP (Fl.int .i64) l gV F) (f_:aa l<=gQ):
 QR 238 [(.agg #[(ii t.W),(ii t.H),(ll iz t.C iB)]),(ll gV l gQ)] [] [] F (jJ.R r):=by
 unfold jJ.f at H;refine aG Tryz.func238 J J (λW=>rc T 2 (nc T J (λb1=>ro T 7 (lm T 1 J (ro T 1 (k [] J ac0 H (qE.c · (rO dU 0) fq (rO df 0) f_) (λv1 H=>ro T 3 (cb J H (λH=>?_) (λH=>?_)))))))))
 ·refine rc T 8 ?_
  cases H;refine bA (p1 T J [2,0] ⟨none,0,[],ak.nil,J,J⟩ J)
 refine rc T 14 ?_;obtain⟨c3,H⟩:=az H;refine aV (xh (k:=(Fl.int .i64)) T (0:Int) J J J J J J J J c3 J (λa3 n3 H3 s3=>ro T 12 (lq [1,2,6,24,25] [0,0] (λ(⟨k6,x4,x5,a5,n5,H5⟩:Nat×List Int×Int×Option Addr×Nat×Hp)=>(jJ.l0 k6 t l x4 x5=some r/\ak (Fl.int .i64) 3 x4 a5 n5 H5,[(7,(ll a5 x4 n5)),(26,(ii x5))],[H5])) J J (fuel,(ct (ax (af ((aa l:Int)*(aa l:Int)))) (0:Int)),0,a3,n3,H3) [0,0,0] ⟨H,s3⟩ J J ?_)));rintro k6 ⟨x4,x5,a5,n5,H5⟩ ⟨Z4,s5⟩;rw[jJ.l0] at Z4;refine rc T 6 (cd J Z4 (λZ4=>?_) (λZ4=>?_))
 ·refine rc T 2 (mq Z4 [1,2,6,24,25,26] [0,0] (λz8 (⟨x7,a6,n6,H6⟩:List Int×Option Addr×Nat×Hp)=>(x7=z8/\ak (Fl.int .i64) 3 x7 a6 n6 H6,[(7,(ll a6 x7 n6))],[H6])) J J (λz8 Z6 _=>?_) ?_)
  ·refine rc T 4 ?_;obtain⟨c7,Z6⟩:=az Z6;obtain⟨q7,o7,e7⟩:=df.addr c7.1 c7.2;refine ix T J e7 c7 (le T 0 (rO df 0) e7 c7 J J (ro T 6 (lm T 1 J (ro T 1 (kr yA.R [] [] J ac1 Z6 (yA.c · (rO dU 0) fq) (λv9 Z6=>?_))))));rintro _ _ ⟨a8,n8,H8,s8,rfl,rfl⟩;refine fz J (ro T 15 (lq [1,2,6,8,10,24,25,26,37,38] [0,0,1] (λ(⟨xP,bt,aO,cz,n10,bZ⟩:Nat×List Int×Int×Option Addr×Nat×Hp)=>(jJ.l1 xP l x5 v9 bt aO=some z8/\ak (Fl.int .i64) 3 bt cz n10 bZ,[(7,(ll cz bt n10)),(39,(ii aO))],[bZ])) J J (fuel,x4,0,a5,n5,H5) [0,0,1,0] ⟨Z6,s5⟩ J J ?_));rintro xP ⟨bt,aO,cz,n10,bZ⟩ ⟨Z9,bT⟩;rw[jJ.l1] at Z9;refine rc T 6 (cd J Z9 (λZ9=>?_) (λZ9=>?_))
   ·refine rc T 7 ?_;obtain⟨di,Z9⟩:=az Z9;obtain⟨q11,o11,zg⟩:=df.addr di.1 di.2;refine ix T J zg di (le T 0 (rO df 0) zg di J J (ro T 13 ?_));obtain⟨gv,Z9⟩:=az Z9;obtain⟨wz,OC,tr⟩:=s8.r.addr gv.1 gv.2;refine ix T J tr gv (le T 0 (oO s8 2) tr gv J J ?_);obtain⟨jl,Z9⟩:=az Z9;obtain⟨Vw,U',xt⟩:=bT.r.addr jl.1 jl.2;refine ix T J xt jl (aV (jN (k:=(Fl.int .i64)) T 3 0 (rd v9.1 (rd l aO)) J J J J J J bT xt jl J J J (λfm gi=>kf [1,2,6,8,10,24,25,26,37,38,39] [0,0,0,0] [(7,(ll cz (aD bt (ax (af ((af (aO*(aa l:Int)))+x5))) (rd v9.1 (rd l aO))) n10))] J J ⟨dw,trivial⟩ (ro T 8 (ar (_,_,_,_,_) [0,0,0,0] ⟨Z9,gi⟩ J J)))))
   refine rc T 6 (am (_,_,_,_) [0,0,1] ⟨oi Z9,bT⟩ J J)
  rintro _ ⟨x7,a6,n6,H6⟩ ⟨rfl,s6⟩ Z4;refine rc T 5 (ar (_,_,_,_,_) [0,0,0] ⟨Z4,s6⟩ J J)
 refine rc T 13 ?_
 cases Z4;exact p1 T J [2,0] ⟨a5,n5,H5,s5,J,J⟩ J
end
noncomputable section
def ml.f (s:gL):Option (List Int):=some [s.bJ,s.bK,s.bH,s.bF,s.bU,s.bO]
theorem ml.c (H:ml.f s=some r):
 QU 62 [(.agg #[(uu s.bJ),(uu s.bK),(uu s.bH),(uu s.bF),(uu s.bU),(uu s.bO)])] [] F (.agg #[(uu (rd r 0)),(uu (rd r 1)),(uu (rd r 2)),(uu (rd r 3)),(uu (rd r 4)),(uu (rd r 5))]):=by
 unfold ml.f at H;refine aG Tryz.func62 J J (λW=>rc T 2 (nc T J (λb1=>nc T J (λb2=>ro T 5 (lf T 1 J (ro T 1 (lf T 1 J (ro T 1 (lf T 1 J (ro T 1 (lf T 1 J (ro T 1 (lf T 1 J (ro T 1 (lf T 1 J (bx J (Jl T J J J J J J) (sg T 2 J (ro T 3 ?_))))))))))))))))))
 cases H;exact pb T J (.cT (j:=2) [(uu s.bJ),(uu s.bK),(uu s.bH),(uu s.bF),(uu s.bU),(uu s.bO)] J J J J J J J .nil) [0] () J J
def sN.f (a:Int) (b:Int):Option Int:=if a>(eW (18446744073709551615-b)) then(some 18446744073709551615) else(some (eW (a+b)))
theorem sN.c (H:sN.f a b=some r):
 QU 106 [(uu a),(uu b)] [] F (uu r):=by
 unfold sN.f at H;refine aG Tryz.func106 J J (λW=>rc T 14 (cd J H (λH=>?_) (λH=>?_)))
 ·refine rc T 7 ?_
  cases H;exact p0 T J [0] J
 refine rc T 11 ?_
 cases H;exact p0 T J [0] J
def mT.l0:Nat->Int->Int->Int->Int->Int->Int->Int->Int->Int->Int->Int->Int->Int->Option gL
 |0,_,_,_,_,_,_,_,_,_,_,_,_,_=>none
 |xQ+1,x7,x8,x9,aK,bf,bt,iR,gC,ie,iS,fJ,iT,iw=>if iw<6 then(if(0<=iw/\iw<6) then(if(0<=iw/\iw<6) then((sN.f (rd [iR,gC,ie,iS,fJ,iT] iw) (rd [x7,x8,x9,aK,bf,bt] iw)).bind λqH=>if(0<=iw/\iw<6) then(mT.l0 xQ x7 x8 x9 aK bf bt (rd (aD [iR,gC,ie,iS,fJ,iT] (ax iw) qH) 0) (rd (aD [iR,gC,ie,iS,fJ,iT] (ax iw) qH) 1) (rd (aD [iR,gC,ie,iS,fJ,iT] (ax iw) qH) 2) (rd (aD [iR,gC,ie,iS,fJ,iT] (ax iw) qH) 3) (rd (aD [iR,gC,ie,iS,fJ,iT] (ax iw) qH) 4) (rd (aD [iR,gC,ie,iS,fJ,iT] (ax iw) qH) 5) (af (iw+1))) else none) else none) else none) else(some (gL.mk iR gC ie iS fJ iT))
def mT.f (a:gL) (b:gL):Option gL:=((ml.f a).bind λei=>(ml.f b).bind λdt=>some ((rd ei 0),(rd ei 1),(rd ei 2),(rd ei 3),(rd ei 4),(rd ei 5),(rd dt 0),(rd dt 1),(rd dt 2),(rd dt 3),(rd dt 4),(rd dt 5))).bind λ(x1,x2,x3,x4,x5,x6,x7,x8,x9,aK,bf,bt)=>mT.l0 fuel x7 x8 x9 aK bf bt x1 x2 x3 x4 x5 x6 0
theorem mT.c (H:mT.f a b=some r):
 QU 78 [(.agg #[(uu a.bJ),(uu a.bK),(uu a.bH),(uu a.bF),(uu a.bU),(uu a.bO)]),(.agg #[(uu b.bJ),(uu b.bK),(uu b.bH),(uu b.bF),(uu b.bU),(uu b.bO)])] [] F (.agg #[(uu r.bJ),(uu r.bK),(uu r.bH),(uu r.bF),(uu r.bU),(uu r.bO)]):=by
 unfold mT.f at H;refine aG Tryz.func78 J J (λW=>rc T 2 (nc T J (λb1=>nc T J (λb2=>nc T J (λb3=>ro T 2 (mq H [4] [0,2] (λIp (⟨x1,x2,x3,x4,x5,x6,x7,x8,x9,aK,bf,bt,b4,b5⟩:Int×Int×Int×Int×Int×Int×Int×Int×Int×Int×Int×Int×Nat×Nat)=>((x1,x2,x3,x4,x5,x6,x7,x8,x9,aK,bf,bt)=Ip,[(5,(pp b4)),(6,(pp b5))],[(cl b4 123 [(uu x1),(uu x2),(uu x3),(uu x4),(uu x5),(uu x6)]),(cl b5 123 [(uu x7),(uu x8),(uu x9),(uu aK),(uu bf),(uu bt)])])) J J (λIp Z1 _=>?_) ?_))))))
 ·refine ks [2,3,4] J (fz J (rz [] mix (bR bQ) (λhg pf=>av 0 sz hg pf J (gA T 1 J J J J J J J) (av 2 sz hg pf J (gA T 2 J J J J J J J) (Qj 1 4 5 ?_ ?_ ?_)))))
  ·refine kh [] J ql Z1 (ml.c ·) (λei Z1=>an sz (Qj 3 4 5 ?_ ?_ ?_))
   ·refine kh [] J ql Z1 (ml.c ·) (λdt Z1=>an sz (gM 4 5 ?_ ?_))
    ·refine nw T J (λb6=>an (so [0,0,0,0]) (ao 5 (nw T J (λb7=>an (so [0,0,0,0]) (ao 6 (sf T 4 J (an (so [0,0,0,0]) (ao 7 (sf T 5 J (an (so [0,0,0,0]) (ae (rx T 1 (am (_,_,_,_,_,_,_,_,_,_,_,_,_,_) [0,2,2,2] (oi Z1) J J)))))))))))))
    refine nw T J (λb8=>an (so [0,0,0,0]) (ao 4 (nw T J (λb9=>an (so [0,0,0,0]) (ao 6 (sf T 5 J (an (so [0,0,0,0]) (ao 7 (sf T 4 J (an (so [0,0,0,0]) (ae (rx T 1 (am (_,_,_,_,_,_,_,_,_,_,_,_,_,_) [0,2,3,2] (oi Z1) J J)))))))))))))
   ·refine nw T J (λfZ=>an (so [0,0,0,0]) (gM 3 5 ?_ ?_))
    ·refine kh [] J ql Z1 (ml.c ·) (λdI Z1=>an (so [0,0,0,0]) (ao 5 (nw T J (λjO=>an (so [0,0,0,0]) (ao 6 (sf T 4 J (an (so [0,0,0,0]) (ao 7 (sf T 5 J (an (so [0,0,0,0]) (ae (rx T 1 (am (_,_,_,_,_,_,_,_,_,_,_,_,_,_) [0,2,2,2] (oi Z1) J J)))))))))))))
    refine nw T J (λln=>an (so [0,0,0,0]) (ao 3 (kh [] J ql Z1 (ml.c ·) (λv17 Z1=>an (so [0,0,0,0]) (ao 6 (sf T 4 J (an (so [0,0,0,0]) (ao 7 (sf T 5 J (an (so [0,0,0,0]) (ae (rx T 1 (am (_,_,_,_,_,_,_,_,_,_,_,_,_,_) [0,2,2,2] (oi Z1) J J)))))))))))))
   refine nw T J (λZu=>an (so [0,0,0,0]) (gM 3 4 ?_ ?_))
   ·refine kh [] J ql Z1 (ml.c ·) (λfQ Z1=>an (so [0,0,0,0]) (ao 4 (nw T J (λI3=>an (so [0,0,0,0]) (ao 6 (sf T 5 J (an (so [0,0,0,0]) (ao 7 (sf T 4 J (an (so [0,0,0,0]) (ae (rx T 1 (am (_,_,_,_,_,_,_,_,_,_,_,_,_,_) [0,2,3,2] (oi Z1) J J)))))))))))))
   refine nw T J (λoG=>an (so [0,0,0,0]) (ao 3 (kh [] J ql Z1 (ml.c ·) (λox Z1=>an (so [0,0,0,0]) (ao 6 (sf T 5 J (an (so [0,0,0,0]) (ao 7 (sf T 4 J (an (so [0,0,0,0]) (ae (rx T 1 (am (_,_,_,_,_,_,_,_,_,_,_,_,_,_) [0,2,3,2] (oi Z1) J J)))))))))))))
  ·refine nw T J (λqQ=>an (so [0,0,0,0]) (gM 1 5 ?_ ?_))
   ·refine kh [] J ql Z1 (ml.c ·) (λv20 Z1=>an (so [0,0,0,0]) (gM 3 5 ?_ ?_))
    ·refine kh [] J ql Z1 (ml.c ·) (λv21 Z1=>an (so [0,0,0,0]) (ao 5 (nw T J (λB0=>an (so [0,0,0,0]) (ao 6 (sf T 4 J (an (so [0,0,0,0]) (ao 7 (sf T 5 J (an (so [0,0,0,0]) (ae (rx T 1 (am (_,_,_,_,_,_,_,_,_,_,_,_,_,_) [0,2,2,2] (oi Z1) J J)))))))))))))
    refine nw T J (λqR=>an (so [0,0,0,0]) (ao 3 (kh [] J ql Z1 (ml.c ·) (λv22 Z1=>an (so [0,0,0,0]) (ao 6 (sf T 4 J (an (so [0,0,0,0]) (ao 7 (sf T 5 J (an (so [0,0,0,0]) (ae (rx T 1 (am (_,_,_,_,_,_,_,_,_,_,_,_,_,_) [0,2,2,2] (oi Z1) J J)))))))))))))
   refine nw T J (λZw=>an (so [0,0,0,0]) (ao 1 (kh [] J ql Z1 (ml.c ·) (λv23 Z1=>an (so [0,0,0,0]) (ao 3 (kh [] J ql Z1 (ml.c ·) (λv24 Z1=>an (so [0,0,0,0]) (ao 6 (sf T 4 J (an (so [0,0,0,0]) (ao 7 (sf T 5 J (an (so [0,0,0,0]) (ae (rx T 1 (am (_,_,_,_,_,_,_,_,_,_,_,_,_,_) [0,2,2,2] (oi Z1) J J))))))))))))))))
  refine nw T J (λI4=>an (so [0,0,0,0]) (gM 1 4 ?_ ?_))
  ·refine kh [] J ql Z1 (ml.c ·) (λv25 Z1=>an (so [0,0,0,0]) (gM 3 4 ?_ ?_))
   ·refine kh [] J ql Z1 (ml.c ·) (λv26 Z1=>an (so [0,0,0,0]) (ao 4 (nw T J (λB1=>an (so [0,0,0,0]) (ao 6 (sf T 5 J (an (so [0,0,0,0]) (ao 7 (sf T 4 J (an (so [0,0,0,0]) (ae (rx T 1 (am (_,_,_,_,_,_,_,_,_,_,_,_,_,_) [0,2,3,2] (oi Z1) J J)))))))))))))
   refine nw T J (λlp=>an (so [0,0,0,0]) (ao 3 (kh [] J ql Z1 (ml.c ·) (λPA Z1=>an (so [0,0,0,0]) (ao 6 (sf T 5 J (an (so [0,0,0,0]) (ao 7 (sf T 4 J (an (so [0,0,0,0]) (ae (rx T 1 (am (_,_,_,_,_,_,_,_,_,_,_,_,_,_) [0,2,3,2] (oi Z1) J J)))))))))))))
  refine nw T J (λZz=>an (so [0,0,0,0]) (ao 1 (kh [] J ql Z1 (ml.c ·) (λv28 Z1=>an (so [0,0,0,0]) (ao 3 (kh [] J ql Z1 (ml.c ·) (λqG Z1=>an (so [0,0,0,0]) (ao 6 (sf T 5 J (an (so [0,0,0,0]) (ao 7 (sf T 4 J (an (so [0,0,0,0]) (ae (rx T 1 (am (_,_,_,_,_,_,_,_,_,_,_,_,_,_) [0,2,3,2] (oi Z1) J J))))))))))))))))
 rintro _ ⟨x1,x2,x3,x4,x5,x6,x7,x8,x9,aK,bf,bt,b4,b5⟩ rfl H;refine rc T 7 (lq [4,5,6] [0,0,1] (λ(⟨xQ,iR,gC,ie,iS,fJ,iT,iw⟩:Nat×Int×Int×Int×Int×Int×Int×Int)=>(mT.l0 xQ x7 x8 x9 aK bf bt iR gC ie iS fJ iT iw=some r,[(12,(ii iw))],[(cl b4 123 [(uu iR),(uu gC),(uu ie),(uu iS),(uu fJ),(uu iT)])])) J J (fuel,x1,x2,x3,x4,x5,x6,0) [0,0,1,0] H J J ?_);rintro xQ ⟨iR,gC,ie,iS,fJ,iT,iw⟩ lj;replace lj:mT.l0 (xQ+1) x7 x8 x9 aK bf bt iR gC ie iS fJ iT iw=some r:=lj;rw[mT.l0] at lj;refine rc T 6 (cd J lj (λlj=>?_) (λlj=>?_))
 ·refine rc T 10 (fz J (rz [9] mix (bR bQ) (λhg pf=>ha T 8 [0,1] sz hg pf J ?_)));obtain⟨FQ,lj⟩:=az lj;refine av 2 sz hg pf J (zk T J J J J J FQ) (av 3 sz hg pf J (cC T J J J J (Uj (kk:= .u64) (xs:=[iR,gC,ie,iS,fJ,iT]) (j:=3) J J FQ)) (ha T 5 [4] sz hg pf J ?_));obtain⟨pw,lj⟩:=az lj;refine av 5 sz hg pf J (zk T J J J J J pw) (av 6 sz hg pf J (cC T J J J J (Uj (kk:= .u64) (xs:=[x7,x8,x9,aK,bf,bt]) (j:=2) J J pw)) (ao 7 (kh [] J JB lj (sN.c ·) (λqH lj=>an sz ?_))));obtain⟨QP,lj⟩:=az lj;refine av 8 sz hg pf J (zk T J J J J J QP) (ao 9 (Zb (kk:= .u64) (xs:=[iR,gC,ie,iS,fJ,iT]) T 3 [(uu (rd (aD [iR,gC,ie,iS,fJ,iT] (ax iw) qH) 0)),(uu (rd (aD [iR,gC,ie,iS,fJ,iT] (ax iw) qH) 1)),(uu (rd (aD [iR,gC,ie,iS,fJ,iT] (ax iw) qH) 2)),(uu (rd (aD [iR,gC,ie,iS,fJ,iT] (ax iw) qH) 3)),(uu (rd (aD [iR,gC,ie,iS,fJ,iT] (ax iw) qH) 4)),(uu (rd (aD [iR,gC,ie,iS,fJ,iT] (ax iw) qH) 5))] J J J J J J J QP J (an sl (ae (rx T 7 (ar (_,_,_,_,_,_,_) [0,0,0,0] lj J J))))))
 refine rc T 7 (bx J (zk T J J J J J (by decide)) (lf T 3 J (bx J (zk T J J J J J (by decide)) (lf T 3 J (bx J (zk T J J J J J (by decide)) (lf T 3 J (bx J (zk T J J J J J (by decide)) (lf T 3 J (bx J (zk T J J J J J (by decide)) (lf T 3 J (bx J (zk T J J J J J (by decide)) (lf T 3 J (ro T 1 (sg T 1 J (ro T 1 (rx T 2 ?_))))))))))))))))
 cases lj;exact pb T J (.cT (j:=1) [(uu iR),(uu gC),(uu ie),(uu iS),(uu fJ),(uu iT)] J J J J J J J .nil) [0] () J J
end
noncomputable section
def G7.f:Option Int:=some 0
theorem G7.c (H:G7.f=some r):
 QU 107 [(.pointer none)] [] F (uu r):=by
 unfold G7.f at H;refine aG Tryz.func107 J J (λW=>rc T 12 (nL J (rc T 7 ?_)))
 cases H;exact p0 T J [0] J
def G8.f (m:dK) (mG:bw):Option Int:=some m.count
theorem G8.c (H:G8.f m mG=some r) (sJ:mZ m iJ ly ny) (lI:iH mG ly lL):
 QU 107 [(pp iJ)] [ny,lL] F (uu r):=by
 unfold G8.f at H;refine aG Tryz.func107 J J (λW=>rc T 12 (e_ J (rc T 3 ?_)));obtain⟨a5,n5,H5,s5,dA⟩:=(λx=>x) sJ;refine bX 0 (congrArg some dA) (fz J (rc T 4 (lf T 2 J (ro T 4 ?_))))
 cases H;refine dz [2,2] J dA (p0 T J [2,0,0] J)
def sx.f (g:bw):Option (Option dK):=(iL.f g).bind λv1=>(qI.f v1.1 v1.2).bind λv2=>if(0<=(af (v2.1*v2.2))/\(af (v2.1*v2.2))<=1099511627776) then(some (some (dK.mk (ct (ax (af (v2.1*v2.2))) (default:pK)) 0 0))) else none
def sx.R (w0:Nat) (r:(Option dK)):bk:=λu G=> ∃(u0:Value) (G0:List Hp),XP w0 r u0 G0/\u=u0/\G=G0
theorem sx.c (H:sx.f g=some r) (fO:iH g fk gn):
 QR 150 [(pp fk)] [gn] [gn] F (sx.R fk r):=by
 unfold sx.f at H;refine aG Tryz.func150 J J (λW=>rc T 12 (e_ J (rc T 5 (k [0] J uR H (iL.c · fO) (λv1 H=>ro T 2 (k [] J Gl H (qI.c ·) (λv2 H=>ro T 13 ?_)))))));obtain⟨c3,H⟩:=az H;refine aV (YT (kd:=ON) (E:=217) T (default:pK) J J J J J J J ⟨none,0,[],none,0,[],(ak.nil (k:=(Fl.int .i64)) (E:=3)),(ak.nil (k:=(Fl.int .i32)) (E:=21)),J,J⟩ c3 J (λa2 n2 H2 s2=>ro T 1 (nc T J (λb3=>ro T 4 ?_))))
 cases H;refine gD [3,2] J (p1 T J [2,0,0] ⟨_,_,⟨b3,(List.flatten [(cl b3 213 [(pp fk),(ll a2 (ct (ax (af (v2.1*v2.2))) (default:pK)) n2),(ii 0),(uu 0)]),H2]),(show mZ (dK.mk (ct (ax (af (v2.1*v2.2))) (default:pK)) 0 0) b3 fk (List.flatten [(cl b3 213 [(pp fk),(ll a2 (ct (ax (af (v2.1*v2.2))) (default:pK)) n2),(ii 0),(uu 0)]),H2]) from⟨a2,n2,H2,s2,J⟩),J,J⟩,J,J⟩ J)
def nX.l0:Nat->dK->bw->List Int->Int->Option (List Int)
 |0,_,_,_,_=>none
 |k6+1,m,mG,x4,x5=>if x5<(aa m.parts:Int) then(if(0<=x5/\x5<(aa m.parts:Int)) then((qj.f mG x5).bind λv7=>if((rd m.parts x5).version !=v7)=true then(if(aa x4+1<=1099511627776) then(nX.l0 k6 m mG (x4++[x5]) (af (x5+1))) else none) else(nX.l0 k6 m mG x4 (af (x5+1)))) else none) else(some x4)
def nX.f (m:dK) (mG:bw):Option (List Int):=(pz.f mG).bind λv1=>if(m.clean==v1)=true then(some []) else(nX.l0 fuel m mG [] 0)
def nX.R (r:(List Int)):bk:=λu G=> ∃a0 n0 H0,ak (Fl.int .i64) 3 r a0 n0 H0/\u=(ll a0 r n0)/\G=[H0]
theorem nX.c (H:nX.f m mG=some r) (sJ:mZ m iJ ly ny) (lI:iH mG ly lL):
 QR 97 [(pp iJ)] [ny,lL] [ny,lL] F (nX.R r):=by
 unfold nX.f at H;refine aG Tryz.func97 J J (λW=>rc T 7 ?_);obtain⟨a5,n5,H5,s5,dA⟩:=(λx=>x) sJ;refine bX 0 (congrArg some dA) (fz J (dq mix aA ?_))
 iterate 6 refine au T J ?_
 refine cw T 2 J J J (au T J (au T J (au T J (cw T 2 J J J ?_))));obtain⟨v1,V1,H⟩:=gu H;refine xi [0] J J J J J J Ch J (pz.c V1 lI) (au T J (au T J (cM (rx T 1 (cb J H (λH=>?_) (λH=>?_))))))
 ·refine rc T 7 ?_
  cases H;refine dz [2,2] J dA (bA (p1 T J [3,2,0,0] ⟨none,0,[],ak.nil,J,J⟩ J))
 refine rc T 13 (lf T 2 J (ro T 5 (bA (lq [0,23] [1,1,0,0] (λ(⟨k6,x4,x5,a8,n8,H8⟩:Nat×List Int×Int×Option Addr×Nat×Hp)=>(nX.l0 k6 m mG x4 x5=some r/\ak (Fl.int .i64) 3 x4 a8 n8 H8,[(3,(ll a8 x4 n8)),(24,(ii x5))],[H8])) J J (fuel,[],0,none,0,[]) [1,1,0,0,0] ⟨H,ak.nil⟩ J J ?_))));rintro k6 ⟨x4,x5,a8,n8,H8⟩ ⟨Z3,s8⟩;rw[nX.l0] at Z3;refine rc T 6 (cd J Z3 (λZ3=>?_) (λZ3=>?_))
 ·refine rc T 11 (dq mix aA (au T J (au T J (au T J (cw T 1 J J J (au T J ?_))))));obtain⟨c5,Z3⟩:=az Z3;obtain⟨q9,o9,e9⟩:=s5.r.addr c5.1 c5.2;refine bg J J J (cB T J J J J J e9 c5.1 c5.2) (au T J ?_);obtain⟨_,w12,⟨cz,n10,de,n11,⟨OO,m10⟩,⟨V8,m11⟩,rfl⟩⟩:=nJ.view s5.r c5;refine bg J J J (cC T J J J J (Cv (j:=3) J w12 e9 0 J)) (au T J (au T J (au T J (cw T 1 J J J (au T J ?_)))));obtain⟨v7,V6,Z3⟩:=gu Z3;refine xi [2] J J J J J J Ci J (qj.c V6 lI) (au T J (cM (rx T 1 (cb J Z3 (λZ3=>?_) (λZ3=>?_)))))
  ·refine rc T 3 (aV (c_ (k:=(Fl.int .i64)) T [x5] J J J J J J J J J (λdy dT dg=>?_)));obtain⟨c8,Z3⟩:=az Z3;refine aV (eF (k:=(Fl.int .i64)) (xs:=x4) T (g:=4) J J J J J J J J J J s8 (oO dg 5) c8 J (λgU n14 fm gi=>ro T 9 (ar (_,_,_,_,_) [0,0,0,0,0] ⟨Z3,gi⟩ J J)))
  refine rc T 8 (ar (_,_,_,_,_) [0,0,0,0,0] ⟨Z3,s8⟩ J J)
 refine rc T 12 ?_
 cases Z3;refine dz [1,2] J dA (p1 T J [2,2,1,0] ⟨a8,n8,H8,s8,J,J⟩ J)
def jr.l1:Nat->Int->List Int->((List Int)×Int)->List Int->Int->Option pK
 |0,_,_,_,_,_=>none
 |GN+1,x3,x4,fQ,eN,bV=>if bV<(aa fQ.1:Int) then(if(0<=bV/\bV<(aa fQ.1:Int)) then(if(0<=bV/\bV<(aa eN:Int)) then(if((rd fQ.1 bV)!=1099511627776)=true then(if(0<=bV/\bV<(aa (aD eN (ax bV) (-1)):Int)) then(jr.l1 GN x3 x4 fQ (aD (aD eN (ax bV) (-1)) (ax bV) (IntKind.i32.wrap (rd fQ.1 bV))) (af (bV+1))) else none) else(jr.l1 GN x3 x4 fQ (aD eN (ax bV) (-1)) (af (bV+1)))) else none) else none) else(some (pK.mk x3 x4 eN))
def jr.l0:Nat->(Int×Int)->(aF×Bool)->Int->List Int->List Int->Int->Option pK
 |0,_,_,_,_,_,_=>none
 |zA+1,v1,v2,x3,x4,a_,cA=>if cA<(aa x4:Int) then(if(0<=cA/\cA<(aa x4:Int)) then((rE.f v1.1 v1.2 (rd x4 cA)).bind λv17=>if(aa a_+1<=1099511627776) then(jr.l0 zA v1 v2 x3 x4 (a_++[v17]) (af (cA+1))) else none) else none) else((jJ.f v2.1 a_).bind λfQ=>if(0<=(aa fQ.1:Int)/\(aa fQ.1:Int)<=1099511627776) then(jr.l1 fuel x3 x4 fQ (ct (ax (aa fQ.1:Int)) (0:Int)) 0) else none)
def jr.f (m:dK) (bG:Int) (mG:bw):Option pK:=(iL.f mG).bind λv1=>(l9.f mG bG).bind λv2=>((qj.f mG bG).bind λv7=>(kj.f mG bG).bind λv8=>some (v7,v8,([]:List Int))).bind λ(x3,x4,x5)=>jr.l0 fuel v1 v2 x3 x4 [] 0
def jr.R (r:pK):bk:=λu G=> ∃a0 n0 H0 a1 n1 H1,ak (Fl.int .i64) 3 r.nodes a0 n0 H0/\ak (Fl.int .i32) 21 r.aN a1 n1 H1/\u=(.agg #[(ii r.version),(ll a0 r.nodes n0),(ll a1 r.aN n1)])/\G=[H0,H1]
theorem jr.c (H:jr.f m bG mG=some r) (sJ:mZ m iJ ly ny) (lI:iH mG ly lL):
 QR 211 [(pp iJ),(ii bG)] [ny,lL] [ny,lL] F (jr.R r):=by
 unfold jr.f at H;refine aG Tryz.func211 J J (λW=>rc T 2 (nc T J (λb3=>ro T 3 ?_)));obtain⟨a6,n6,H6,s6,lz⟩:=(λx=>x) sJ;refine bX 0 (congrArg some lz) (fz J (rc T 4 (lf T 3 J (k [0] J uR H (iL.c · lI) (λv1 H=>ro T 12 (lf T 3 J (ro T 1 (kr l9.R [0] [0] J St H (l9.c · lI) (λv2 H=>?_)))))))));rintro _ _ ⟨a7,n7,H7,s7,rfl,rfl⟩;refine fz J (ro T 3 (nc T J (λb8=>sg T 6 J (ro T 3 (mq H [4,5,6,7] [0,0,4,2,0,1,0] (λz6 (⟨x3,x4,x5,b9,cz,n10,bZ,de,n11,cE⟩:Int×List Int×List Int×Nat×Option Addr×Nat×Hp×Option Addr×Nat×Hp)=>((x3,x4,x5)=z6/\ak (Fl.int .i64) 3 x4 cz n10 bZ/\ak (Fl.int .i32) 21 x5 de n11 cE,[(9,(pp b9))],[(cl b9 217 [(ii x3),(ll cz x4 n10),(ll de x5 n11)]),bZ,cE])) J J (λz6 Z3 _=>?_) ?_)))))
 ·refine ks [0,1,4,5,6,7] J (fz J (rz [] mix (bR bQ) (λhg pf=>ha T 12 [0,1,2] sz hg pf J (al T 3 2 sz hg pf J J J (ha T 7 [4,6,7,8] sz hg pf J (al T 9 2 sz hg pf J J J (ha T 5 [10] sz hg pf J (gM 5 13 ?_ ?_))))))))
  ·refine kh [5] J Ci Z3 (qj.c · lI) (λv7 Z3=>an sz (gM 11 13 ?_ ?_))
   ·refine kR kj.R [5] [5] J JE Z3 (kj.c · lI) (λv8 Z3=>?_);rintro _ _ ⟨a12,n12,dH,dN,rfl,rfl⟩;refine fz J (an (so [0,0,0,0,0,2,0]) (ha T 2 [12] (so [0,0,0,0,0,2,0]) hg pf J (ao 13 (nw T J (λZu=>an (so [0,0,0,0,0,2,0]) (ao 14 (sf T 8 J (an (so [0,0,0,0,0,2,0]) (ae (rx T 1 (bA (am (_,_,_,_,_,_,_,_,_,_) [0,0,3,2,0,2,0,1,0,0] ⟨oi Z3,dN,ak.nil⟩ J J))))))))))))
   refine nw T J (λI3=>an (so [0,0,0,0,0,0,0]) (ao 11 (kR kj.R [5] [5] J JE Z3 (kj.c · lI) (λv9 Z3=>?_))));rintro _ _ ⟨kc,n15,dO,dW,rfl,rfl⟩;refine fz J (an (so [0,0,0,0,0,3,0]) (ha T 1 [12] (so [0,0,0,0,0,3,0]) hg pf J (ao 14 (sf T 6 J (an (so [0,0,0,0,0,3,0]) (ae (rx T 1 (bA (am (_,_,_,_,_,_,_,_,_,_) [0,0,3,2,0,3,0,0,0,0] ⟨oi Z3,dW,ak.nil⟩ J J)))))))))
  refine nw T J (λqQ=>an (so [0,0,0,0,0,0,0]) (ao 5 (kh [5] J Ci Z3 (qj.c · lI) (λv10 Z3=>an (so [0,0,0,0,0,0,0]) (ao 11 (kR kj.R [5] [5] J JE Z3 (kj.c · lI) (λv11 Z3=>?_)))))));rintro _ _ ⟨a17,n17,eP,fF,rfl,rfl⟩;refine fz J (an (so [0,0,0,0,0,3,0]) (ha T 1 [12] (so [0,0,0,0,0,3,0]) hg pf J (ao 14 (sf T 6 J (an (so [0,0,0,0,0,3,0]) (ae (rx T 1 (bA (am (_,_,_,_,_,_,_,_,_,_) [0,0,3,2,0,3,0,0,0,0] ⟨oi Z3,fF,ak.nil⟩ J J)))))))))
 rintro _ ⟨x3,x4,x5,b9,cz,n10,bZ,de,n11,cE⟩ ⟨rfl,bT,cW⟩ H;refine rc T 9 (lf T 7 J (ro T 5 (bA (lq [4,5,6,7,9,48,49] [0,0,0,0,3,3,3,0,0,0] (λ(⟨zA,a_,cA,my,n19,lh⟩:Nat×List Int×Int×Option Addr×Nat×Hp)=>(jr.l0 zA v1 v2 x3 x4 a_ cA=some r/\ak (Fl.int .i64) 3 a_ my n19 lh,[(10,(ll my a_ n19)),(50,(ii cA))],[lh])) J J (fuel,[],0,none,0,[]) [0,0,0,0,3,3,3,0,0,0,0] ⟨H,ak.nil⟩ J J ?_))));rintro zA ⟨a_,cA,my,n19,lh⟩ ⟨Z9,hJ⟩;rw[jr.l0] at Z9;refine rc T 6 (cd J Z9 (λZ9=>?_) (λZ9=>?_))
 ·refine rc T 6 ?_;obtain⟨di,Z9⟩:=az Z9;obtain⟨VL,Vb,tu⟩:=bT.r.addr di.1 di.2;refine ix T J tu di (le T 0 (oO bT 5) tu di J J (ro T 8 (k [] J Gh Z9 (rE.c ·) (λv17 Z9=>aV (c_ (k:=(Fl.int .i64)) T [v17] J J J J J J J J J (λa21 lJ j4=>?_))))));obtain⟨jl,Z9⟩:=az Z9;refine aV (eF (k:=(Fl.int .i64)) (xs:=a_) T (g:=10) J J J J J J J J J J hJ (oO j4 11) jl J (λa22 n22 mr iv=>ro T 9 (ar (_,_,_,_,_) [0,0,0,0,0,0,0,0,0,0,0] ⟨Z9,iv⟩ J J)))
 refine rc T 7 (lm T 2 J (ro T 1 (kr jJ.R [] [] J acN Z9 (jJ.c · (oO s7 3) s7.b_ (oO hJ 10) hJ.b_) (λfQ Z9=>?_))));rintro _ _ ⟨a23,n23,jL,hU,rfl,rfl⟩;refine fz J (ro T 11 ?_);obtain⟨ze,Z9⟩:=az Z9;refine aV (xh (k:=(Fl.int .i32)) T (0:Int) J J J J J J J J ze J (λa24 n24 rK mj=>ro T 1 (sg T 4 J (ro T 11 (lq [4,9,72,73] [0,0,3,8,4,4,4] (λ(⟨GN,eN,bV,a26,n26,pd⟩:Nat×List Int×Int×Option Addr×Nat×Hp)=>(jr.l1 GN x3 x4 fQ eN bV=some r/\ak (Fl.int .i32) 21 eN a26 n26 pd,[(74,(ii bV))],[(cl b9 217 [(ii x3),(ll cz x4 n10),(ll a26 eN n26)]),pd])) J J (fuel,(ct (ax (aa fQ.1:Int)) (0:Int)),0,a24,n24,rK) [0,0,3,8,4,4,4,2,4] ⟨Z9,mj⟩ J J ?_)))));rintro GN ⟨eN,bV,a26,n26,pd⟩ ⟨eB,od⟩;rw[jr.l1] at eB;refine rc T 6 (cd J eB (λeB=>?_) (λeB=>?_))
 ·refine rc T 7 ?_;obtain⟨lP,eB⟩:=az eB;obtain⟨Hn,o27,B9⟩:=hU.r.addr lP.1 lP.2;refine ix T J B9 lP (le T 0 (oO hU 3) B9 lP J J (ro T 7 (lf T 7 J (ro T 1 ?_))));obtain⟨tk,eB⟩:=az eB;obtain⟨q28,o28,Ja⟩:=od.r.addr tk.1 tk.2;refine ix T J Ja tk (aV (jN (k:=(Fl.int .i32)) T 8 0 (-1) J J J J J J od Ja tk J J J (λrL rp=>kg [4,9,15,16,72,73,74] [0,0,0,0,0,0,0,1] [0,0,0,0,0,0,0,1,0] [] [(cl b9 217 [(ii x3),(ll cz x4 n10),(ll a26 (aD eN (ax bV) (-1)) n26)])] J J trivial dw (ro T 8 (cb J eB (λeB=>?_) (λeB=>?_))))))
  ·refine rc T 2 (lf T 8 J (ro T 3 ?_));obtain⟨pw,eB⟩:=az eB;refine ix T J Ja pw (aV (jN (k:=(Fl.int .i32)) T 7 0 (IntKind.i32.wrap (rd fQ.1 bV)) J J J J J J rp Ja pw J J J (λrM pQ=>kg [4,9,72,73,74] [0,0,0,0,0,0,0,0] [0,0,0,0,0,0,0,0,0] [] [(cl b9 217 [(ii x3),(ll cz x4 n10),(ll a26 (aD (aD eN (ax bV) (-1)) (ax bV) (IntKind.i32.wrap (rd fQ.1 bV))) n26)])] J J trivial dw (ro T 8 (ar (_,_,_,_,_) [0,0,0,0,0,0,0,1,0] ⟨eB,pQ⟩ J J)))))
  refine rc T 8 (ar (_,_,_,_,_) [0,0,0,0,0,0,0,1,0] ⟨eB,rp⟩ J J)
 refine rc T 7 (lm T 7 J (sg T 1 J (ro T 3 ?_)))
 cases eB;refine dz [4,5] J lz (pb T J (.cT (j:=1) [(ii x3),(ll cz x4 n10),(ll a26 eN n26)] J J J J J J J .nil) [2,5,5,3,0] ⟨(_,_),cz,n10,bZ,a26,n26,pd,bT,od,J,J⟩ J J)
def nY.l0:Nat->bw->(List Int)->dK->Int->Option (Int×dK)
 |0,_,_,_,_=>none
 |k6+1,mG,v1,x4,x5=>if x5<(aa v1:Int) then(if(0<=x5/\x5<(aa v1:Int)) then((jr.f x4 (rd v1 x5) mG).bind λv7=>if(0<=(rd v1 x5)/\(rd v1 x5)<(aa x4.parts:Int)) then((sN.f x4.count 1).bind λv8=>nY.l0 k6 mG v1 (dK.mk (aD x4.parts (ax (rd v1 x5)) v7) x4.clean v8) (af (x5+1))) else none) else none) else((pz.f mG).bind λv9=>some ((aa v1:Int),(dK.mk x4.parts v9 x4.count)))
def nY.f (m:dK) (mG:bw):Option (Int×dK):=(nX.f m mG).bind λv1=>nY.l0 fuel mG v1 m 0
def nY.R (aai:Nat) (aeV:Nat) (r:(Int×dK)):bk:=λu G=> ∃(H0:Hp),mZ r.2 aai aeV H0/\u=(ii r.1)/\G=[H0]
theorem nY.c (H:nY.f m mG=some r) (sJ:mZ m iJ ly ny) (lI:iH mG ly lL):
 QR 181 [(pp iJ)] [ny,lL] [lL] F (nY.R iJ ly r):=by
 unfold nY.f at H;refine aG Tryz.func181 J J (λW=>rc T 12 (e_ J (rc T 5 (kr nX.R [0,0] [0,0] J adL H (nX.c · sJ lI) (λv1 H=>?_)))));rintro _ _ ⟨a3,n3,H3,s3,rfl,rfl⟩;refine fz J (ro T 12 (lq [0,3,10,11] [0,2,0] (λ(⟨k6,x4,x5,H5⟩:Nat×dK×Int×Hp)=>(nY.l0 k6 mG v1 x4 x5=some r/\mZ x4 iJ ly H5,[(12,(ii x5))],[H5])) J J (fuel,m,0,ny) [0,2,0,0] ⟨H,sJ⟩ J J ?_));rintro k6 ⟨x4,x5,H5⟩ ⟨Z2,s5⟩;rw[nY.l0] at Z2;refine rc T 6 (cd J Z2 (λZ2=>?_) (λZ2=>?_))
 ·refine rc T 6 ?_;obtain⟨c4,Z2⟩:=az Z2;obtain⟨q6,o6,e6⟩:=s3.r.addr c4.1 c4.2;refine ix T J e6 c4 (le T 0 (oO s3 2) e6 c4 J J (ro T 4 ?_));obtain⟨a9,n9,H9,s9,r_⟩:=(λx=>x) s5;refine bX 3 (congrArg some r_) (fz J (fz J (rz [9] mix (bR bQ) (λhg pf=>ha T 7 [0,1,2] sz hg pf J (al T 3 3 sz hg pf J J J (ha T 3 [4,5,6] sz hg pf J (ao 7 ?_)))))));obtain⟨v7,V5,Z2⟩:=gu Z2;refine FF (As:=[(cl iJ 213 [(pp ly),(ll a9 x4.parts n9),(ii x4.clean),(uu x4.count)]),H9,lL]) (jr.R v7) [(cl iJ 213 [(pp ly),(ll a9 x4.parts n9),(ii x4.clean),(uu x4.count)]),H9,lL] [3,3,1] J J J J acu J J (I_ (A:=[H5,lL]) (A2:=[H5,lL]) (by simp only[r_,vC,vB,vD,sY,uz]) (by simp only[r_,vC,vB,vD,sY,uz]) (jr.c V5 s5 lI)) ?_
  rintro _ _ ⟨cz,n10,bZ,de,n11,cE,bT,cW,rfl,rfl⟩;refine fz J (an (so [0,5,0,2,2]) ?_);obtain⟨c6,Z2⟩:=az Z2;obtain⟨wz,OC,tr⟩:=s9.r.addr c6.1 c6.2;refine av 8 (so [0,5,0,2,2]) hg pf J (cB T J J J J J tr c6.1 c6.2) (ao 9 (LN (j:=5) J s9 c6 (λ_ _ dO o15 dW=>?_)));obtain⟨dy,n13,dT,gU,n14,fm,dg,gi,rfl,rfl⟩:=o15;refine LQ (LO T 5 0 [(ii v7.version),(ll cz v7.nodes n10),(ll de v7.aN n11)] J J J J J J dW tr J J J J (λfx eK=>an sl (ae (gD [2,2] J (LM (j:=3) (q:=7) v7 J eK J J ⟨cz,n10,bZ,de,n11,cE,bT,cW,J,J⟩ (λfo fG=>kg [0,3,10,11,12] [0,0,1,1] [0,0,1,1,0] [] [(cl iJ 213 [(pp ly),(ll a9 (aD x4.parts (ax (rd v1 x5)) v7) n9),(ii x4.clean),(uu x4.count)])] J J trivial dw (rx T 6 (lf T 4 J (k [] J JB Z2 (sN.c ·) (λv8 Z2=>ro T 2 (sg T 4 J (ro T 8 (gD [4,2] J (ar (_,_,_) [0,1,0,0] ⟨Z2,(show mZ (dK.mk (aD x4.parts (ax (rd v1 x5)) v7) x4.clean v8) iJ ly (List.flatten [(cl iJ 213 [(pp ly),(ll a9 (aD x4.parts (ax (rd v1 x5)) v7) n9),(ii x4.clean),(uu v8)]),fo]) from⟨a9,n9,fo,fG,J⟩)⟩ J J))))))))))))))
 refine rc T 6 ?_;obtain⟨a21,n21,lJ,j4,F9⟩:=(λx=>x) s5;refine bX 3 (congrArg some F9) (fz J (rc T 5 (lf T 3 J (k [1] J Ch Z2 (pz.c · lI) (λv9 Z2=>ro T 2 (sg T 3 J (ro T 10 ?_)))))))
 cases Z2;refine gD [3,3] J (p1 T J [3,1,0] ⟨(List.flatten [(cl iJ 213 [(pp ly),(ll a21 x4.parts n21),(ii v9),(uu x4.count)]),lJ]),(show mZ (dK.mk x4.parts v9 x4.count) iJ ly (List.flatten [(cl iJ 213 [(pp ly),(ll a21 x4.parts n21),(ii v9),(uu x4.count)]),lJ]) from⟨a21,n21,lJ,j4,J⟩),J,J⟩ J)
def xW.f (m:dK) (bG:Int) (mG:bw):Option (List Int):=(if bG<0 then(some true) else(some (decide (bG≥(aa m.parts:Int))))).bind λx1=>if x1=true then(some []) else(if(0<=bG/\bG<(aa m.parts:Int)) then((qD.f ((rd m.parts bG).nodes)).bind λv3=>some v3) else none)
def xW.R (r:(List Int)):bk:=λu G=> ∃a0 n0 H0,ak (Fl.int .i64) 3 r a0 n0 H0/\u=(ll a0 r n0)/\G=[H0]
theorem xW.c (H:xW.f m bG mG=some r) (sJ:mZ m iJ ly ny) (lI:iH mG ly lL):
 QR 215 [(pp iJ),(ii bG)] [ny,lL] [ny,lL] F (xW.R r):=by
 unfold xW.f at H;refine aG Tryz.func215 J J (λW=>rc T 6 (mq H [0,1] [2,0,0] (λz2 (x1:Bool)=>(x1=z2,[(19,(bb x1))],[])) J J (λz2 Z1 _=>?_) ?_))
 ·obtain⟨a5,n5,H5,s5,dA⟩:=(λx=>x) sJ;refine bX 0 (congrArg some dA) (fz J (rc T 8 (ad 11 J Z1 (λZ1=>?_) (λZ1=>?_))))
  ·refine ro T 10 (dz [2,2] J dA (am _ [1,1,0] (oi Z1) J J))
  refine ro T 4 (lf T 2 J (ro T 5 (dz [2,2] J dA (am _ [1,1,0] (oi Z1) J J))))
 rintro _ x1 rfl H;refine cb J H (λH=>?_) (λH=>?_)
 ·refine rc T 7 ?_
  cases H;refine bA (p1 T J [3,1,1,0] ⟨none,0,[],ak.nil,J,J⟩ J)
 refine rc T 3 ?_;obtain⟨a9,n9,H9,s9,r_⟩:=(λx=>x) sJ;refine bX 1 (congrArg some r_) (fz J (rc T 4 (lf T 2 J (ro T 1 ?_))));obtain⟨c4,H⟩:=az H;obtain⟨KM,KE,qf⟩:=s9.r.addr c4.1 c4.2;refine ix T J qf c4 (ro T 1 ?_);obtain⟨_,w13,⟨de,n11,a12,n12,⟨V8,m11⟩,⟨r12,m12⟩,rfl⟩⟩:=nJ.view s9.r c4;refine lg T J (Cv (j:=3) J w13 qf 1 J) (kr qD.R [] [] J M4 H (qD.c · (rO V8 3) m11) (λv3 H=>?_));rintro _ _ ⟨gU,n14,fm,gi,rfl,rfl⟩;refine fz J (ro T 4 ?_)
 cases H;refine dz [2,2] J r_ (p1 T J [2,2,1,0] ⟨gU,n14,fm,gi,J,J⟩ J)
def Es.f (p:pK) (cell:Int):Option (Int×Bool):=(oZ.f p.nodes cell).bind λv1=>some (v1.1,v1.2)
theorem Es.c (H:Es.f p cell=some r) (Kv:BE LY OD [(ii p.version),(ll LF p.nodes Ou),(ll LD p.aN Ot)] F) (Si:aP (Fl.int .i64) p.nodes LF F) (QX:aa p.nodes<=Ou) (MO:aP (Fl.int .i32) p.aN LD F) (aaa:aa p.aN<=Ot):
 QU 272 [(.pointer (some ⟨LY,OD+0,none⟩)),(ii cell)] [] F (.tuple #[(ii r.1),(bb r.2)]):=by
 unfold Es.f at H;refine aG Tryz.func272 J J (λW=>rc T 11 (lg T J (N6 Kv (j:=0) J 1 J) (ro T 1 (k [] J ac' H (oZ.c · (rO Si 0) QX) (λv1 H=>ro T 7 ?_)))))
 cases H;exact p0 T J [0] J
def tK.f (m:dK) (cell:Int) (mG:bw):Option ((Option Int)×Int×Bool):=(iL.f mG).bind λv1=>(gy.f v1.1 v1.2 cell).bind λv2=>if v2<0 then(some (none,0,false)) else(if(0<=v2/\v2<(aa m.parts:Int)) then((Es.f (rd m.parts v2) cell).bind λv3=>some ((some v2),v3.1,v3.2)) else none)
def tK.R (xa0:Option Addr) (xl0:Nat) (r:((Option Int)×Int×Bool)):bk:=λu G=> ∃(u0:Value),XX r.1 xa0 xl0 3 u0/\u=(.tuple #[u0,(ii r.2.1),(bb r.2.2)])/\G=[]
theorem tK.c (H:tK.f m cell mG=some r) (Wv:gK ON 217 m.parts LB UX PY) (lI:iH mG ly lL):
 QR 243 [(pp iJ),(ii cell)] [(cl iJ 213 [(pp ly),(ll LB m.parts UX),(ii m.clean),(uu m.count)]),PY,lL] [(cl iJ 213 [(pp ly),(ll LB m.parts UX),(ii m.clean),(uu m.count)]),PY,lL] F (tK.R LB (aa m.parts) r):=by
 unfold tK.f at H;refine aG Tryz.func243 J J (λW=>rc T 14 (e_ J (rc T 7 (lf T 0 J (k [2] J uR H (iL.c · lI) (λv1 H=>ro T 12 (k [] J sb H (gy.c ·) (λv2 H=>ro T 10 (cd J H (λH=>?_) (λH=>?_))))))))))
 ·refine rc T 9 ?_
  cases H;exact p1 T J [0,0,0,0] ⟨_,J,J,J⟩ J
 refine rc T 7 (lf T 0 J (ro T 1 ?_));obtain⟨c4,H⟩:=az H;obtain⟨q4,o4,e4⟩:=Wv.r.addr c4.1 c4.2;refine ix T J e4 c4 (ro T 7 ?_);obtain⟨_,w7,⟨a5,n5,a6,n6,⟨r5,m5⟩,⟨r6,m6⟩,rfl⟩⟩:=nJ.view Wv.r c4;refine k [] J ac4 H (Es.c · (Qy w7 e4 (j:=1) J) (rO r5 1) m5 (rO r6 1) m6) (λv3 H=>ro T 18 ?_)
 cases H;exact p1 T J [0,0,0,0] ⟨_,⟨c4,q4,o4,e4,J⟩,J,J⟩ J
def CJ.f (p:pK) (i:Int) (j:Int):Option Int:=if(0<=(af ((af (i*(aa p.nodes:Int)))+j))/\(af ((af (i*(aa p.nodes:Int)))+j))<(aa p.aN:Int)) then(if((rd p.aN (af ((af (i*(aa p.nodes:Int)))+j)))!=(-1))=true then(some (af (rd p.aN (af ((af (i*(aa p.nodes:Int)))+j))))) else(some 1099511627776)) else none
theorem CJ.c (H:CJ.f p i j=some r) (Kv:BE LY OD [(ii p.version),(ll LF p.nodes Ou),(ll LD p.aN Ot)] F) (Si:aP (Fl.int .i64) p.nodes LF F) (QX:aa p.nodes<=Ou) (MO:aP (Fl.int .i32) p.aN LD F) (aaa:aa p.aN<=Ot):
 QU 244 [(.pointer (some ⟨LY,OD+0,none⟩)),(ii i),(ii j)] [] F (ii r):=by
 unfold CJ.f at H;refine aG Tryz.func244 J J (λW=>rc T 7 (dq mix aA (au T J (au T J (au T J (bg J J J (cC T J J J J (N6 Kv (j:=0) J 2 J)) ?_))))))
 iterate 4 refine au T J ?_
 refine bg J J J (cC T J J J J (N6 Kv (j:=0) J 1 J)) ?_
 iterate 4 refine au T J ?_
 obtain⟨c1,H⟩:=az H;obtain⟨q1,o1,e1⟩:=MO.addr c1.1 c1.2;refine bg J J J (cB T J J J J J e1 c1.1 c1.2) (bg J J J (cC T J J J J (fv (k:=(Fl.int .i32)) (rO MO 0) e1 c1 0 J)) (au T J (cM (rx T 7 (cb J H (λH=>?_) (λH=>?_))))))
 ·refine rc T 9 ?_
  cases H;exact p0 T J [0] J
 refine rc T 8 ?_
 cases H;exact p0 T J [0] J
def gZ.l1:Nat->dK->Int->bw->Int->(Int×Int)->List d_->Int->Option (List d_)
 |0,_,_,_,_,_,_,_=>none
 |lS+1,m,b,mG,eO,v10,aO,a_=>if a_<=3 then((mY.f v10.1 v10.2 b a_).bind λdI=>(tK.f m dI mG).bind λv17=>dF v17.1 (if v17.2.2=true then((i_.f mG b).bind λfQ=>if(aa aO+1<=1099511627776) then(gZ.l1 lS m b mG eO v10 (aO++[(d_.mk dI fQ)]) (af (a_+1))) else none) else(gZ.l1 lS m b mG eO v10 aO (af (a_+1)))) (λXs=>if v17.2.2=true then(if(!(Xs==eO))=true then((i_.f mG b).bind λox=>if(aa aO+1<=1099511627776) then(gZ.l1 lS m b mG eO v10 (aO++[(d_.mk dI ox)]) (af (a_+1))) else none) else(gZ.l1 lS m b mG eO v10 aO (af (a_+1)))) else(gZ.l1 lS m b mG eO v10 aO (af (a_+1))))) else(some aO)
def gZ.l0:Nat->dK->Int->bw->((Option Int)×Int×Bool)->Int->List d_->Int->Option (List d_)
 |0,_,_,_,_,_,_,_=>none
 |k6+1,m,b,mG,v1,eO,x4,x5=>if x5<(aa ((rd m.parts eO).nodes):Int) then((if(0<=x5/\x5<(aa ((rd m.parts eO).nodes):Int)) then((CJ.f (rd m.parts eO) x5 v1.2.1).bind λv9=>if((x5 !=v1.2.1)&&(v9 !=1099511627776))=true then(if(aa x4+1<=1099511627776) then(some (x4++[(d_.mk (rd ((rd m.parts eO).nodes) x5) v9)])) else none) else(some x4)) else none).bind λx7=>gZ.l0 k6 m b mG v1 eO x7 (af (x5+1))) else((iL.f mG).bind λv10=>gZ.l1 fuel m b mG eO v10 x4 0)
def gZ.f (m:dK) (b:Int) (mG:bw):Option (List d_):=(tK.f m b mG).bind λv1=>dF v1.1 (if(!v1.2.2)=true then(some []) else(none)) (λeO=>if(!v1.2.2)=true then(some []) else(if(0<=(0:Int)/\(0:Int)<=(af ((aa ((rd m.parts eO).nodes):Int)+1))/\(af ((aa ((rd m.parts eO).nodes):Int)+1))<=1099511627776) then(gZ.l0 fuel m b mG v1 eO (ct (ax 0) (default:d_)) 0) else none))
def gZ.R (r:(List d_)):bk:=λu G=> ∃a0 n0 H0,ak pH 283 r a0 n0 H0/\u=(ll a0 r n0)/\G=[H0]
theorem gZ.c (H:gZ.f m b mG=some r) (sJ:mZ m iJ ly ny) (lI:iH mG ly lL):
 QR 219 [(pp iJ),(ii b)] [ny,lL] [ny,lL] F (gZ.R r):=by
 unfold gZ.f at H;refine aG Tryz.func219 J J (λW=>rc T 6 ?_);obtain⟨a5,n5,H5,s5,dA⟩:=(λx=>x) sJ;refine bX 0 (congrArg some dA) (fz J (rc T 3 (kr (tK.R a5 (aa m.parts)) [2,2,0] [2,2,0] J SZ H (tK.c · s5 lI) (λv1 H=>?_))));rintro _ _ ⟨_,X2,rfl,rfl⟩;refine fz J ?_;rcases J':v1.1 with _ |eO
 ·replace H:=ff J' H;rw[J'] at X2;obtain rfl:=X2;refine ro T 16 (cb J H (λH=>?_) (λH=>?_))
  ·refine rc T 7 ?_
   cases H;refine dz [1,1] J dA (bA (p1 T J [3,2,1,0] ⟨none,0,[],ak.nil,J,J⟩ J))
  refine rc T 5 ?_
  cases H
 replace H:=fg J' H;rw[J'] at X2;obtain⟨ME,q6,o6,e6,rfl⟩:=X2;refine ro T 16 (cb J H (λH=>?_) (λH=>?_))
 ·refine rc T 7 ?_
  cases H;refine dz [1,1] J dA (bA (p1 T J [3,2,1,0] ⟨none,0,[],ak.nil,J,J⟩ J))
 refine rc T 7 ?_;obtain⟨_,Xb,⟨a9,n9,cz,n10,⟨r9,m9⟩,⟨OO,m10⟩,rfl⟩⟩:=nJ.view s5.r ME;refine lg T J (Cv (j:=2) J Xb e6 1 J) (ro T 2 ?_);obtain⟨c5,H⟩:=az H;refine aV (Y2 (k:=pH) T (default:d_) J J J J J J J J c5 J (λa12 n12 dH dN=>ro T 9 (lg T J (Cv (j:=2) J Xb e6 1 J) (ro T 5 (lq [0,1,5,6,38,39] [0,0,1,0] (λ(⟨k6,x4,x5,gU,n14,fm⟩:Nat×List d_×Int×Option Addr×Nat×Hp)=>(gZ.l0 k6 m b mG v1 eO x4 x5=some r/\ak pH 283 x4 gU n14 fm,[(8,(ll gU x4 n14)),(40,(ii x5))],[fm])) J J (fuel,(ct (ax 0) (default:d_)),0,a12,n12,dH) [0,0,1,0,0] ⟨H,dN⟩ J J ?_)))));rintro k6 ⟨x4,x5,gU,n14,fm⟩ ⟨Z6,gi⟩;rw[gZ.l0] at Z6;refine rc T 6 (cd J Z6 (λZ6=>?_) (λZ6=>?_))
 ·refine rc T 2 (mq Z6 [0,1,5,6,38,39,40] [0,0,0,0] (λz8 (⟨x7,kc,n15,dO⟩:List d_×Option Addr×Nat×Hp)=>(x7=z8/\ak pH 283 x7 kc n15 dO,[(8,(ll kc x7 n15))],[dO])) J J (λz8 Z8 _=>?_) ?_)
  ·refine rc T 4 ?_;obtain⟨c9,Z8⟩:=az Z8;obtain⟨q16,o16,FY⟩:=r9.addr c9.1 c9.2;refine ix T J FY c9 (le T 0 (rO r9 3) FY c9 J J (ro T 9 ?_));obtain⟨_,w19,⟨a17,n17,jj,n18,⟨r17,m17⟩,⟨r18,m18⟩,rfl⟩⟩:=nJ.view s5.r ME;refine k [] J acR Z8 (CJ.c · (Qy w19 e6 (j:=3) J) (rO r17 3) m17 (rO r18 3) m18) (λv9 Z8=>ro T 9 (ga T [4,5,6] 52 [0,1,5,6,8,10,11,38,39,40] 55 J J J J J J J (ro T 2 (cb J Z8 (λZ8=>?_) (λZ8=>?_)))))
   ·refine rc T 5 (aV (c_ (k:=pH) T [(d_.mk (rd ((rd m.parts eO).nodes) x5) v9)] J J J J J J J J J (λa20 oA mi=>?_)));obtain⟨gv,Z8⟩:=az Z8;refine aV (eF (k:=pH) (xs:=x4) T (g:=4) J J J J J J J J J J gi (oO mi 5) gv J (λa21 n21 lJ j4=>ro T 4 (am (_,_,_,_) [0,0,0,0,0] ⟨oi Z8,j4⟩ J J)))
   refine rc T 3 (am (_,_,_,_) [0,0,0,0,0] ⟨oi Z8,gi⟩ J J)
  rintro _ ⟨x7,kc,n15,dO⟩ ⟨rfl,dW⟩ Z6;refine rc T 5 (ar (_,_,_,_,_) [0,0,0,0,0] ⟨Z6,dW⟩ J J)
 refine rc T 10 (lf T 1 J (k [2] J uR Z6 (iL.c · lI) (λv10 Z6=>ro T 14 (lq [0,1,5,12,13] [0,0,0,0] (λ(⟨lS,aO,a_,a23,n23,jL⟩:Nat×List d_×Int×Option Addr×Nat×Hp)=>(gZ.l1 lS m b mG eO v10 aO a_=some r/\ak pH 283 aO a23 n23 jL,[(8,(ll a23 aO n23)),(14,(ii a_))],[jL])) J J (fuel,x4,0,gU,n14,fm) [0,0,0,0,0] ⟨Z6,gi⟩ J J ?_))));rintro lS ⟨aO,a_,a23,n23,jL⟩ ⟨bD,hU⟩;rw[gZ.l1] at bD;refine rc T 7 (cd J bD (λbD=>?_) (λbD=>?_))
 ·refine rc T 10 (k [] J AR bD (mY.c ·) (λdI bD=>ro T 7 (kr (tK.R a5 (aa m.parts)) [1,2,1] [1,2,1] J SZ bD (tK.c · s5 lI) (λv17 bD=>?_))));rintro _ _ ⟨_,II,rfl,rfl⟩;refine fz J ?_;rcases Kb:v17.1 with _ |Xs
  ·replace bD:=ff Kb bD;rw[Kb] at II;obtain rfl:=II;refine ro T 13 (ab 88 J bD (λbD=>?_) (λbD=>?_))
   ·refine ro T 2 (bx J (abe T J J J J) (ro T 3 (nL J (rc T 6 (lf T 2 J (ro T 1 (k [4] J vX bD (i_.c · lI) (λfQ bD=>ro T 1 (aV (c_ (k:=pH) T [(d_.mk dI fQ)] J J J J J J J J J (λa25 ig jG=>?_)))))))))));obtain⟨pw,bD⟩:=az bD;refine aV (eF (k:=pH) (xs:=aO) T (g:=1) J J J J J J J J J J hU (oO jG 5) pw J (λa26 n26 pd od=>ro T 10 (ar (_,_,_,_,_) [0,1,2,1,0] ⟨bD,od⟩ J J)))
   refine ro T 6 (e_ J (rc T 9 (ar (_,_,_,_,_) [0,1,2,1,0] ⟨bD,hU⟩ J J)))
  replace bD:=fg Kb bD;rw[Kb] at II;obtain⟨abr,q24,o24,e24,rfl⟩:=II;refine ro T 13 (ab 88 J bD (λbD=>?_) (λbD=>?_))
  ·refine ro T 2 (bx J (abf T J J J J J J e24 e6 abr.1 ME.1) (ro T 3 (cb J bD (λbD=>?_) (λbD=>?_))))
   ·refine rc T 6 (lf T 2 J (ro T 1 (k [4] J vX bD (i_.c · lI) (λox bD=>ro T 1 (aV (c_ (k:=pH) T [(d_.mk dI ox)] J J J J J J J J J (λIJ Fb wH=>?_)))))));obtain⟨ZS,bD⟩:=az bD;refine aV (eF (k:=pH) (xs:=aO) T (g:=1) J J J J J J J J J J hU (oO wH 5) ZS J (λa28 n28 vu ky=>ro T 10 (ar (_,_,_,_,_) [0,1,2,1,0] ⟨bD,ky⟩ J J)))
   refine rc T 9 (ar (_,_,_,_,_) [0,1,2,1,0] ⟨bD,hU⟩ J J)
  refine ro T 6 (e_ J (rc T 9 (ar (_,_,_,_,_) [0,1,2,1,0] ⟨bD,hU⟩ J J)))
 refine rc T 12 ?_
 cases bD;refine dz [1,2] J dA (p1 T J [2,2,1,0] ⟨a23,n23,jL,hU,J,J⟩ J)
end
end Go.Proofs.YthodkonhneebbaaGreatDoor
