/- What the functions of some packages compute, each as a function of plain Lean, with its contract. No condition. -/
import Derived.Test.YthodkonhneebbaaGreatDoorKST
import Derived.Test.YthodkonhneebbaaGreatDoorKS5
import Derived.Test.YthodkonhneebbaaGreatDoorKSSort
import Derived.Test.YthodkonhneebbaaGreatDoorKS8
import Derived.Test.YthodkonhneebbaaGreatDoorKS7
import Derived.Test.YthodkonhneebbaaGreatDoorKS6
namespace Go.Proofs.YthodkonhneebbaaGreatDoor
open Go.Hx
set_option maxRecDepth 100000
set_option linter.unusedSimpArgs false
set_option linter.unusedVariables false
set_option maxHeartbeats 4000000
set_option autoImplicit true
set_option relaxedAutoImplicit true
noncomputable section
def Du.f (t:aL) (cell:Int) (side:Int):Option Bool:=if(¬t.W=0) then(if(¬t.W=0) then(if(side==0)=true then(some ((aa (Int.tdiv cell t.W))==0)) else(if(side==1)=true then(some ((Int.tmod cell t.W)==(aa (t.W-1)))) else(if(side==2)=true then(some ((aa (Int.tdiv cell t.W))==(aa (t.H-1)))) else(if(side==3)=true then(some ((Int.tmod cell t.W)==0)) else(some (side==4)))))) else none) else none
theorem Du.c (H:Du.f t cell side=some r) (dR:aP (Fl.int .u8) t.C iG F) (fw:List.length t.C<=iM):
 QU 223 [(.agg #[(ii t.W),(ii t.H),(ll iG t.C iM)]),(ii cell),(ii side)] [] F (bb r):=by
 unfold Du.f at H;refine aD Tryz.func223 J J (λW=>rc T 2 (nc T J (λb1=>ro T 4 (dx mix ay (au T J (au T J (aO J J J (aw T J J J J (aK (j:=1) J J)) ?_)))))));obtain⟨c1,H⟩:=az H;refine aO J J J (vK J J J c1) (au T J (au T J (aO J J J (aw T J J J J (aK (j:=1) J J)) ?_)));obtain⟨c2,H⟩:=az H;refine aO J J J (vJ J J J c2) (au T J (au T J (dh (rx T 14 (cb J H (λH=>?_) (λH=>?_))))))
 ·refine rc T 10 ?_
  cases H;exact p0 T J [0] J
 refine rc T 6 (cb J H (λH=>?_) (λH=>?_))
 ·refine rc T 4 (lf T 1 J (ro T 8 ?_))
  cases H;exact p0 T J [0] J
 refine rc T 6 (cb J H (λH=>?_) (λH=>?_))
 ·refine rc T 4 (lf T 1 J (ro T 8 ?_))
  cases H;exact p0 T J [0] J
 refine rc T 6 (cb J H (λH=>?_) (λH=>?_))
 ·refine rc T 10 ?_
  cases H;exact p0 T J [0] J
 refine rc T 11 ?_
 cases H;exact p0 T J [0] J
def Dt.f (s:a_) (ai:aL):Option Bool:=(if s.Cell<0 then(some true) else(if s.Cell≥(List.length ai.C:Int) then(some true) else(if(0<=s.Cell/\s.Cell<(List.length ai.C:Int)) then(if((rd ai.C s.Cell)==255)=true then(some true) else(if s.Key<0 then(some true) else(if s.Key>1073741824 then(some true) else((Du.f ai s.Cell s.cO).bind λv3=>some (!v3))))) else none))).bind λx1=>some x1
theorem Dt.c (H:Dt.f s ai=some r) (Ht:(uz,Obj.cells #[(ii ai.W),(ii ai.H),(ll Jg ai.C KZ)] 139 (0,0))∈F) (Ek:aP (Fl.int .u8) ai.C Jg F) (Rk:List.length ai.C<=KZ):
 QU 222 [(.agg #[(ii s.Cell),(ii s.cO),(ii s.Key)]),(pp uz)] [] F (bb r):=by
 unfold Dt.f at H;refine aD Tryz.func222 J J (λW=>rc T 2 (nc T J (λb1=>ro T 3 (mq H [] [0] (λz2 (x1:Bool)=>(x1=z2,[(3,(bb x1))],[])) J J (λz2 Z1 _=>?_) ?_))))
 ·refine rc T 2 (lf T 1 J (ro T 2 (ad 7 J Z1 (λZ1=>?_) (λZ1=>?_))))
  ·refine ro T 38 (am _ [0] (oi Z1) J J)
  refine ro T 1 (lf T 1 J (ro T 1 (lg T J (nL (j:=0) Ht J J) (ro T 4 (ad 15 J Z1 (λZ1=>?_) (λZ1=>?_))))))
  ·refine ro T 30 (am _ [0] (oi Z1) J J)
  refine ro T 1 (lg T J (nL (j:=0) Ht J J) (ro T 1 (lf T 1 J ?_)));obtain⟨c4,Z1⟩:=az Z1;obtain⟨q2,o2,e2⟩:=Ek.addr c4.1 c4.2;refine ix T J e2 c4 (le T 0 (rO Ek 0) e2 c4 J J (ro T 3 (ab 24 J Z1 (λZ1=>?_) (λZ1=>?_))))
  ·refine ro T 21 (am _ [0] (oi Z1) J J)
  refine ro T 1 (lf T 1 J (ro T 3 (ad 29 J Z1 (λZ1=>?_) (λZ1=>?_))))
  ·refine ro T 16 (am _ [0] (oi Z1) J J)
  refine ro T 1 (lf T 1 J (ro T 3 (ad 34 J Z1 (λZ1=>?_) (λZ1=>?_))))
  ·refine ro T 11 (am _ [0] (oi Z1) J J)
  refine br J (fC T (cs:=[(ii ai.W),(ii ai.H),(ll Jg ai.C KZ)]) J J J J J J (afm (j:=0) Ht J J)) (ro T 1 (lf T 1 J (ro T 1 (lf T 1 J (k [] J adE Z1 (Du.c · (rO Ek 0) Rk) (λv3 Z1=>ro T 5 (am _ [0] (oi Z1) J J)))))))
 rintro _ x1 rfl H;refine rc T 1 ?_
 cases H;exact p0 T J [0] J
def rj.l0:Nat->(List a_)->aL->Int->Option Int
 |0,_,_,_=>none
 |k3+1,s,fD,x2=>if x2<(List.length s:Int) then(if(0<=x2/\x2<(List.length s:Int)) then((Dt.f (rd s x2) fD).bind λv4=>if v4=true then(some x2) else(rj.l0 k3 s fD (aa (x2+1)))) else none) else(some (-1))
def rj.f (s:(List a_)) (fD:aL):Option Int:=rj.l0 fuel s fD 0
theorem rj.c (H:rj.f s fD=some r) (iW:aP cL s iF F) (qM:List.length s<=iL) (CQ:(Cb,Obj.cells #[(ii fD.W),(ii fD.H),(ll B4 fD.C C1)] 139 (0,0))∈F) (Cm:aP (Fl.int .u8) fD.C B4 F) (Cg:List.length fD.C<=C1):
 QU 246 [(ll iF s iL),(.func (.func 222) #[] #[(pp Cb)])] [] F (ii r):=by
 unfold rj.f at H;refine aD Tryz.func246 J J (λW=>rc T 14 (lq [0,1,7] [0] (λ(⟨k3,x2⟩:Nat×Int)=>(rj.l0 k3 s fD x2=some r,[(8,(ii x2))],[])) J J (fuel,0) [0] H J J ?_));rintro k3 x2 Z1;replace Z1:rj.l0 (k3+1) s fD x2=some r:=Z1;rw[rj.l0] at Z1;refine rc T 6 (cd J Z1 (λZ1=>?_) (λZ1=>?_))
 ·refine rc T 15 ?_;obtain⟨c3,Z1⟩:=az Z1;obtain⟨q1,o1,e1⟩:=iW.addr c3.1 c3.2;refine ix T J e1 c3 (br J (fC T (cs:=[(ii (rd s x2).Cell),(ii (rd s x2).cO),(ii (rd s x2).Key)]) J J J J J J (iv (k:=cL) (rO iW 0) e1 c3 J)) (k [] J adD Z1 (Dt.c · (qh CQ (j:=0) J) (rO Cm 0) Cg) (λv4 Z1=>ro T 2 (cb J Z1 (λZ1=>?_) (λZ1=>?_)))))
  ·refine rc T 12 ?_
   cases Z1;exact p0 T J [0] J
  refine rc T 8 (ar _ [0] Z1 J J)
 refine rc T 11 ?_
 cases Z1;exact p0 T J [0] J
def Fg.f (s:(List a_)) (fD:aL):Option Bool:=(rj.f s fD).bind λv1=>some (decide (v1≥0))
theorem Fg.c (H:Fg.f s fD=some r) (iW:aP cL s iF F) (qM:List.length s<=iL) (CQ:(Cb,Obj.cells #[(ii fD.W),(ii fD.H),(ll B4 fD.C C1)] 139 (0,0))∈F) (Cm:aP (Fl.int .u8) fD.C B4 F) (Cg:List.length fD.C<=C1):
 QU 221 [(ll iF s iL),(.func (.func 222) #[] #[(pp Cb)])] [] F (bb r):=by
 unfold Fg.f at H;refine aD Tryz.func221 J J (λW=>rc T 9 (k [] J adV H (rj.c · (rO iW 0) qM (qh CQ (j:=0) J) (rO Cm 0) Cg) (λv1 H=>ro T 5 ?_)))
 cases H;exact p0 T J [0] J
def zQ.f (t:aL) (l:(List a_)):Option Bool:=(uh.f t).bind λv1=>if(!v1)=true then(some false) else((Fg.f l t).bind λv2=>some (!v2))
theorem zQ.c (H:zQ.f t l=some r) (dR:aP (Fl.int .u8) t.C iG F) (fw:List.length t.C<=iM) (dr:aP cL l iE F) (gB:List.length l<=iy):
 QU 183 [(.agg #[(ii t.W),(ii t.H),(ll iG t.C iM)]),(ll iE l iy)] [] F (bb r):=by
 unfold zQ.f at H;refine aD Tryz.func183 J J (λW=>rc T 2 (nc T J (λb1=>ro T 6 (lm T 1 J (k [] J J9 H (uh.c · (rO dR 0) fw) (λv1 H=>ro T 3 (cb J H (λH=>?_) (λH=>?_))))))))
 ·refine rc T 7 ?_
  cases H;exact p0 T J [0] J
 refine rc T 6 (k [] J adC H (Fg.c · (rO dr 0) gB (zu (j:=1) J) (rO dR 0) fw) (λv2 H=>ro T 5 ?_))
 cases H;exact p0 T J [0] J
def pN.f (a:a_) (b:a_):Option Int:=(sT.f a.Key b.Key).bind λv1=>(sT.f a.Cell b.Cell).bind λv2=>(sT.f a.cO b.cO).bind λv3=>(mV.f [v1,v2,v3]).bind λv4=>some v4
theorem pN.c (H:pN.f a b=some r):
 QU 209 [(.agg #[(ii a.Cell),(ii a.cO),(ii a.Key)]),(.agg #[(ii b.Cell),(ii b.cO),(ii b.Key)])] [] F (ii r):=by
 unfold pN.f at H;refine aD Tryz.func209 J J (λW=>rc T 2 (nc T J (λb1=>nc T J (λb2=>ro T 4 (ks [2,3] J (fz J (rg [] [0,0,0] mix (bO bN) (λhg pf=>ha T 17 [0] sz hg pf J (av 1 sz hg pf J (aw T J J J J (aK (j:=1) J J)) (ha T 15 [2] sz hg pf J (av 3 sz hg pf J (aw T J J J J (aK (j:=2) J J)) (ha T 13 [5] sz hg pf J (av 6 sz hg pf J (aw T J J J J (aK (j:=1) J J)) (ha T 11 [7] sz hg pf J (av 8 sz hg pf J (aw T J J J J (aK (j:=2) J J)) (ha T 9 [10] sz hg pf J (av 11 sz hg pf J (aw T J J J J (aK (j:=1) J J)) (ha T 7 [12] sz hg pf J (av 13 sz hg pf J (aw T J J J J (aK (j:=2) J J)) (ao 4 (kh [] J NK H (sT.c ·) (λv1 H=>an sz (ao 9 (kh [] J NK H (sT.c ·) (λv2 H=>an sz (ao 14 (kh [] J NK H (sT.c ·) (λv3 H=>an sz (ao 15 (cY (k:=(Fl.int .i64)) T [v1,v2,v3] J J J J J J J J J (λa3 H3 s3=>an (so [0,0,0]) (ao 16 (kh [] J adP H (mV.c · (oO s3 3) s3.bT) (λv4 H=>an (so [0,0,0]) (ha T 0 [17] (so [0,0,0]) hg pf J (ae (rx T 2 ?_)))))))))))))))))))))))))))))))))))))
 cases H;exact p0 T J [0] J
def Il.f:Option Unit:=some ()
theorem Il.c (H:Il.f=some r):
 QU 255 [nl,(ii 0),(ii 0),(.func (.func 209) #[] #[])] [] F (.tuple #[]):=by
 unfold Il.f at H;refine aD Tryz.func255 J J (λW=>rc T 8 (lu [0,1,2,3,8] [0] J J (rc T 8 (eT J (rc T 4 (jq ?_))))))
 cases H;exact p0 T J [0] J
def Im.f (Vr:Int):Option Unit:=(Il.f).bind λv1=>some ()
theorem Im.c (H:Im.f Vr=some r):
 QU 234 [nl,(ii 0),(ii 0),(ii Vr),(.func (.func 209) #[] #[])] [] F (.tuple #[]):=by
 unfold Im.f at H;refine aD Tryz.func234 J J (λW=>rc T 11 (lu [0,1,2,3,4,10,11] [0] J J (rc T 16 (mu J (rc T 6 (k [] J ad1 H (Il.c ·) (λv1 H=>ro T 7 ?_)))))))
 cases H;exact p0 T J [0] J
def Lq.f:Option Unit:=(Hu.f (eQ 0)).bind λv1=>(Im.f v1).bind λv2=>some ()
theorem Lq.c (H:Lq.f=some r):
 QU 208 [nl,(.func (.func 209) #[] #[])] [] F (.tuple #[]):=by
 unfold Lq.f at H;refine aD Tryz.func208 J J (λW=>rc T 12 (k [] J adO H (Hu.c ·) (λv1 H=>ro T 1 (k [] J adN H (Im.c ·) (λv2 H=>ro T 1 (jq ?_))))))
 cases H;exact p0 T J [0] J
def Bt.f (s:(List a_)):Option (List a_):=if List.length s<4611686018427387904 then some (pQ (λa b=>Option.getD (pN.f a b) 0) s) else none
def Bt.R (ajX:Option Addr) (aj4:Nat) (aj2:Nat) (r:List a_):bg:=λu G=> ∃(H0:Hp),aj cL 285 r ajX aj4 H0/\List.length r=aj2/\u=(.tuple #[])/\G=[H0]
theorem Rz (x y:Int):sT.f x y=some (if x<y then-1 else if x>y then 1 else 0):=by
 simp[sT.f,cmp_isNaN_int.f];split
 ·rfl
 ·split<;>rfl
theorem RA (a b c:Int):mV.f [a,b,c]=some (if a=0 then(if b=0 then c else b) else a):=by
 have e1:aa (0+1)=1:=by decide
 have e2:aa (1+1)=2:=by decide
 have e3:aa (2+1)=3:=by decide
 unfold mV.f;rw[cI,mV.l0]
 by_cases ha:a=0
 ·subst ha;simp only[List.length_cons,List.length_nil,rd,e1];rw[mV.l0]
  by_cases hb:b=0
  ·subst hb;simp only[List.length_cons,List.length_nil,rd,e2];rw[mV.l0]
   by_cases hc:c=0
   ·subst hc;simp only[List.length_cons,List.length_nil,rd,e3];rw[mV.l0];simp
   ·simp[rd,hc]
  ·simp[rd,hb]
 ·simp[rd,ha]
theorem aiU (a b:a_): ∃v,pN.f a b=some v:=by
 unfold pN.f;simp only[Rz,RA,Option.bind_some];exact⟨_,J⟩
theorem aiS (a b:a_):pN.f a b=some (Option.getD (pN.f a b) 0):=by
 obtain⟨v,h⟩:=aiU a b;rw[h];rfl
theorem aiR (a b:a_):Option.getD (pN.f a b) 0=(if(if a.Key<b.Key then(-1:Int) else if a.Key>b.Key then 1 else 0)=0 then(if(if a.Cell<b.Cell then(-1:Int) else if a.Cell>b.Cell then 1 else 0)=0 then(if a.cO<b.cO then(-1:Int) else if a.cO>b.cO then 1 else 0) else(if a.Cell<b.Cell then(-1:Int) else if a.Cell>b.Cell then 1 else 0)) else(if a.Key<b.Key then(-1:Int) else if a.Key>b.Key then 1 else 0)):=by
 unfold pN.f;simp only[Rz,RA,Option.bind_some,Option.getD_some]
theorem PR (a b:a_):Go.Proofs.ltOf (λa b=>Option.getD (pN.f a b) 0) a b=decide (a.Key<b.Key∨a.Key=b.Key/\(a.Cell<b.Cell∨a.Cell=b.Cell/\a.cO<b.cO)):=by
 unfold Go.Proofs.ltOf;simp only[aiR]
 congr 1
 apply propext;constructor
 ·intro h
  by_cases k1:a.Key<b.Key
  ·exact .inl k1
  ·by_cases k2:a.Key>b.Key
   ·simp[k1,k2] at h
   ·by_cases c1:a.Cell<b.Cell
    ·exact .inr ⟨by omega,.inl c1⟩
    ·by_cases c2:a.Cell>b.Cell
     ·simp[k1,k2,c1,c2] at h
     ·by_cases s1:a.cO<b.cO
      ·exact .inr ⟨by omega,.inr ⟨by omega,s1⟩⟩
      ·by_cases s2:a.cO>b.cO
       ·simp[k1,k2,c1,c2,s1,s2] at h
       ·simp[k1,k2,c1,c2,s1,s2] at h
 ·intro h
  by_cases k1:a.Key<b.Key
  ·simp[k1]
  ·by_cases k2:a.Key>b.Key
   ·exfalso;omega
   ·by_cases c1:a.Cell<b.Cell
    ·simp[k1,k2,c1]
    ·by_cases c2:a.Cell>b.Cell
     ·exfalso;omega
     ·have s1:a.cO<b.cO:=U;simp[k1,k2,c1,c2,s1]
theorem aiT:Go.Sort.SWO (Go.Proofs.ltOf (λa b=>Option.getD (pN.f a b) 0)) where
 irrefl x:=by rw[PR];simp
 trans x y z h1 h2:=by rw[PR] at*;simp only[decide_eq_true_eq] at*;omega
 ntrans x y z h1 h2:=by rw[PR] at*;simp only[decide_eq_false_iff_not] at*;omega
theorem aja: ∀w,(isAgg 285).run Tryz.prog w= .ok true w:=λw=>by kernel_rfl
theorem ajd: ∀w,(Go.sizeOf 285).run Tryz.prog w= .ok 3 w:=λw=>by kernel_rfl
theorem Bt.c {iF:Option Addr} {iL:Nat} {dQ:Hp} {s r:List a_} {F:Hp} (H:Bt.f s=some r) (cX:aj cL 285 s iF iL dQ):
 QR 208 [(ll iF s iL),(.func (.func 209) #[] #[])] [dQ] [] F (Bt.R iF iL (List.length s) r):=by
 obtain⟨hl,H⟩:=az H;obtain rfl:=Option.some.inj H;exact aje Go.Proofs.Tryz.ajb cL aja ajd (λa b=>Option.getD (pN.f a b) 0) aiT 209 (Go.Proofs.enters_of Tryz.func209 ay J) (λx y F=>pN.c (F:=F) (aiS x y)) 285 (λF=>Lq.c (r:=()) (F:=F) ay) s F hl cX
def ni.f (l:(List a_)):Option (List a_):=(sm.f l).bind λv1=>(Bt.f v1).bind λv2=>(jQ.f v2).bind λv3=>some v3
def ni.R (r:(List a_)):bg:=λu G=> ∃a0 n0 H0,aj cL 285 r a0 n0 H0/\u=(ll a0 r n0)/\G=[H0]
theorem ni.c (H:ni.f l=some r) (dr:aP cL l iE F) (gB:List.length l<=iy):
 QR 180 [(ll iE l iy)] [] [] F (ni.R r):=by
 unfold ni.f at H;refine aD Tryz.func180 J J (λW=>rc T 8 (kr sm.R [] [] J Tw H (sm.c · (rO dr 0) gB) (λv1 H=>?_)));rintro _ _ ⟨a1,n1,H1,s1,rfl,rfl⟩;refine fz J (ro T 6 (kr (Bt.R a1 n1 (List.length v1)) [] [1] J adv H (Bt.c · s1) (λv2 H=>?_)));rintro _ _ ⟨H2,s2,l2,rfl,rfl⟩;refine fz J (kf [] [0,0] [(0,(ll a1 v2 n1))] J J ⟨(by first |rfl |(simp only[ll,l2];rfl)),trivial⟩ (ro T 5 ?_))
 refine kr jQ.R [] [1] J adw H (jQ.c · s2) (λv3 H=>?_);rintro _ _ ⟨a3,n3,H3,s3,rfl,rfl⟩;refine fz J (ro T 2 (ks [2] J (rx T 2 ?_)))
 cases H;exact p1 T J [1,0] ⟨a3,n3,H3,s3,J,J⟩ J
def Br.f (a:(List a_)) (b:(List a_)):Option Bool:=(ri.f a b).bind λv1=>some v1
theorem Br.c (H:Br.f a b=some r) (pq:aP cL a sK F) (Cf:List.length a<=tv) (fh:aP cL b gY F) (fJ:List.length b<=gP):
 QU 185 [(ll sK a tv),(ll gY b gP)] [] F (bb r):=by
 unfold Br.f at H;refine aD Tryz.func185 J J (λW=>rc T 9 (k [] J adG H (ri.c · (rO pq 0) Cf (rO fh 0) fJ) (λv1 H=>ro T 4 ?_)))
 cases H;exact p0 T J [0] J
def kN.l0:Nat->(List a_)->Int->Int->Int->Bool->Int->Option Int
 |0,_,_,_,_,_,_=>none
 |k7+1,l,cell,side,x4,x5,x6=>if x6<(List.length l:Int) then(if(0<=x6/\x6<(List.length l:Int)) then((if((rd l x6).Cell==cell)=true then(if((rd l x6).cO==side)=true then(if(!x5)=true then(some true) else(some (decide ((rd l x6).Key<x4)))) else(some false)) else(some false)).bind λx8=>if x8=true then(kN.l0 k7 l cell side ((rd l x6).Key) true (aa (x6+1))) else(kN.l0 k7 l cell side x4 x5 (aa (x6+1)))) else none) else(some x4)
def kN.f (l:(List a_)) (cell:Int) (side:Int):Option Int:=kN.l0 fuel l cell side 1099511627776 false 0
theorem kN.c (H:kN.f l cell side=some r) (dr:aP cL l iE F) (gB:List.length l<=iy):
 QU 250 [(ll iE l iy),(ii cell),(ii side)] [] F (ii r):=by
 unfold kN.f at H;refine aD Tryz.func250 J J (λW=>rc T 20 (lq [1,2,11,12] [0] (λ(⟨k7,x4,x5,x6⟩:Nat×Int×Bool×Int)=>(kN.l0 k7 l cell side x4 x5 x6=some r,[(7,(ii x4)),(8,(bb x5)),(13,(ii x6))],[])) J J (fuel,1099511627776,false,0) [0] H J J ?_));rintro k7 ⟨x4,x5,x6⟩ Z1;replace Z1:kN.l0 (k7+1) l cell side x4 x5 x6=some r:=Z1;rw[kN.l0] at Z1;refine rc T 6 (cd J Z1 (λZ1=>?_) (λZ1=>?_))
 ·refine rc T 6 ?_;obtain⟨c3,Z1⟩:=az Z1;obtain⟨q1,o1,e1⟩:=dr.addr c3.1 c3.2;refine ix T J e1 c3 (br J (fC T (cs:=[(ii (rd l x6).Cell),(ii (rd l x6).cO),(ii (rd l x6).Key)]) J J J J J J (iv (k:=cL) (rO dr 0) e1 c3 J)) (nc T J (λb2=>sg T 1 J (ro T 2 (mq Z1 [1,2,7,8,10,11,12,13] [0,0] (λz9 (x8:Bool)=>(x8=z9,[(36,(bb x8))],[])) J J (λz9 Z4 _=>?_) ?_)))))
  ·refine rc T 2 (lf T 1 J (ro T 3 (ab 21 J Z4 (λZ4=>?_) (λZ4=>?_))))
   ·refine ro T 1 (lf T 1 J (ro T 4 (ab 27 J Z4 (λZ4=>?_) (λZ4=>?_))))
    ·refine ro T 3 (ab 30 J Z4 (λZ4=>?_) (λZ4=>?_))
     ·refine ro T 8 (am _ [0,0] (oi Z4) J J)
     refine ro T 1 (lf T 1 J (ro T 6 (am _ [0,0] (oi Z4) J J)))
    refine ro T 11 (am _ [0,0] (oi Z4) J J)
   refine ro T 17 (am _ [0,0] (oi Z4) J J)
  rintro _ x8 rfl Z1;refine cb J Z1 (λZ1=>?_) (λZ1=>?_)
  ·refine rc T 2 (lf T 1 J (ro T 10 (ar (_,_,_) [0] Z1 J J)))
  refine rc T 8 (ar (_,_,_) [0] Z1 J J)
 refine rc T 12 ?_
 cases Z1;exact p0 T J [0] J
end
noncomputable section
def j5.l0:Nat->dp->eO->List a_->Option dp
 |0,_,_,_=>none
 |zn+1,s,x9,aN=>(if(List.length aN:Int)>0 then(if(0<=(0:Int)/\(0:Int)<(List.length aN:Int)) then((tK.f x9 ((rd aN 0).Key) ((rd aN 0).Cell)).bind λdD=>some (dD.2,dD.1)) else none) else(some (x9,false))).bind λ(bx,aU)=>if aU=true then(if(0<=(1:Int)/\(1:Int)<=(List.length aN:Int)/\(List.length aN:Int)<=(List.length aN:Int)) then(j5.l0 zn s bx (aA aN 1 (List.length aN:Int))) else none) else(some (dp.mk s.t bx aN s.aQ))
def j5.f (s:dp):Option dp:=((if(List.length s.todo:Int)>0 then((wy.f s.wait).bind λv5=>some (v5==0)) else(some false)).bind λx3=>if x3=true then(if(0<=(0:Int)/\(0:Int)<(List.length s.todo:Int)) then((xV.f s.wait ((rd s.todo 0).Key)).bind λv6=>some v6.2) else none) else(some s.wait)).bind λx1=>j5.l0 fuel s x1 s.todo
def j5.R (bh:Nat) (y0:Value) (Ce:List a_) (Cc:Option Addr) (Cd:Nat) (r:dp):bg:=λu G=> ∃(b0:Nat) (H0:Hp) (a1:Option Addr) (n1:Nat) (a2 n2 H2:_),ky r.wait b0 H0/\dA cL Ce Cc Cd r.todo a1 n1/\List.length r.todo<=n1/\aj (Fl.int .i64) 3 r.aQ a2 n2 H2/\u=(.tuple #[])/\G=[(cl bh 369 [(ii r.t.W),(ii r.t.H),y0,(pp b0),(ll a1 r.todo n1),(ll a2 r.aQ n2)]),H0,H2]
theorem j5.c (H:j5.f s=some r) (qe:aP (Fl.int .u8) s.t.C kA F) (uB:List.length s.t.C<=kL) (wG:ky s.wait ph Aj) (pt:aP cL s.todo mS F) (jJ:List.length s.todo<=ng) (tV:aj (Fl.int .i64) 3 s.aQ vr wg wZ):
 QR 273 [(pp bh)] [(cl bh 369 [(ii s.t.W),(ii s.t.H),(ll kA s.t.C kL),(pp ph),(ll mS s.todo ng),(ll vr s.aQ wg)]),Aj,wZ] [] F (j5.R bh (ll kA s.t.C kL) s.todo mS ng r):=by
 unfold j5.f at H;refine aD Tryz.func273 J J (λW=>mq H [0] [3,0,1] (λz2 (⟨x1,H4⟩:eO×Hp)=>(x1=z2/\ky x1 ph H4,[],[H4])) J J (λz2 Z1 _=>?_) ?_)
 ·refine mq Z1 [0] [3,0,0,0] (λz4 (x3:Bool)=>(x3=z4,[(15,(bb x3))],[])) J J (λz4 Z2 _=>?_) ?_
  ·refine rc T 4 (lf T 0 J (ro T 3 (ad 8 J Z2 (λZ2=>?_) (λZ2=>?_))))
   ·refine ro T 3 (lf T 0 J (k [1] J NO Z2 (wy.c · wG) (λv5 Z2=>ro T 4 (am _ [3,0,0,0] (oi Z2) J J))))
   refine ro T 9 (am _ [3,0,0,0] (oi Z2) J J)
  rintro _ x3 rfl Z1;refine cb J Z1 (λZ1=>?_) (λZ1=>?_)
  ·refine fz J (rz [11] mix (bO bN) (λhg pf=>ha T 9 [0,1,2] sz hg pf J (av 3 sz hg pf J (aw T J J J J (aK (j:=1) J J)) (ha T 5 [4,5,6] sz hg pf J (av 7 sz hg pf J (aw T J J J J (aK (j:=1) J J)) ?_)))));obtain⟨c6,Z1⟩:=az Z1;obtain⟨q5,o5,e5⟩:=pt.addr c6.1 c6.2;refine av 8 sz hg pf J (cC T J J J J J e5 c6.1 c6.2) (ha T 2 [9] sz hg pf J (av 10 sz hg pf J (aw T J J J J (g_ (k:=cL) (rO pt 0) e5 c6 2 J)) (ao 11 (kR (xV.R ph) [] [2] J aee Z1 (xV.c · wG) (λv6 Z1=>?_)))));rintro _ _ ⟨H6,s6,rfl,rfl⟩;refine fz J (an sl (ae (rx T 1 (am (_,_) [0,0,0,0] ⟨oi Z1,s6⟩ J J))))
  refine rc T 2 (am (_,_) [0,0,1,0] ⟨oi Z1,wG⟩ J J)
 rintro _ ⟨x1,H4⟩ ⟨rfl,s4⟩ H;refine rc T 1 (lq [0] [0,1] (λ(⟨zn,x9,aN,H9,cB,n10⟩:Nat×eO×List a_×Hp×Option Addr×Nat)=>(j5.l0 zn s x9 aN=some r/\ky x9 ph H9/\dA cL s.todo mS ng aN cB n10/\List.length aN<=n10,[],[(cl bh 369 [(ii s.t.W),(ii s.t.H),(ll kA s.t.C kL),(pp ph),(ll cB aN n10),(ll vr s.aQ wg)]),H9])) J J (fuel,x1,s.todo,H4,mS,ng) [0,1,0,0] ⟨H,s4,dA.self,jJ⟩ J J ?_);rintro zn ⟨x9,aN,H9,cB,n10⟩ ⟨Z8,s9,B9,F3⟩;rw[j5.l0] at Z8;refine rc T 1 (mq Z8 [0] [0,1,0] (λIU (⟨bx,aU,cz⟩:eO×Bool×Hp)=>((bx,aU)=IU/\ky bx ph cz,[(54,(bb aU))],[cz])) J J (λIU Z9 _=>?_) ?_)
 ·refine fz J (rz [25] mix (bO bN) (λhg pf=>ha T 24 [0,1,2] sz hg pf J (av 3 sz hg pf J (aw T J J J J (aK (j:=2) J J)) (ha T 20 [4,5,6] sz hg pf J (ad 34 J Z9 (λZ9=>?_) (λZ9=>?_))))))
  ·refine ha T 17 [7,8,9] sz hg pf J (av 10 sz hg pf J (aw T J J J J (aK (j:=2) J J)) (ha T 13 [11,12,13] sz hg pf J (av 14 sz hg pf J (aw T J J J J (aK (j:=2) J J)) ?_)));obtain⟨eJ,Z9⟩:=az Z9;obtain⟨wo,Pd,sV⟩:=(dA.r B9 pt jJ).addr eJ.1 eJ.2;refine av 15 sz hg pf J (cC T J J J J J sV eJ.1 eJ.2) (ha T 10 [16] sz hg pf J (av 17 sz hg pf J (aw T J J J J (g_ (k:=cL) (oz B9 (rO pt 0) jJ) sV eJ 2 J)) (ha T 6 [18,19,20] sz hg pf J (av 21 sz hg pf J (aw T J J J J (aK (j:=2) J J)) (av 22 sz hg pf J (cC T J J J J J sV eJ.1 eJ.2) (ha T 3 [23] sz hg pf J (av 24 sz hg pf J (aw T J J J J (g_ (k:=cL) (oz B9 (rO pt 0) jJ) sV eJ 0 J)) (ao 25 (kR (tK.R ph) [] [3] J TT Z9 (tK.c · s9) (λdD Z9=>?_))))))))));rintro _ _ ⟨dV,dm,rfl,rfl⟩;refine fz J (an sl (hb T 26 sl hg pf J (ae (rx T 1 (am (_,_,_) [0,1,0,0] ⟨oi Z9,dm⟩ J J)))))
  refine ha T 2 [7,8,9,10,11,12,13,14,15,16,17,18,19,20,21,22,23,24] sz hg pf J (ao 25 (aab J (an sl (hb T 26 sl hg pf J (ae (rx T 1 (am (_,_,_) [0,1,0,0] ⟨oi Z9,s9⟩ J J)))))))
 rintro _ ⟨bx,aU,cz⟩ ⟨rfl,c_⟩ Z8;refine cb J Z8 (λZ8=>?_) (λZ8=>?_)
 ·refine rc T 8 (lf T 1 J ?_);obtain⟨pj,Z8⟩:=az Z8;refine br J (kE T J J J J J J pj F3) (ro T 2 (sg T 1 J (ro T 3 (ar (_,_,_,_,_) [0,1,0,0] ⟨Z8,c_,(dA.sub B9 jJ pj),(mO pj F3)⟩ J J))))
 refine rc T 4 (jq ?_)
 cases Z8;exact p1 T J [1,2,1,0] ⟨ph,cz,cB,n10,vr,wg,wZ,c_,B9,F3,tV,J,J⟩ J
def kP.f (s:dp) (ai:Int) (key:Int):Option dp:=(if(0<=ai/\ai<(List.length s.t.C:Int)) then(if((rd s.t.C ai)!=255)=true then(if(0<=ai/\ai<(List.length s.aQ:Int)) then(some ((rd s.aQ ai)==1099511627776)) else none) else(some false)) else none).bind λx1=>if x1=true then((tK.f s.wait key ai).bind λv3=>some (dp.mk s.t v3.2 s.todo s.aQ)) else(some s)
def kP.R (bh:Nat) (y0:Value) (Ce:List a_) (Cc:Option Addr) (Cd:Nat) (r:dp):bg:=λu G=> ∃(b0:Nat) (H0:Hp) (a1:Option Addr) (n1:Nat) (a2 n2 H2:_),ky r.wait b0 H0/\dA cL Ce Cc Cd r.todo a1 n1/\List.length r.todo<=n1/\aj (Fl.int .i64) 3 r.aQ a2 n2 H2/\u=(.tuple #[])/\G=[(cl bh 369 [(ii r.t.W),(ii r.t.H),y0,(pp b0),(ll a1 r.todo n1),(ll a2 r.aQ n2)]),H0,H2]
theorem kP.c (H:kP.f s ai key=some r) (qe:aP (Fl.int .u8) s.t.C kA F) (uB:List.length s.t.C<=kL) (wG:ky s.wait ph Aj) (pt:aP cL s.todo mS F) (jJ:List.length s.todo<=ng) (tV:aj (Fl.int .i64) 3 s.aQ vr wg wZ):
 QR 294 [(pp bh),(ii ai),(ii key)] [(cl bh 369 [(ii s.t.W),(ii s.t.H),(ll kA s.t.C kL),(pp ph),(ll mS s.todo ng),(ll vr s.aQ wg)]),Aj,wZ] [] F (kP.R bh (ll kA s.t.C kL) s.todo mS ng r):=by
 unfold kP.f at H;refine aD Tryz.func294 J J (λW=>mq H [0,1,2] [3,0,0,0] (λz2 (x1:Bool)=>(x1=z2,[(24,(bb x1))],[])) J J (λz2 Z1 _=>?_) ?_)
 ·refine rc T 5 (lf T 0 J (ro T 1 ?_));obtain⟨c2,Z1⟩:=az Z1;obtain⟨q4,o4,e4⟩:=qe.addr c2.1 c2.2;refine ix T J e4 c2 (le T 0 (rO qe 3) e4 c2 J J (ro T 2 (ab 15 J Z1 (λZ1=>?_) (λZ1=>?_))))
  ·refine ro T 3 (lf T 0 J (ro T 1 ?_));obtain⟨c4,Z1⟩:=az Z1;obtain⟨q5,o5,e5⟩:=tV.r.addr c4.1 c4.2;refine ix T J e5 c4 (le T 0 (oO tV 2) e5 c4 J J (ro T 4 (am _ [3,0,0,0] (oi Z1) J J)))
  refine ro T 11 (am _ [3,0,0,0] (oi Z1) J J)
 rintro _ x1 rfl H;refine cb J H (λH=>?_) (λH=>?_)
 ·refine rc T 4 (lf T 1 J (ro T 2 (kr (tK.R ph) [] [2] J TT H (tK.c · wG) (λv3 H=>?_))));rintro _ _ ⟨H6,s6,rfl,rfl⟩;refine fz J (ro T 1 (jq ?_))
  cases H;exact p1 T J [1,2,1,0] ⟨ph,H6,mS,ng,vr,wg,wZ,s6,dA.self,jJ,tV,J,J⟩ J
 refine rc T 1 (jq ?_)
 cases H;exact p1 T J [1,1,1,0] ⟨ph,Aj,mS,ng,vr,wg,wZ,wG,dA.self,jJ,tV,J,J⟩ J
def yb.f (s:dp) (ai:Int):Option dp:=if(0<=ai/\ai<(List.length s.aQ:Int)) then(if(0<=ai/\ai<(List.length s.t.C:Int)) then(if(¬s.t.W=0) then(if(¬s.t.W=0) then((if(aa (Int.tdiv ai s.t.W))>0 then((kP.f s (aa (ai-s.t.W)) (aa ((rd s.aQ ai)+(aa (rd s.t.C ai))))).bind λv7=>some (v7.t.W,v7.t.H,v7.wait,v7.todo,v7.aQ)) else(some (s.t.W,s.t.H,s.wait,s.todo,s.aQ))).bind λ(x1,x2,x3,x4,x5)=>(if(Int.tmod ai s.t.W)<(aa (x1-1)) then((kP.f (dp.mk (aL.mk x1 x2 s.t.C) x3 x4 x5) (aa (ai+1)) (aa ((rd s.aQ ai)+(aa (rd s.t.C ai))))).bind λek=>some (ek.t.W,ek.t.H,ek.wait,ek.todo,ek.aQ)) else(some (x1,x2,x3,x4,x5))).bind λ(x8,x9,aN,bj,bx)=>if(aa (Int.tdiv ai s.t.W))<(aa (x9-1)) then((kP.f (dp.mk (aL.mk x8 x9 s.t.C) aN bj bx) (aa (ai+x8)) (aa ((rd s.aQ ai)+(aa (rd s.t.C ai))))).bind λdD=>if(Int.tmod ai s.t.W)>0 then((kP.f (dp.mk (aL.mk dD.t.W dD.t.H s.t.C) dD.wait dD.todo dD.aQ) (aa (ai-1)) (aa ((rd s.aQ ai)+(aa (rd s.t.C ai))))).bind λeG=>some (dp.mk (aL.mk eG.t.W eG.t.H s.t.C) eG.wait eG.todo eG.aQ)) else(some (dp.mk (aL.mk dD.t.W dD.t.H s.t.C) dD.wait dD.todo dD.aQ))) else(if(Int.tmod ai s.t.W)>0 then((kP.f (dp.mk (aL.mk x8 x9 s.t.C) aN bj bx) (aa (ai-1)) (aa ((rd s.aQ ai)+(aa (rd s.t.C ai))))).bind λv17=>some (dp.mk (aL.mk v17.t.W v17.t.H s.t.C) v17.wait v17.todo v17.aQ)) else(some (dp.mk (aL.mk x8 x9 s.t.C) aN bj bx)))) else none) else none) else none) else none
def yb.R (bh:Nat) (y0:Value) (Ce:List a_) (Cc:Option Addr) (Cd:Nat) (r:dp):bg:=λu G=> ∃(b0:Nat) (H0:Hp) (a1:Option Addr) (n1:Nat) (a2 n2 H2:_),ky r.wait b0 H0/\dA cL Ce Cc Cd r.todo a1 n1/\List.length r.todo<=n1/\aj (Fl.int .i64) 3 r.aQ a2 n2 H2/\u=(.tuple #[])/\G=[(cl bh 369 [(ii r.t.W),(ii r.t.H),y0,(pp b0),(ll a1 r.todo n1),(ll a2 r.aQ n2)]),H0,H2]
theorem yb.c (H:yb.f s ai=some r) (qe:aP (Fl.int .u8) s.t.C kA F) (uB:List.length s.t.C<=kL) (wG:ky s.wait ph Aj) (pt:aP cL s.todo mS F) (jJ:List.length s.todo<=ng) (tV:aj (Fl.int .i64) 3 s.aQ vr wg wZ):
 QR 276 [(pp bh),(ii ai)] [(cl bh 369 [(ii s.t.W),(ii s.t.H),(ll kA s.t.C kL),(pp ph),(ll mS s.todo ng),(ll vr s.aQ wg)]),Aj,wZ] [] F (yb.R bh (ll kA s.t.C kL) s.todo mS ng r):=by
 unfold yb.f at H;refine aD Tryz.func276 J J (λW=>rc T 1 (dx mix ay (au T J (au T J (au T J (aO J J J (aw T J J J J (aK (j:=0) J J)) (au T J ?_)))))));obtain⟨c1,H⟩:=az H;obtain⟨q4,o4,e4⟩:=tV.r.addr c1.1 c1.2;refine aO J J J (cC T J J J J J e4 c1.1 c1.2) (aO J J J (aw T J J J J (g_ (k:=(Fl.int .i64)) (oO tV 2) e4 c1 0 J)) ?_)
 iterate 4 refine au T J ?_
 refine aO J J J (aw T J J J J (aK (j:=0) J J)) (au T J ?_);obtain⟨c2,H⟩:=az H;obtain⟨q5,o5,e5⟩:=qe.addr c2.1 c2.2;refine aO J J J (cC T J J J J J e5 c2.1 c2.2) (aO J J J (aw T J J J J (g_ (k:=(Fl.int .u8)) (rO qe 3) e5 c2 0 J)) (au T J (au T J (au T J (dh (rx T 2 (dx mix ay ?_)))))))
 iterate 5 refine au T J ?_
 refine aO J J J (aw T J J J J (aK (j:=0) J J)) ?_;obtain⟨c3,H⟩:=az H;refine aO J J J (vK J J J c3) ?_
 iterate 5 refine au T J ?_
 refine aO J J J (aw T J J J J (aK (j:=0) J J)) ?_;obtain⟨c4,H⟩:=az H;refine aO J J J (vJ J J J c4) (au T J (au T J (dh (rx T 1 (mq H [0,1,4,5,6] [3] (λz6 (⟨x1,x2,x3,x4,x5,b6,H6,a7,n7,a8,n8,H8⟩:Int×Int×eO×List a_×List Int×Nat×Hp×Option Addr×Nat×Option Addr×Nat×Hp)=>((x1,x2,x3,x4,x5)=z6/\ky x3 b6 H6/\dA cL s.todo mS ng x4 a7 n7/\List.length x4<=n7/\aj (Fl.int .i64) 3 x5 a8 n8 H8,[],[(cl bh 369 [(ii x1),(ii x2),(ll kA s.t.C kL),(pp b6),(ll a7 x4 n7),(ll a8 x5 n8)]),H6,H8])) J J (λz6 Z5 _=>?_) ?_)))))
 ·refine rc T 6 (cd J Z5 (λZ5=>?_) (λZ5=>?_))
  ·refine rc T 7 (lf T 0 J (ro T 2 (kr (kP.R bh (ll kA s.t.C kL) s.todo mS ng) [] [0,0,0] J Gx Z5 (kP.c · (rO qe 0) uB wG (rO pt 0) jJ tV) (λv7 Z5=>?_))));rintro _ _ ⟨b9,H9,cB,n10,dj,n11,cz,s9,B9,F3,c_,rfl,rfl⟩;refine fz J (ro T 2 (am (_,_,_,_,_,_,_,_,_,_,_,_) [0,0,0,0] ⟨oi Z5,s9,B9,F3,c_⟩ J J))
  refine rc T 2 (am (_,_,_,_,_,_,_,_,_,_,_,_) [3,0,0,0] ⟨oi Z5,wG,dA.self,jJ,tV⟩ J J)
 rintro _ ⟨x1,x2,x3,x4,x5,b6,H6,a7,n7,a8,n8,H8⟩ ⟨rfl,s6,Mv,Rj,s8⟩ H;refine mq H [0,1,4,5,6] [0] (λIQ (⟨x8,x9,aN,bj,bx,kY,dq,dK,n13,je,n14,fX⟩:Int×Int×eO×List a_×List Int×Nat×Hp×Option Addr×Nat×Option Addr×Nat×Hp)=>((x8,x9,aN,bj,bx)=IQ/\ky aN kY dq/\dA cL s.todo mS ng bj dK n13/\List.length bj<=n13/\aj (Fl.int .i64) 3 bx je n14 fX,[],[(cl bh 369 [(ii x8),(ii x9),(ll kA s.t.C kL),(pp kY),(ll dK bj n13),(ll je bx n14)]),dq,fX])) J J (λIQ Z8 _=>?_) ?_
 ·refine rc T 7 (lf T 1 J (ro T 4 (cd J Z8 (λZ8=>?_) (λZ8=>?_))))
  ·refine rc T 5 (kr (kP.R bh (ll kA s.t.C kL) x4 a7 n7) [] [1,1,1] J Gx Z8 (kP.c (s:=(dp.mk (aL.mk x1 x2 s.t.C) x3 x4 x5)) · (rO qe 0) uB s6 (oz Mv (rO pt 0) jJ) Rj s8) (λek Z8=>?_));rintro _ _ ⟨oy,dI,jT,n16,a17,n17,eH,dP,aap,aaE,fq,rfl,rfl⟩;refine fz J (ro T 2 (am (_,_,_,_,_,_,_,_,_,_,_,_) [0,0,0,0] ⟨oi Z8,dP,(dA.trans Mv jJ aap),aaE,fq⟩ J J))
  refine rc T 2 (am (_,_,_,_,_,_,_,_,_,_,_,_) [0,0,0,0] ⟨oi Z8,s6,Mv,Rj,s8⟩ J J)
 rintro _ ⟨x8,x9,aN,bj,bx,kY,dq,dK,n13,je,n14,fX⟩ ⟨rfl,dz,B_,Ju,gF⟩ H;refine rc T 8 (lf T 1 J (ro T 4 (cd J H (λH=>?_) (λH=>?_))))
 ·refine rc T 7 (lf T 1 J (ro T 2 (kr (kP.R bh (ll kA s.t.C kL) bj dK n13) [] [1,1,1] J Gx H (kP.c (s:=(dp.mk (aL.mk x8 x9 s.t.C) aN bj bx)) · (rO qe 0) uB dz (oz B_ (rO pt 0) jJ) Ju gF) (λdD H=>?_))));rintro _ _ ⟨qJ,ft,kW,n19,a20,n20,oq,fF,Mt,Rg,me,rfl,rfl⟩;refine fz J (ro T 8 (cd J H (λH=>?_) (λH=>?_)))
  ·refine rc T 5 (kr (kP.R bh (ll kA s.t.C kL) dD.todo kW n19) [] [1,1,1] J Gx H (kP.c (s:=(dp.mk (aL.mk dD.t.W dD.t.H s.t.C) dD.wait dD.todo dD.aQ)) · (rO qe 0) uB fF (oz Mt (oz B_ (rO pt 0) jJ) Ju) Rg me) (λeG H=>?_));rintro _ _ ⟨Ca,kq,a22,n22,a23,n23,jE,jC,aar,aaH,gG,rfl,rfl⟩;refine fz J (ro T 1 (jq ?_))
   cases H;exact p1 T J [1,1,1,0] ⟨Ca,kq,a22,n22,a23,n23,jE,jC,(dA.trans (dA.trans B_ jJ Mt) jJ aar),aaH,gG,J,J⟩ J
  refine rc T 1 (jq ?_)
  cases H;exact p1 T J [1,1,1,0] ⟨qJ,ft,kW,n19,a20,n20,oq,fF,(dA.trans B_ jJ Mt),Rg,me,J,J⟩ J
 refine rc T 8 (cd J H (λH=>?_) (λH=>?_))
 ·refine rc T 5 (kr (kP.R bh (ll kA s.t.C kL) bj dK n13) [] [1,1,1] J Gx H (kP.c (s:=(dp.mk (aL.mk x8 x9 s.t.C) aN bj bx)) · (rO qe 0) uB dz (oz B_ (rO pt 0) jJ) Ju gF) (λv17 H=>?_));rintro _ _ ⟨FZ,rG,a25,n25,a26,n26,ot,mf,aas,aaI,mL,rfl,rfl⟩;refine fz J (ro T 1 (jq ?_))
  cases H;exact p1 T J [1,1,1,0] ⟨FZ,rG,a25,n25,a26,n26,ot,mf,(dA.trans B_ jJ aas),aaI,mL,J,J⟩ J
 refine rc T 1 (jq ?_)
 cases H;exact p1 T J [1,1,1,0] ⟨kY,dq,dK,n13,je,n14,fX,dz,B_,Ju,gF,J,J⟩ J
def oc.l0:Nat->dp->Int->Int->eO->List a_->List Int->Option dp
 |0,_,_,_,_,_,_=>none
 |G7+1,s,x7,x8,x9,aN,bj=>(wy.f x9).bind λlG=>if lG>0 then((oQ.f x9).bind λek=>if(0<=ek.2.1/\ek.2.1<(List.length bj:Int)) then(if((rd bj ek.2.1)==1099511627776)=true then((yb.f (dp.mk (aL.mk x7 x8 s.t.C) ek.2.2.2 aN (List.set bj (Int.toNat ek.2.1) ek.1)) ek.2.1).bind λdD=>(j5.f (dp.mk (aL.mk dD.t.W dD.t.H s.t.C) dD.wait dD.todo dD.aQ)).bind λeG=>oc.l0 G7 s eG.t.W eG.t.H eG.wait eG.todo eG.aQ) else((j5.f (dp.mk (aL.mk x7 x8 s.t.C) ek.2.2.2 aN bj)).bind λv17=>oc.l0 G7 s v17.t.W v17.t.H v17.wait v17.todo v17.aQ)) else none) else(some (dp.mk (aL.mk x7 x8 s.t.C) x9 aN bj))
def oc.f (s:dp):Option dp:=(j5.f s).bind λv1=>oc.l0 fuel s v1.t.W v1.t.H v1.wait v1.todo v1.aQ
def oc.R (bh:Nat) (y0:Value) (Ce:List a_) (Cc:Option Addr) (Cd:Nat) (r:dp):bg:=λu G=> ∃(b0:Nat) (H0:Hp) (a1:Option Addr) (n1:Nat) (a2 n2 H2:_),ky r.wait b0 H0/\dA cL Ce Cc Cd r.todo a1 n1/\List.length r.todo<=n1/\aj (Fl.int .i64) 3 r.aQ a2 n2 H2/\u=(.tuple #[])/\G=[(cl bh 369 [(ii r.t.W),(ii r.t.H),y0,(pp b0),(ll a1 r.todo n1),(ll a2 r.aQ n2)]),H0,H2]
theorem oc.c (H:oc.f s=some r) (qe:aP (Fl.int .u8) s.t.C kA F) (uB:List.length s.t.C<=kL) (wG:ky s.wait ph Aj) (pt:aP cL s.todo mS F) (jJ:List.length s.todo<=ng) (tV:aj (Fl.int .i64) 3 s.aQ vr wg wZ):
 QR 249 [(pp bh)] [(cl bh 369 [(ii s.t.W),(ii s.t.H),(ll kA s.t.C kL),(pp ph),(ll mS s.todo ng),(ll vr s.aQ wg)]),Aj,wZ] [] F (oc.R bh (ll kA s.t.C kL) s.todo mS ng r):=by
 unfold oc.f at H;refine aD Tryz.func249 J J (λW=>rc T 3 (kr (j5.R bh (ll kA s.t.C kL) s.todo mS ng) [] [0,0,0] J NN H (j5.c · (rO qe 0) uB wG (rO pt 0) jJ tV) (λv1 H=>?_)));rintro _ _ ⟨b4,H4,a5,n5,a6,n6,H6,s4,F1,Ri,s6,rfl,rfl⟩;refine fz J (ro T 3 (lq [0] [0] (λ(⟨G7,x7,x8,x9,aN,bj,gd,b_,dj,n11,a12,n12,dq⟩:Nat×Int×Int×eO×List a_×List Int×Nat×Hp×Option Addr×Nat×Option Addr×Nat×Hp)=>(oc.l0 G7 s x7 x8 x9 aN bj=some r/\ky x9 gd b_/\dA cL s.todo mS ng aN dj n11/\List.length aN<=n11/\aj (Fl.int .i64) 3 bj a12 n12 dq,[],[(cl bh 369 [(ii x7),(ii x8),(ll kA s.t.C kL),(pp gd),(ll dj aN n11),(ll a12 bj n12)]),b_,dq])) J J (fuel,v1.t.W,v1.t.H,v1.wait,v1.todo,v1.aQ,b4,H4,a5,n5,a6,n6,H6) [0,0,0,0] ⟨H,s4,F1,Ri,s6⟩ J J ?_));rintro G7 ⟨x7,x8,x9,aN,bj,gd,b_,dj,n11,a12,n12,dq⟩ ⟨Z2,bP,yH,Au,dz⟩;rw[oc.l0] at Z2;refine rc T 6 (lf T 1 J (k [2] J NO Z2 (wy.c · bP) (λlG Z2=>ro T 3 (cd J Z2 (λZ2=>?_) (λZ2=>?_)))))
 ·refine rc T 9 (lf T 1 J (kr (oQ.R gd) [] [2] J ad8 Z2 (oQ.c · bP) (λek Z2=>?_)));rintro _ _ ⟨dV,dm,rfl,rfl⟩;refine fz J (ro T 14 (lf T 1 J (ro T 1 ?_)));obtain⟨c6,Z2⟩:=az Z2;obtain⟨Wn,VR,xm⟩:=dz.r.addr c6.1 c6.2;refine ix T J xm c6 (le T 0 (oO dz 2) xm c6 J J (ro T 3 (cb J Z2 (λZ2=>?_) (λZ2=>?_))))
  ·refine rc T 5 (lf T 1 J (ro T 2 (ix T J xm c6 (aX (kX (k:=(Fl.int .i64)) T 2 0 ek.1 J J J J J J dz xm c6 J J J (λdI dP=>kg [0,3] [0,1,1] [0,1,1,0] [] [(cl bh 369 [(ii x7),(ii x8),(ll kA s.t.C kL),(pp gd),(ll dj aN n11),(ll a12 (List.set bj (Int.toNat ek.2.1) ek.1) n12)])] J J trivial dJ (ro T 5 (kr (yb.R bh (ll kA s.t.C kL) aN dj n11) [] [3,2,1] J ad9 Z2 (yb.c (s:=(dp.mk (aL.mk x7 x8 s.t.C) ek.2.2.2 aN (List.set bj (Int.toNat ek.2.1) ek.1))) · (rO qe 0) uB dm (oz yH (rO pt 0) jJ) Au dP) (λdD Z2=>?_)))))))));rintro _ _ ⟨qI,fY,a17,n17,jo,n18,ft,fU,Q9,aaF,fF,rfl,rfl⟩;refine fz J (ro T 1 (ks [0] J (rx T 4 (kr (j5.R bh (ll kA s.t.C kL) dD.todo a17 n17) [] [1,1,1] J NN Z2 (j5.c (s:=(dp.mk (aL.mk dD.t.W dD.t.H s.t.C) dD.wait dD.todo dD.aQ)) · (rO qe 0) uB fU (oz Q9 (oz yH (rO pt 0) jJ) Au) aaF fF) (λeG Z2=>?_)))));rintro _ _ ⟨b19,kT,a20,n20,a21,n21,kq,ie,aaq,aaG,jC,rfl,rfl⟩;refine fz J (ro T 2 (ar (_,_,_,_,_,_,_,_,_,_,_,_) [0,0,0,0] ⟨Z2,ie,(dA.trans (dA.trans yH jJ Q9) jJ aaq),aaG,jC⟩ J J))
  refine rc T 5 (kr (j5.R bh (ll kA s.t.C kL) aN dj n11) [] [1,2,1] J NN Z2 (j5.c (s:=(dp.mk (aL.mk x7 x8 s.t.C) ek.2.2.2 aN bj)) · (rO qe 0) uB dm (oz yH (rO pt 0) jJ) Au dz) (λv17 Z2=>?_));rintro _ _ ⟨kZ,lX,a23,n23,a24,n24,rG,iz,Q_,Rh,mf,rfl,rfl⟩;refine fz J (ro T 2 (ar (_,_,_,_,_,_,_,_,_,_,_,_) [0,0,0,0] ⟨Z2,iz,(dA.trans yH jJ Q_),Rh,mf⟩ J J))
 refine rc T 4 (jq ?_)
 cases Z2;exact p1 T J [1,1,1,0] ⟨gd,b_,dj,n11,a12,n12,dq,bP,yH,Au,dz,J,J⟩ J
def ug.f (t:aL) (l:(List a_)):Option ((List Int)×Int):=(zQ.f t l).bind λv1=>if(!v1)=true then(some ([],1)) else(((wx.f 0).bind λv9=>cT v9 (none) (λX5=>(ni.f l).bind λv10=>(kn.f [1099511627776] (List.length t.C:Int)).bind λv11=>some (t.W,t.H,t.C,X5,v10,v11))).bind λ(x2,x3,x4,x5,x6,x7)=>(oc.f (dp.mk (aL.mk x2 x3 x4) x5 x6 x7)).bind λv17=>some (v17.aQ,0))
def ug.R (r:((List Int)×Int)):bg:=λu G=> ∃a0 n0 H0,aj (Fl.int .i64) 3 r.1 a0 n0 H0/\u=(.tuple #[(ll a0 r.1 n0),(ii r.2)])/\G=[H0]
theorem ug.c (H:ug.f t l=some r) (dR:aP (Fl.int .u8) t.C iG F) (fw:List.length t.C<=iM) (dr:aP cL l iE F) (gB:List.length l<=iy):
 QR 228 [(.agg #[(ii t.W),(ii t.H),(ll iG t.C iM)]),(ll iE l iy)] [] [] F (ug.R r):=by
 unfold ug.f at H;refine aD Tryz.func228 J J (λW=>rc T 2 (nc T J (λb1=>ro T 7 (lm T 1 J (ro T 1 (k [] J Tu H (zQ.c · (rO dR 0) fw (rO dr 0) gB) (λv1 H=>ro T 3 (cb J H (λH=>?_) (λH=>?_)))))))))
 ·refine rc T 8 ?_
  cases H;refine bq (p1 T J [2,0] ⟨none,0,[],aj.nil,J,J⟩ J)
 refine rc T 2 (mq H [] [0] (λz8 (⟨x2,x3,x4,x5,x6,x7,b3,a4,n4,b5,H5,a6,n6,H6,a7,n7,H7⟩:Int×Int×List Int×eO×List a_×List Int×Nat×Option Addr×Nat×Nat×Hp×Option Addr×Nat×Hp×Option Addr×Nat×Hp)=>((x2,x3,x4,x5,x6,x7)=z8/\dA (Fl.int .u8) t.C iG iM x4 a4 n4/\List.length x4<=n4/\ky x5 b5 H5/\aj cL 285 x6 a6 n6 H6/\aj (Fl.int .i64) 3 x7 a7 n7 H7,[(6,(pp b3))],[(cl b3 369 [(ii x2),(ii x3),(ll a4 x4 n4),(pp b5),(ll a6 x6 n6),(ll a7 x7 n7)]),H5,H6,H7])) J J (λz8 Z3 _=>?_) ?_)
 ·refine ks [1,2] J (fz J (rz [] mix (bO bN) (λhg pf=>av 0 sz hg pf J (gA T 1 J J J J J J J) (ha T 9 [2,5] sz hg pf J (av 6 sz hg pf J (aw T J J J J (aK (j:=1) J J)) (ha T 7 [7] sz hg pf J (gK 1 4 ?_ ?_)))))))
  ·refine kR wx.R [] [] J TN Z3 (wx.c ·) (λv9 Z3=>?_);rintro _ _ ⟨_,_,O5,rfl,rfl⟩;rcases v9 with _ |X5
   ·replace Z3:=eW J Z3
    cases Z3
   replace Z3:=eX J Z3;obtain⟨b8,H8,s8,rfl,rfl⟩:=O5;refine an (so [0,0]) (gK 3 4 ?_ ?_)
   ·refine kR ni.R [] [] J Gw Z3 (ni.c · (rO dr 0) gB) (λv10 Z3=>?_);rintro _ _ ⟨a9,n9,H9,s9,rfl,rfl⟩;refine fz J (an (so [0,0]) (ao 4 (cY (k:=(Fl.int .i64)) T [1099511627776] J J J J J J J J J (λcB b_ bP=>an (so [0,0]) (ao 8 (kR kn.R [] [] J NM Z3 (kn.c · (oO bP 4) bP.bT) (λv11 Z3=>?_)))))));rintro _ _ ⟨dj,n11,cz,c_,rfl,rfl⟩;refine fz J (an (so [0,0]) (ha T 2 [9] (so [0,0]) hg pf J (ao 10 (nw T J (λkY=>an (so [0,0]) (ha T 0 [11] (so [0,0]) hg pf J (ae (rx T 1 (am (_,_,_,_,_,_,_,_,_,_,_,_,_,_,_,_,_) [0,5,1,1,2] ⟨oi Z3,dA.self,fw,s8,s9,c_⟩ J J)))))))))
   refine cY (k:=(Fl.int .i64)) T [1099511627776] J J J J J J J J J (λdK dV dm=>an (so [0,0]) (ao 3 (kR ni.R [] [] J Gw Z3 (ni.c · (rO dr 0) gB) (λv12 Z3=>?_))));rintro _ _ ⟨je,n14,fX,gF,rfl,rfl⟩;refine fz J (an (so [0,0]) (ao 8 (kR kn.R [] [] J NM Z3 (kn.c · (oO dm 3) dm.bT) (λlG Z3=>?_))));rintro _ _ ⟨jS,n15,dI,dP,rfl,rfl⟩;refine fz J (an (so [0,0]) (ha T 2 [9] (so [0,0]) hg pf J (ao 10 (nw T J (λqI=>an (so [0,0]) (ha T 0 [11] (so [0,0]) hg pf J (ae (rx T 1 (am (_,_,_,_,_,_,_,_,_,_,_,_,_,_,_,_,_) [0,5,1,2,2] ⟨oi Z3,dA.self,fw,s8,gF,dP⟩ J J)))))))))
  refine cY (k:=(Fl.int .i64)) T [1099511627776] J J J J J J J J J (λa17 eH fq=>an (so [0,0]) (ao 1 (kR wx.R [] [] J TN Z3 (wx.c ·) (λek Z3=>?_))));rintro _ _ ⟨_,_,Yg,rfl,rfl⟩;rcases ek with _ |akP
  ·replace Z3:=eW J Z3
   cases Z3
  replace Z3:=eX J Z3;obtain⟨qJ,ft,fF,rfl,rfl⟩:=Yg;refine an (so [0,0]) (ao 3 (kR ni.R [] [] J Gw Z3 (ni.c · (rO dr 0) gB) (λdD Z3=>?_)));rintro _ _ ⟨kW,n19,kT,ie,rfl,rfl⟩;refine fz J (an (so [0,0]) (ao 8 (kR kn.R [] [] J NM Z3 (kn.c · (oO fq 2) fq.bT) (λeG Z3=>?_))));rintro _ _ ⟨a20,n20,oq,me,rfl,rfl⟩;refine fz J (an (so [0,0]) (ha T 2 [9] (so [0,0]) hg pf J (ao 10 (nw T J (λCa=>an (so [0,0]) (ha T 0 [11] (so [0,0]) hg pf J (ae (rx T 1 (am (_,_,_,_,_,_,_,_,_,_,_,_,_,_,_,_,_) [0,5,2,2,2] ⟨oi Z3,dA.self,fw,fF,ie,me⟩ J J)))))))))
 rintro _ ⟨x2,x3,x4,x5,x6,x7,b3,a4,n4,b5,H5,a6,n6,H6,a7,n7,H7⟩ ⟨rfl,b4_,c4_,s5,s6,s7⟩ H;refine rc T 3 (kr (oc.R b3 (ll a4 x4 n4) x6 a6 n6) [] [1,1,2] J adW H (oc.c (s:=(dp.mk (aL.mk x2 x3 x4) x5 x6 x7)) · (oz b4_ (rO dR 0) fw) c4_ s5 (oO s6 1) s6.bT s7) (λv17 H=>?_));rintro _ _ ⟨kZ,lX,a23,n23,a24,n24,rG,iz,Q_,Rh,mf,rfl,rfl⟩;refine fz J (ro T 7 (lf T 2 J (ro T 5 ?_)))
 cases H;exact p1 T J [4,0] ⟨a24,n24,rG,mf,J,J⟩ J
end
noncomputable section
def qx.l0:Nat->aL->(List Int)->Int->Option Bool
 |0,_,_,_=>none
 |k3+1,t,l,x2=>if x2<(List.length l:Int) then(if(0<=x2/\x2<(List.length l:Int)) then((BD.f t (rd l x2)).bind λv4=>(if((v4==0)||(v4==255))=true then(some true) else(if x2>0 then(if(0<=(aa (x2-1))/\(aa (x2-1))<(List.length l:Int)) then(some (decide ((rd l x2)<=(rd l (aa (x2-1)))))) else none) else(some false))).bind λx5=>if x5=true then(some false) else(qx.l0 k3 t l (aa (x2+1)))) else none) else((uh.f t).bind λv7=>some v7)
def qx.f (t:aL) (l:(List Int)):Option Bool:=qx.l0 fuel t l 0
theorem qx.c (H:qx.f t l=some r) (dR:aP (Fl.int .u8) t.C iG F) (fw:List.length t.C<=iM) (dr:aP (Fl.int .i64) l iE F) (gB:List.length l<=iy):
 QU 266 [(.agg #[(ii t.W),(ii t.H),(ll iG t.C iM)]),(ll iE l iy)] [] F (bb r):=by
 unfold qx.f at H;refine aD Tryz.func266 J J (λW=>rc T 2 (nc T J (λb1=>ro T 12 (lq [1,2,8,9] [0,0] (λ(⟨k3,x2⟩:Nat×Int)=>(qx.l0 k3 t l x2=some r,[(10,(ii x2))],[])) J J (fuel,0) [0,0] H J J ?_))));rintro k3 x2 Z1;replace Z1:qx.l0 (k3+1) t l x2=some r:=Z1;rw[qx.l0] at Z1;refine rc T 6 (cd J Z1 (λZ1=>?_) (λZ1=>?_))
 ·refine rc T 7 ?_;obtain⟨c3,Z1⟩:=az Z1;obtain⟨q2,o2,e2⟩:=dr.addr c3.1 c3.2;refine ix T J e2 c3 (le T 0 (rO dr 0) e2 c3 J J (ro T 6 (lm T 1 J (ro T 1 (k [] J aeb Z1 (BD.c · (rO dR 0) fw) (λv4 Z1=>ro T 3 (mq Z1 [1,2,8,9,10] [0,0] (λz6 (x5:Bool)=>(x5=z6,[(36,(bb x5))],[])) J J (λz6 Z5 _=>?_) ?_)))))))
  ·refine rc T 4 (go T [3,4,5] 20 [1,2,5,6,8,9,10] 23 J J J J J J J (ro T 1 (ab 24 J Z5 (λZ5=>?_) (λZ5=>?_))))
   ·refine ro T 14 (am _ [0,0] (oi Z5) J J)
   refine ro T 3 (ad 27 J Z5 (λZ5=>?_) (λZ5=>?_))
   ·refine ro T 4 ?_;obtain⟨c8,Z5⟩:=az Z5;refine ix T J e2 c8 (le T 0 (rO dr 0) e2 c8 J J (ro T 5 (am _ [0,0] (oi Z5) J J)))
   refine ro T 11 (am _ [0,0] (oi Z5) J J)
  rintro _ x5 rfl Z1;refine cb J Z1 (λZ1=>?_) (λZ1=>?_)
  ·refine rc T 11 ?_
   cases Z1;exact p0 T J [0] J
  refine rc T 8 (ar _ [0,0] Z1 J J)
 refine rc T 7 (lm T 1 J (k [] J J9 Z1 (uh.c · (rO dR 0) fw) (λv7 Z1=>ro T 4 ?_)))
 cases Z1;exact p0 T J [0] J
def yc.f (t:aL) (ai:Int):Option ((List Int)×Int):=(ug.f t [(a_.mk ai 4 0)]).bind λv1=>some (v1.1,v1.2)
def yc.R (r:((List Int)×Int)):bg:=λu G=> ∃a0 n0 H0,aj (Fl.int .i64) 3 r.1 a0 n0 H0/\u=(.tuple #[(ll a0 r.1 n0),(ii r.2)])/\G=[H0]
theorem yc.c (H:yc.f t ai=some r) (dR:aP (Fl.int .u8) t.C iG F) (fw:List.length t.C<=iM):
 QR 267 [(.agg #[(ii t.W),(ii t.H),(ll iG t.C iM)]),(ii ai)] [] [] F (yc.R r):=by
 unfold yc.f at H;refine aD Tryz.func267 J J (λW=>rc T 2 (nc T J (λb1=>ro T 6 (lm T 1 J (ro T 2 (aX (cY (k:=cL) T [(a_.mk ai 4 0)] J J J J J J J J J (λa2 H2 s2=>kr ug.R [] [] J TK H (ug.c (l:=[(a_.mk ai 4 0)]) · (rO dR 0) fw (oO s2 2) s2.bT) (λv1 H=>?_)))))))));rintro _ _ ⟨a3,n3,H3,s3,rfl,rfl⟩;refine fz J (ro T 7 ?_)
 cases H;exact p1 T J [3,0] ⟨a3,n3,H3,s3,J,J⟩ J
def jR.l1:Nat->(List Int)->Int->((List Int)×Int)->List Int->Int->Option (List Int)
 |0,_,_,_,_,_=>none
 |xE+1,l,x5,v9,bx,aU=>if aU<(List.length l:Int) then(if(0<=aU/\aU<(List.length l:Int)) then(if(0<=(rd l aU)/\(rd l aU)<(List.length v9.1:Int)) then(if(0<=(aa ((aa (aU*(List.length l:Int)))+x5))/\(aa ((aa (aU*(List.length l:Int)))+x5))<(List.length bx:Int)) then(jR.l1 xE l x5 v9 (List.set bx (Int.toNat (aa ((aa (aU*(List.length l:Int)))+x5))) (rd v9.1 (rd l aU))) (aa (aU+1))) else none) else none) else none) else(some bx)
def jR.l0:Nat->aL->(List Int)->List Int->Int->Option ((List Int)×Int)
 |0,_,_,_,_=>none
 |k6+1,t,l,x4,x5=>if x5<(List.length l:Int) then((if(0<=x5/\x5<(List.length l:Int)) then((yc.f t (rd l x5)).bind λv9=>jR.l1 fuel l x5 v9 x4 0) else none).bind λx7=>jR.l0 k6 t l x7 (aa (x5+1))) else(some (x4,0))
def jR.f (t:aL) (l:(List Int)):Option ((List Int)×Int):=(qx.f t l).bind λv1=>if(!v1)=true then(some ([],1)) else(if(0<=(aa ((List.length l:Int)*(List.length l:Int)))/\(aa ((List.length l:Int)*(List.length l:Int)))<=1099511627776) then(jR.l0 fuel t l (List.replicate (Int.toNat (aa ((List.length l:Int)*(List.length l:Int)))) (0:Int)) 0) else none)
def jR.R (r:((List Int)×Int)):bg:=λu G=> ∃a0 n0 H0,aj (Fl.int .i64) 3 r.1 a0 n0 H0/\u=(.tuple #[(ll a0 r.1 n0),(ii r.2)])/\G=[H0]
theorem jR.c (H:jR.f t l=some r) (dR:aP (Fl.int .u8) t.C iG F) (fw:List.length t.C<=iM) (dr:aP (Fl.int .i64) l iE F) (gB:List.length l<=iy):
 QR 238 [(.agg #[(ii t.W),(ii t.H),(ll iG t.C iM)]),(ll iE l iy)] [] [] F (jR.R r):=by
 unfold jR.f at H;refine aD Tryz.func238 J J (λW=>rc T 2 (nc T J (λb1=>ro T 7 (lm T 1 J (ro T 1 (k [] J ad3 H (qx.c · (rO dR 0) fw (rO dr 0) gB) (λv1 H=>ro T 3 (cb J H (λH=>?_) (λH=>?_)))))))))
 ·refine rc T 8 ?_
  cases H;refine bq (p1 T J [2,0] ⟨none,0,[],aj.nil,J,J⟩ J)
 refine rc T 14 ?_;obtain⟨c3,H⟩:=az H;refine aX (yE (k:=(Fl.int .i64)) T (0:Int) J J J J J J J J c3 J (λa3 n3 H3 s3=>ro T 12 (lq [1,2,6,24,25] [0,0] (λ(⟨k6,x4,x5,a5,n5,H5⟩:Nat×List Int×Int×Option Addr×Nat×Hp)=>(jR.l0 k6 t l x4 x5=some r/\aj (Fl.int .i64) 3 x4 a5 n5 H5,[(7,(ll a5 x4 n5)),(26,(ii x5))],[H5])) J J (fuel,(List.replicate (Int.toNat (aa ((List.length l:Int)*(List.length l:Int)))) (0:Int)),0,a3,n3,H3) [0,0,0] ⟨H,s3⟩ J J ?_)));rintro k6 ⟨x4,x5,a5,n5,H5⟩ ⟨Z4,s5⟩;rw[jR.l0] at Z4;refine rc T 6 (cd J Z4 (λZ4=>?_) (λZ4=>?_))
 ·refine rc T 2 (mq Z4 [1,2,6,24,25,26] [0,0] (λz8 (⟨x7,a6,n6,H6⟩:List Int×Option Addr×Nat×Hp)=>(x7=z8/\aj (Fl.int .i64) 3 x7 a6 n6 H6,[(7,(ll a6 x7 n6))],[H6])) J J (λz8 Z6 _=>?_) ?_)
  ·refine rc T 4 ?_;obtain⟨c7,Z6⟩:=az Z6;obtain⟨q7,o7,e7⟩:=dr.addr c7.1 c7.2;refine ix T J e7 c7 (le T 0 (rO dr 0) e7 c7 J J (ro T 6 (lm T 1 J (ro T 1 (kr yc.R [] [] J ad4 Z6 (yc.c · (rO dR 0) fw) (λv9 Z6=>?_))))));rintro _ _ ⟨a8,n8,H8,s8,rfl,rfl⟩;refine fz J (ro T 15 (lq [1,2,6,8,10,24,25,26,37,38] [0,0,1] (λ(⟨xE,bx,aU,cB,n10,b_⟩:Nat×List Int×Int×Option Addr×Nat×Hp)=>(jR.l1 xE l x5 v9 bx aU=some z8/\aj (Fl.int .i64) 3 bx cB n10 b_,[(7,(ll cB bx n10)),(39,(ii aU))],[b_])) J J (fuel,x4,0,a5,n5,H5) [0,0,1,0] ⟨Z6,s5⟩ J J ?_));rintro xE ⟨bx,aU,cB,n10,b_⟩ ⟨Z9,bP⟩;rw[jR.l1] at Z9;refine rc T 6 (cd J Z9 (λZ9=>?_) (λZ9=>?_))
   ·refine rc T 7 ?_;obtain⟨eJ,Z9⟩:=az Z9;obtain⟨q11,o11,yQ⟩:=dr.addr eJ.1 eJ.2;refine ix T J yQ eJ (le T 0 (rO dr 0) yQ eJ J J (ro T 13 ?_));obtain⟨ir,Z9⟩:=az Z9;obtain⟨wo,Pd,sV⟩:=s8.r.addr ir.1 ir.2;refine ix T J sV ir (le T 0 (oO s8 2) sV ir J J ?_);obtain⟨jr,Z9⟩:=az Z9;obtain⟨Wm,VQ,xk⟩:=bP.r.addr jr.1 jr.2;refine ix T J xk jr (aX (kX (k:=(Fl.int .i64)) T 3 0 (rd v9.1 (rd l aU)) J J J J J J bP xk jr J J J (λfX gF=>kf [1,2,6,8,10,24,25,26,37,38,39] [0,0,0,0] [(7,(ll cB (List.set bx (Int.toNat (aa ((aa (aU*(List.length l:Int)))+x5))) (rd v9.1 (rd l aU))) n10))] J J ⟨dJ,trivial⟩ (ro T 8 (ar (_,_,_,_,_) [0,0,0,0] ⟨Z9,gF⟩ J J)))))
   refine rc T 6 (am (_,_,_,_) [0,0,1] ⟨oi Z9,bP⟩ J J)
  rintro _ ⟨x7,a6,n6,H6⟩ ⟨rfl,s6⟩ Z4;refine rc T 5 (ar (_,_,_,_,_) [0,0,0] ⟨Z4,s6⟩ J J)
 refine rc T 13 ?_
 cases Z4;exact p1 T J [2,0] ⟨a5,n5,H5,s5,J,J⟩ J
end
noncomputable section
def mh.f (s:fZ):Option (List Int):=some [s.bA,s.bB,s.bz,s.bw,s.bF,s.bD]
theorem mh.c (H:mh.f s=some r):
 QU 62 [(.agg #[(uu s.bA),(uu s.bB),(uu s.bz),(uu s.bw),(uu s.bF),(uu s.bD)])] [] F (.agg #[(uu (rd r 0)),(uu (rd r 1)),(uu (rd r 2)),(uu (rd r 3)),(uu (rd r 4)),(uu (rd r 5))]):=by
 unfold mh.f at H;refine aD Tryz.func62 J J (λW=>rc T 2 (nc T J (λb1=>nc T J (λb2=>ro T 5 (lf T 1 J (ro T 1 (lf T 1 J (ro T 1 (lf T 1 J (ro T 1 (lf T 1 J (ro T 1 (lf T 1 J (ro T 1 (lf T 1 J (br J (JM T J J J J J J) (sg T 2 J (ro T 3 ?_))))))))))))))))))
 cases H;exact pb T J (.cQ (j:=2) [(uu s.bA),(uu s.bB),(uu s.bz),(uu s.bw),(uu s.bF),(uu s.bD)] J J J J J J J .nil) [0] () J J
def sv.f (a:Int) (b:Int):Option Int:=if a>(eQ (18446744073709551615-b)) then(some 18446744073709551615) else(some (eQ (a+b)))
theorem sv.c (H:sv.f a b=some r):
 QU 106 [(uu a),(uu b)] [] F (uu r):=by
 unfold sv.f at H;refine aD Tryz.func106 J J (λW=>rc T 14 (cd J H (λH=>?_) (λH=>?_)))
 ·refine rc T 7 ?_
  cases H;exact p0 T J [0] J
 refine rc T 11 ?_
 cases H;exact p0 T J [0] J
def mP.l0:Nat->Int->Int->Int->Int->Int->Int->Int->Int->Int->Int->Int->Int->Int->Option fZ
 |0,_,_,_,_,_,_,_,_,_,_,_,_,_=>none
 |xF+1,x7,x8,x9,aN,bj,bx,ja,gz,ik,jc,fG,jd,iB=>if iB<6 then(if(0<=iB/\iB<6) then(if(0<=iB/\iB<6) then((sv.f (rd [ja,gz,ik,jc,fG,jd] iB) (rd [x7,x8,x9,aN,bj,bx] iB)).bind λqz=>if(0<=iB/\iB<6) then(mP.l0 xF x7 x8 x9 aN bj bx (rd (List.set [ja,gz,ik,jc,fG,jd] (Int.toNat iB) qz) 0) (rd (List.set [ja,gz,ik,jc,fG,jd] (Int.toNat iB) qz) 1) (rd (List.set [ja,gz,ik,jc,fG,jd] (Int.toNat iB) qz) 2) (rd (List.set [ja,gz,ik,jc,fG,jd] (Int.toNat iB) qz) 3) (rd (List.set [ja,gz,ik,jc,fG,jd] (Int.toNat iB) qz) 4) (rd (List.set [ja,gz,ik,jc,fG,jd] (Int.toNat iB) qz) 5) (aa (iB+1))) else none) else none) else none) else(some (fZ.mk ja gz ik jc fG jd))
def mP.f (a:fZ) (b:fZ):Option fZ:=((mh.f a).bind λek=>(mh.f b).bind λdD=>some ((rd ek 0),(rd ek 1),(rd ek 2),(rd ek 3),(rd ek 4),(rd ek 5),(rd dD 0),(rd dD 1),(rd dD 2),(rd dD 3),(rd dD 4),(rd dD 5))).bind λ(x1,x2,x3,x4,x5,x6,x7,x8,x9,aN,bj,bx)=>mP.l0 fuel x7 x8 x9 aN bj bx x1 x2 x3 x4 x5 x6 0
theorem mP.c (H:mP.f a b=some r):
 QU 78 [(.agg #[(uu a.bA),(uu a.bB),(uu a.bz),(uu a.bw),(uu a.bF),(uu a.bD)]),(.agg #[(uu b.bA),(uu b.bB),(uu b.bz),(uu b.bw),(uu b.bF),(uu b.bD)])] [] F (.agg #[(uu r.bA),(uu r.bB),(uu r.bz),(uu r.bw),(uu r.bF),(uu r.bD)]):=by
 unfold mP.f at H;refine aD Tryz.func78 J J (λW=>rc T 2 (nc T J (λb1=>nc T J (λb2=>nc T J (λb3=>ro T 2 (mq H [4] [0,2] (λIQ (⟨x1,x2,x3,x4,x5,x6,x7,x8,x9,aN,bj,bx,b4,b5⟩:Int×Int×Int×Int×Int×Int×Int×Int×Int×Int×Int×Int×Nat×Nat)=>((x1,x2,x3,x4,x5,x6,x7,x8,x9,aN,bj,bx)=IQ,[(5,(pp b4)),(6,(pp b5))],[(cl b4 123 [(uu x1),(uu x2),(uu x3),(uu x4),(uu x5),(uu x6)]),(cl b5 123 [(uu x7),(uu x8),(uu x9),(uu aN),(uu bj),(uu bx)])])) J J (λIQ Z1 _=>?_) ?_))))))
 ·refine ks [2,3,4] J (fz J (rz [] mix (bO bN) (λhg pf=>av 0 sz hg pf J (gA T 1 J J J J J J J) (av 2 sz hg pf J (gA T 2 J J J J J J J) (QK 1 4 5 ?_ ?_ ?_)))))
  ·refine kh [] J qf Z1 (mh.c ·) (λek Z1=>an sz (QK 3 4 5 ?_ ?_ ?_))
   ·refine kh [] J qf Z1 (mh.c ·) (λdD Z1=>an sz (gK 4 5 ?_ ?_))
    ·refine nw T J (λb6=>an (so [0,0,0,0]) (ao 5 (nw T J (λb7=>an (so [0,0,0,0]) (ao 6 (sf T 4 J (an (so [0,0,0,0]) (ao 7 (sf T 5 J (an (so [0,0,0,0]) (ae (rx T 1 (am (_,_,_,_,_,_,_,_,_,_,_,_,_,_) [0,2,2,2] (oi Z1) J J)))))))))))))
    refine nw T J (λb8=>an (so [0,0,0,0]) (ao 4 (nw T J (λb9=>an (so [0,0,0,0]) (ao 6 (sf T 5 J (an (so [0,0,0,0]) (ao 7 (sf T 4 J (an (so [0,0,0,0]) (ae (rx T 1 (am (_,_,_,_,_,_,_,_,_,_,_,_,_,_) [0,2,3,2] (oi Z1) J J)))))))))))))
   ·refine nw T J (λgd=>an (so [0,0,0,0]) (gK 3 5 ?_ ?_))
    ·refine kh [] J qf Z1 (mh.c ·) (λeG Z1=>an (so [0,0,0,0]) (ao 5 (nw T J (λjU=>an (so [0,0,0,0]) (ao 6 (sf T 4 J (an (so [0,0,0,0]) (ao 7 (sf T 5 J (an (so [0,0,0,0]) (ae (rx T 1 (am (_,_,_,_,_,_,_,_,_,_,_,_,_,_) [0,2,2,2] (oi Z1) J J)))))))))))))
    refine nw T J (λkY=>an (so [0,0,0,0]) (ao 3 (kh [] J qf Z1 (mh.c ·) (λv17 Z1=>an (so [0,0,0,0]) (ao 6 (sf T 4 J (an (so [0,0,0,0]) (ao 7 (sf T 5 J (an (so [0,0,0,0]) (ae (rx T 1 (am (_,_,_,_,_,_,_,_,_,_,_,_,_,_) [0,2,2,2] (oi Z1) J J)))))))))))))
   refine nw T J (λb13=>an (so [0,0,0,0]) (gK 3 4 ?_ ?_))
   ·refine kh [] J qf Z1 (mh.c ·) (λfP Z1=>an (so [0,0,0,0]) (ao 4 (nw T J (λJr=>an (so [0,0,0,0]) (ao 6 (sf T 5 J (an (so [0,0,0,0]) (ao 7 (sf T 4 J (an (so [0,0,0,0]) (ae (rx T 1 (am (_,_,_,_,_,_,_,_,_,_,_,_,_,_) [0,2,3,2] (oi Z1) J J)))))))))))))
   refine nw T J (λoy=>an (so [0,0,0,0]) (ao 3 (kh [] J qf Z1 (mh.c ·) (λoe Z1=>an (so [0,0,0,0]) (ao 6 (sf T 5 J (an (so [0,0,0,0]) (ao 7 (sf T 4 J (an (so [0,0,0,0]) (ae (rx T 1 (am (_,_,_,_,_,_,_,_,_,_,_,_,_,_) [0,2,3,2] (oi Z1) J J)))))))))))))
  ·refine nw T J (λqI=>an (so [0,0,0,0]) (gK 1 5 ?_ ?_))
   ·refine kh [] J qf Z1 (mh.c ·) (λv20 Z1=>an (so [0,0,0,0]) (gK 3 5 ?_ ?_))
    ·refine kh [] J qf Z1 (mh.c ·) (λv21 Z1=>an (so [0,0,0,0]) (ao 5 (nw T J (λvu=>an (so [0,0,0,0]) (ao 6 (sf T 4 J (an (so [0,0,0,0]) (ao 7 (sf T 5 J (an (so [0,0,0,0]) (ae (rx T 1 (am (_,_,_,_,_,_,_,_,_,_,_,_,_,_) [0,2,2,2] (oi Z1) J J)))))))))))))
    refine nw T J (λqJ=>an (so [0,0,0,0]) (ao 3 (kh [] J qf Z1 (mh.c ·) (λv22 Z1=>an (so [0,0,0,0]) (ao 6 (sf T 4 J (an (so [0,0,0,0]) (ao 7 (sf T 5 J (an (so [0,0,0,0]) (ae (rx T 1 (am (_,_,_,_,_,_,_,_,_,_,_,_,_,_) [0,2,2,2] (oi Z1) J J)))))))))))))
   refine nw T J (λb19=>an (so [0,0,0,0]) (ao 1 (kh [] J qf Z1 (mh.c ·) (λv23 Z1=>an (so [0,0,0,0]) (ao 3 (kh [] J qf Z1 (mh.c ·) (λv24 Z1=>an (so [0,0,0,0]) (ao 6 (sf T 4 J (an (so [0,0,0,0]) (ao 7 (sf T 5 J (an (so [0,0,0,0]) (ae (rx T 1 (am (_,_,_,_,_,_,_,_,_,_,_,_,_,_) [0,2,2,2] (oi Z1) J J))))))))))))))))
  refine nw T J (λJs=>an (so [0,0,0,0]) (gK 1 4 ?_ ?_))
  ·refine kh [] J qf Z1 (mh.c ·) (λv25 Z1=>an (so [0,0,0,0]) (gK 3 4 ?_ ?_))
   ·refine kh [] J qf Z1 (mh.c ·) (λv26 Z1=>an (so [0,0,0,0]) (ao 4 (nw T J (λCa=>an (so [0,0,0,0]) (ao 6 (sf T 5 J (an (so [0,0,0,0]) (ao 7 (sf T 4 J (an (so [0,0,0,0]) (ae (rx T 1 (am (_,_,_,_,_,_,_,_,_,_,_,_,_,_) [0,2,3,2] (oi Z1) J J)))))))))))))
   refine nw T J (λkZ=>an (so [0,0,0,0]) (ao 3 (kh [] J qf Z1 (mh.c ·) (λP9 Z1=>an (so [0,0,0,0]) (ao 6 (sf T 5 J (an (so [0,0,0,0]) (ao 7 (sf T 4 J (an (so [0,0,0,0]) (ae (rx T 1 (am (_,_,_,_,_,_,_,_,_,_,_,_,_,_) [0,2,3,2] (oi Z1) J J)))))))))))))
  refine nw T J (λb23=>an (so [0,0,0,0]) (ao 1 (kh [] J qf Z1 (mh.c ·) (λv28 Z1=>an (so [0,0,0,0]) (ao 3 (kh [] J qf Z1 (mh.c ·) (λpR Z1=>an (so [0,0,0,0]) (ao 6 (sf T 5 J (an (so [0,0,0,0]) (ao 7 (sf T 4 J (an (so [0,0,0,0]) (ae (rx T 1 (am (_,_,_,_,_,_,_,_,_,_,_,_,_,_) [0,2,3,2] (oi Z1) J J))))))))))))))))
 rintro _ ⟨x1,x2,x3,x4,x5,x6,x7,x8,x9,aN,bj,bx,b4,b5⟩ rfl H;refine rc T 7 (lq [4,5,6] [0,0,1] (λ(⟨xF,ja,gz,ik,jc,fG,jd,iB⟩:Nat×Int×Int×Int×Int×Int×Int×Int)=>(mP.l0 xF x7 x8 x9 aN bj bx ja gz ik jc fG jd iB=some r,[(12,(ii iB))],[(cl b4 123 [(uu ja),(uu gz),(uu ik),(uu jc),(uu fG),(uu jd)])])) J J (fuel,x1,x2,x3,x4,x5,x6,0) [0,0,1,0] H J J ?_);rintro xF ⟨ja,gz,ik,jc,fG,jd,iB⟩ kV;replace kV:mP.l0 (xF+1) x7 x8 x9 aN bj bx ja gz ik jc fG jd iB=some r:=kV;rw[mP.l0] at kV;refine rc T 6 (cd J kV (λkV=>?_) (λkV=>?_))
 ·refine rc T 10 (fz J (rz [9] mix (bO bN) (λhg pf=>ha T 8 [0,1] sz hg pf J ?_)));obtain⟨F4,kV⟩:=az kV;refine av 2 sz hg pf J (yU T J J J J J F4) (av 3 sz hg pf J (aw T J J J J (U5 (kk:= .u64) (xs:=[ja,gz,ik,jc,fG,jd]) (j:=3) J J F4)) (ha T 5 [4] sz hg pf J ?_));obtain⟨kB,kV⟩:=az kV;refine av 5 sz hg pf J (yU T J J J J J kB) (av 6 sz hg pf J (aw T J J J J (U5 (kk:= .u64) (xs:=[x7,x8,x9,aN,bj,bx]) (j:=2) J J kB)) (ao 7 (kh [] J J1 kV (sv.c ·) (λqz kV=>an sz ?_))));obtain⟨Jv,kV⟩:=az kV;refine av 8 sz hg pf J (yU T J J J J J Jv) (ao 9 (ZY (kk:= .u64) (xs:=[ja,gz,ik,jc,fG,jd]) T 3 [(uu (rd (List.set [ja,gz,ik,jc,fG,jd] (Int.toNat iB) qz) 0)),(uu (rd (List.set [ja,gz,ik,jc,fG,jd] (Int.toNat iB) qz) 1)),(uu (rd (List.set [ja,gz,ik,jc,fG,jd] (Int.toNat iB) qz) 2)),(uu (rd (List.set [ja,gz,ik,jc,fG,jd] (Int.toNat iB) qz) 3)),(uu (rd (List.set [ja,gz,ik,jc,fG,jd] (Int.toNat iB) qz) 4)),(uu (rd (List.set [ja,gz,ik,jc,fG,jd] (Int.toNat iB) qz) 5))] J J J J J J J Jv J (an sl (ae (rx T 7 (ar (_,_,_,_,_,_,_) [0,0,0,0] kV J J))))))
 refine rc T 7 (br J (yU T J J J J J (by decide)) (lf T 3 J (br J (yU T J J J J J (by decide)) (lf T 3 J (br J (yU T J J J J J (by decide)) (lf T 3 J (br J (yU T J J J J J (by decide)) (lf T 3 J (br J (yU T J J J J J (by decide)) (lf T 3 J (br J (yU T J J J J J (by decide)) (lf T 3 J (ro T 1 (sg T 1 J (ro T 1 (rx T 2 ?_))))))))))))))))
 cases kV;exact pb T J (.cQ (j:=1) [(uu ja),(uu gz),(uu ik),(uu jc),(uu fG),(uu jd)] J J J J J J J .nil) [0] () J J
end
noncomputable section
def Hw.f:Option Int:=some 0
theorem Hw.c (H:Hw.f=some r):
 QU 107 [(.pointer none)] [] F (uu r):=by
 unfold Hw.f at H;refine aD Tryz.func107 J J (λW=>rc T 12 (mu J (rc T 7 ?_)))
 cases H;exact p0 T J [0] J
def Hz.f (m:dM) (mG:bC):Option Int:=some m.count
theorem Hz.c (H:Hz.f m mG=some r) (sk:mQ m iS lj np) (lF:iP mG lj lI):
 QU 107 [(pp iS)] [np,lI] F (uu r):=by
 unfold Hz.f at H;refine aD Tryz.func107 J J (λW=>rc T 12 (eT J (rc T 3 ?_)));obtain⟨a5,n5,H5,s5,dy⟩:=(λx=>x) sk;refine bS 0 (congrArg some dy) (fz J (rc T 4 (lf T 2 J (ro T 4 ?_))))
 cases H;refine dw [2,2] J dy (p0 T J [2,0,0] J)
def r8.f (g:bC):Option (Option dM):=(iV.f g).bind λv1=>(qA.f v1.1 v1.2).bind λv2=>if(0<=(aa (v2.1*v2.2))/\(aa (v2.1*v2.2))<=1099511627776) then(some (some (dM.mk (List.replicate (Int.toNat (aa (v2.1*v2.2))) (default:pC)) 0 0))) else none
def r8.R (w0:Nat) (r:(Option dM)):bg:=λu G=> ∃(u0:Value) (G0:List Hp),Yp w0 r u0 G0/\u=u0/\G=G0
theorem r8.c (H:r8.f g=some r) (fM:iP g fo gr):
 QR 150 [(pp fo)] [gr] [gr] F (r8.R fo r):=by
 unfold r8.f at H;refine aD Tryz.func150 J J (λW=>rc T 12 (eT J (rc T 5 (k [0] J uK H (iV.c · fM) (λv1 H=>ro T 2 (k [] J Gy H (qA.c ·) (λv2 H=>ro T 13 ?_)))))));obtain⟨c3,H⟩:=az H;refine aX (ZD (kd:=Po) (E:=217) T (default:pC) J J J J J J J ⟨none,0,[],none,0,[],(aj.nil (k:=(Fl.int .i64)) (E:=3)),(aj.nil (k:=(Fl.int .i32)) (E:=21)),J,J⟩ c3 J (λa2 n2 H2 s2=>ro T 1 (nc T J (λb3=>ro T 4 ?_))))
 cases H;refine f_ [3,2] J (p1 T J [2,0,0] ⟨_,_,⟨b3,(List.flatten [(cl b3 213 [(pp fo),(ll a2 (List.replicate (Int.toNat (aa (v2.1*v2.2))) (default:pC)) n2),(ii 0),(uu 0)]),H2]),(show mQ (dM.mk (List.replicate (Int.toNat (aa (v2.1*v2.2))) (default:pC)) 0 0) b3 fo (List.flatten [(cl b3 213 [(pp fo),(ll a2 (List.replicate (Int.toNat (aa (v2.1*v2.2))) (default:pC)) n2),(ii 0),(uu 0)]),H2]) from⟨a2,n2,H2,s2,J⟩),J,J⟩,J,J⟩ J)
def nM.l0:Nat->dM->bC->List Int->Int->Option (List Int)
 |0,_,_,_,_=>none
 |k6+1,m,mG,x4,x5=>if x5<(List.length m.parts:Int) then(if(0<=x5/\x5<(List.length m.parts:Int)) then((qc.f mG x5).bind λv7=>if((rd m.parts x5).version !=v7)=true then(if(List.length x4+1<=1099511627776) then(nM.l0 k6 m mG (x4++[x5]) (aa (x5+1))) else none) else(nM.l0 k6 m mG x4 (aa (x5+1)))) else none) else(some x4)
def nM.f (m:dM) (mG:bC):Option (List Int):=(oC.f mG).bind λv1=>if(m.clean==v1)=true then(some []) else(nM.l0 fuel m mG [] 0)
def nM.R (r:(List Int)):bg:=λu G=> ∃a0 n0 H0,aj (Fl.int .i64) 3 r a0 n0 H0/\u=(ll a0 r n0)/\G=[H0]
theorem nM.c (H:nM.f m mG=some r) (sk:mQ m iS lj np) (lF:iP mG lj lI):
 QR 97 [(pp iS)] [np,lI] [np,lI] F (nM.R r):=by
 unfold nM.f at H;refine aD Tryz.func97 J J (λW=>rc T 7 ?_);obtain⟨a5,n5,H5,s5,dy⟩:=(λx=>x) sk;refine bS 0 (congrArg some dy) (fz J (dx mix ay ?_))
 iterate 6 refine au T J ?_
 refine aO J J J (aw T J J J J (aK (j:=2) J J)) (au T J (au T J (au T J (aO J J J (aw T J J J J (aK (j:=2) J J)) ?_))));obtain⟨v1,V1,H⟩:=gu H;refine xf [0] J J J J J J Co J (oC.c V1 lF) (au T J (au T J (dh (rx T 1 (cb J H (λH=>?_) (λH=>?_))))))
 ·refine rc T 7 ?_
  cases H;refine dw [2,2] J dy (bq (p1 T J [3,2,0,0] ⟨none,0,[],aj.nil,J,J⟩ J))
 refine rc T 13 (lf T 2 J (ro T 5 (bq (lq [0,23] [1,1,0,0] (λ(⟨k6,x4,x5,a8,n8,H8⟩:Nat×List Int×Int×Option Addr×Nat×Hp)=>(nM.l0 k6 m mG x4 x5=some r/\aj (Fl.int .i64) 3 x4 a8 n8 H8,[(3,(ll a8 x4 n8)),(24,(ii x5))],[H8])) J J (fuel,[],0,none,0,[]) [1,1,0,0,0] ⟨H,aj.nil⟩ J J ?_))));rintro k6 ⟨x4,x5,a8,n8,H8⟩ ⟨Z3,s8⟩;rw[nM.l0] at Z3;refine rc T 6 (cd J Z3 (λZ3=>?_) (λZ3=>?_))
 ·refine rc T 11 (dx mix ay (au T J (au T J (au T J (aO J J J (aw T J J J J (aK (j:=1) J J)) (au T J ?_))))));obtain⟨c5,Z3⟩:=az Z3;obtain⟨q9,o9,e9⟩:=s5.r.addr c5.1 c5.2;refine aO J J J (cC T J J J J J e9 c5.1 c5.2) (au T J ?_);obtain⟨_,w12,⟨cB,n10,dj,n11,⟨Pp,m10⟩,⟨WT,m11⟩,rfl⟩⟩:=kU.view s5.r c5;refine aO J J J (aw T J J J J (CH (j:=3) J w12 e9 0 J)) (au T J (au T J (au T J (aO J J J (aw T J J J J (aK (j:=1) J J)) (au T J ?_)))));obtain⟨v7,V6,Z3⟩:=gu Z3;refine xf [2] J J J J J J Cp J (qc.c V6 lF) (au T J (dh (rx T 1 (cb J Z3 (λZ3=>?_) (λZ3=>?_)))))
  ·refine rc T 3 (aX (cY (k:=(Fl.int .i64)) T [x5] J J J J J J J J J (λdK dV dm=>?_)));obtain⟨c8,Z3⟩:=az Z3;refine aX (dW (k:=(Fl.int .i64)) (xs:=x4) T (g:=4) J J J J J J J J J J s8 (oO dm 5) c8 J (λje n14 fX gF=>ro T 9 (ar (_,_,_,_,_) [0,0,0,0,0] ⟨Z3,gF⟩ J J)))
  refine rc T 8 (ar (_,_,_,_,_) [0,0,0,0,0] ⟨Z3,s8⟩ J J)
 refine rc T 12 ?_
 cases Z3;refine dw [1,2] J dy (p1 T J [2,2,1,0] ⟨a8,n8,H8,s8,J,J⟩ J)
def jy.l1:Nat->Int->List Int->((List Int)×Int)->List Int->Int->Option pC
 |0,_,_,_,_,_=>none
 |G9+1,x3,x4,fP,dH,cg=>if cg<(List.length fP.1:Int) then(if(0<=cg/\cg<(List.length fP.1:Int)) then(if(0<=cg/\cg<(List.length dH:Int)) then(if((rd fP.1 cg)!=1099511627776)=true then(if(0<=cg/\cg<(List.length (List.set dH (Int.toNat cg) (-1)):Int)) then(jy.l1 G9 x3 x4 fP (List.set (List.set dH (Int.toNat cg) (-1)) (Int.toNat cg) (IntKind.i32.wrap (rd fP.1 cg))) (aa (cg+1))) else none) else(jy.l1 G9 x3 x4 fP (List.set dH (Int.toNat cg) (-1)) (aa (cg+1)))) else none) else none) else(some (pC.mk x3 x4 dH))
def jy.l0:Nat->(Int×Int)->(aL×Bool)->Int->List Int->List Int->Int->Option pC
 |0,_,_,_,_,_,_=>none
 |zo+1,v1,v2,x3,x4,bc,bY=>if bY<(List.length x4:Int) then(if(0<=bY/\bY<(List.length x4:Int)) then((ry.f v1.1 v1.2 (rd x4 bY)).bind λv17=>if(List.length bc+1<=1099511627776) then(jy.l0 zo v1 v2 x3 x4 (bc++[v17]) (aa (bY+1))) else none) else none) else((jR.f v2.1 bc).bind λfP=>if(0<=(List.length fP.1:Int)/\(List.length fP.1:Int)<=1099511627776) then(jy.l1 fuel x3 x4 fP (List.replicate (Int.toNat (List.length fP.1:Int)) (0:Int)) 0) else none)
def jy.f (m:dM) (bI:Int) (mG:bC):Option pC:=(iV.f mG).bind λv1=>(l_.f mG bI).bind λv2=>((qc.f mG bI).bind λv7=>(j6.f mG bI).bind λv8=>some (v7,v8,([]:List Int))).bind λ(x3,x4,x5)=>jy.l0 fuel v1 v2 x3 x4 [] 0
def jy.R (r:pC):bg:=λu G=> ∃a0 n0 H0 a1 n1 H1,aj (Fl.int .i64) 3 r.nodes a0 n0 H0/\aj (Fl.int .i32) 21 r.aQ a1 n1 H1/\u=(.agg #[(ii r.version),(ll a0 r.nodes n0),(ll a1 r.aQ n1)])/\G=[H0,H1]
theorem jy.c (H:jy.f m bI mG=some r) (sk:mQ m iS lj np) (lF:iP mG lj lI):
 QR 211 [(pp iS),(ii bI)] [np,lI] [np,lI] F (jy.R r):=by
 unfold jy.f at H;refine aD Tryz.func211 J J (λW=>rc T 2 (nc T J (λb3=>ro T 3 ?_)));obtain⟨a6,n6,H6,s6,lr⟩:=(λx=>x) sk;refine bS 0 (congrArg some lr) (fz J (rc T 4 (lf T 3 J (k [0] J uK H (iV.c · lF) (λv1 H=>ro T 12 (lf T 3 J (ro T 1 (kr l_.R [0] [0] J Tg H (l_.c · lF) (λv2 H=>?_)))))))));rintro _ _ ⟨a7,n7,H7,s7,rfl,rfl⟩;refine fz J (ro T 3 (nc T J (λb8=>sg T 6 J (ro T 3 (mq H [4,5,6,7] [0,0,4,2,0,1,0] (λz6 (⟨x3,x4,x5,b9,cB,n10,b_,dj,n11,cz⟩:Int×List Int×List Int×Nat×Option Addr×Nat×Hp×Option Addr×Nat×Hp)=>((x3,x4,x5)=z6/\aj (Fl.int .i64) 3 x4 cB n10 b_/\aj (Fl.int .i32) 21 x5 dj n11 cz,[(9,(pp b9))],[(cl b9 217 [(ii x3),(ll cB x4 n10),(ll dj x5 n11)]),b_,cz])) J J (λz6 Z3 _=>?_) ?_)))))
 ·refine ks [0,1,4,5,6,7] J (fz J (rz [] mix (bO bN) (λhg pf=>ha T 12 [0,1,2] sz hg pf J (av 3 sz hg pf J (aw T J J J J (aK (j:=2) J J)) (ha T 7 [4,6,7,8] sz hg pf J (av 9 sz hg pf J (aw T J J J J (aK (j:=2) J J)) (ha T 5 [10] sz hg pf J (gK 5 13 ?_ ?_))))))))
  ·refine kh [5] J Cp Z3 (qc.c · lF) (λv7 Z3=>an sz (gK 11 13 ?_ ?_))
   ·refine kR j6.R [5] [5] J J4 Z3 (j6.c · lF) (λv8 Z3=>?_);rintro _ _ ⟨a12,n12,dq,dz,rfl,rfl⟩;refine fz J (an (so [0,0,0,0,0,2,0]) (ha T 2 [12] (so [0,0,0,0,0,2,0]) hg pf J (ao 13 (nw T J (λb13=>an (so [0,0,0,0,0,2,0]) (ao 14 (sf T 8 J (an (so [0,0,0,0,0,2,0]) (ae (rx T 1 (bq (am (_,_,_,_,_,_,_,_,_,_) [0,0,3,2,0,2,0,1,0,0] ⟨oi Z3,dz,aj.nil⟩ J J))))))))))))
   refine nw T J (λJr=>an (so [0,0,0,0,0,0,0]) (ao 11 (kR j6.R [5] [5] J J4 Z3 (j6.c · lF) (λv9 Z3=>?_))));rintro _ _ ⟨jS,n15,dI,dP,rfl,rfl⟩;refine fz J (an (so [0,0,0,0,0,3,0]) (ha T 1 [12] (so [0,0,0,0,0,3,0]) hg pf J (ao 14 (sf T 6 J (an (so [0,0,0,0,0,3,0]) (ae (rx T 1 (bq (am (_,_,_,_,_,_,_,_,_,_) [0,0,3,2,0,3,0,0,0,0] ⟨oi Z3,dP,aj.nil⟩ J J)))))))))
  refine nw T J (λqI=>an (so [0,0,0,0,0,0,0]) (ao 5 (kh [5] J Cp Z3 (qc.c · lF) (λv10 Z3=>an (so [0,0,0,0,0,0,0]) (ao 11 (kR j6.R [5] [5] J J4 Z3 (j6.c · lF) (λv11 Z3=>?_)))))));rintro _ _ ⟨a17,n17,eH,fq,rfl,rfl⟩;refine fz J (an (so [0,0,0,0,0,3,0]) (ha T 1 [12] (so [0,0,0,0,0,3,0]) hg pf J (ao 14 (sf T 6 J (an (so [0,0,0,0,0,3,0]) (ae (rx T 1 (bq (am (_,_,_,_,_,_,_,_,_,_) [0,0,3,2,0,3,0,0,0,0] ⟨oi Z3,fq,aj.nil⟩ J J)))))))))
 rintro _ ⟨x3,x4,x5,b9,cB,n10,b_,dj,n11,cz⟩ ⟨rfl,bP,c_⟩ H;refine rc T 9 (lf T 7 J (ro T 5 (bq (lq [4,5,6,7,9,48,49] [0,0,0,0,3,3,3,0,0,0] (λ(⟨zo,bc,bY,kW,n19,kT⟩:Nat×List Int×Int×Option Addr×Nat×Hp)=>(jy.l0 zo v1 v2 x3 x4 bc bY=some r/\aj (Fl.int .i64) 3 bc kW n19 kT,[(10,(ll kW bc n19)),(50,(ii bY))],[kT])) J J (fuel,[],0,none,0,[]) [0,0,0,0,3,3,3,0,0,0,0] ⟨H,aj.nil⟩ J J ?_))));rintro zo ⟨bc,bY,kW,n19,kT⟩ ⟨Z9,ie⟩;rw[jy.l0] at Z9;refine rc T 6 (cd J Z9 (λZ9=>?_) (λZ9=>?_))
 ·refine rc T 6 ?_;obtain⟨eJ,Z9⟩:=az Z9;obtain⟨q20,o20,AF⟩:=bP.r.addr eJ.1 eJ.2;refine ix T J AF eJ (le T 0 (oO bP 5) AF eJ J J (ro T 8 (k [] J Gu Z9 (ry.c ·) (λv17 Z9=>aX (cY (k:=(Fl.int .i64)) T [v17] J J J J J J J J J (λa21 kq jC=>?_))))));obtain⟨jr,Z9⟩:=az Z9;refine aX (dW (k:=(Fl.int .i64)) (xs:=bc) T (g:=10) J J J J J J J J J J ie (oO jC 11) jr J (λa22 n22 lX iz=>ro T 9 (ar (_,_,_,_,_) [0,0,0,0,0,0,0,0,0,0,0] ⟨Z9,iz⟩ J J)))
 refine rc T 7 (lm T 2 J (ro T 1 (kr jR.R [] [] J adQ Z9 (jR.c · (oO s7 3) s7.bT (oO ie 10) ie.bT) (λfP Z9=>?_))));rintro _ _ ⟨a23,n23,jE,gG,rfl,rfl⟩;refine fz J (ro T 11 ?_);obtain⟨yM,Z9⟩:=az Z9;refine aX (yE (k:=(Fl.int .i32)) T (0:Int) J J J J J J J J yM J (λa24 n24 rG mf=>ro T 1 (sg T 4 J (ro T 11 (lq [4,9,72,73] [0,0,3,8,4,4,4] (λ(⟨G9,dH,cg,a26,n26,ot⟩:Nat×List Int×Int×Option Addr×Nat×Hp)=>(jy.l1 G9 x3 x4 fP dH cg=some r/\aj (Fl.int .i32) 21 dH a26 n26 ot,[(74,(ii cg))],[(cl b9 217 [(ii x3),(ll cB x4 n10),(ll a26 dH n26)]),ot])) J J (fuel,(List.replicate (Int.toNat (List.length fP.1:Int)) (0:Int)),0,a24,n24,rG) [0,0,3,8,4,4,4,2,4] ⟨Z9,mf⟩ J J ?_)))));rintro G9 ⟨dH,cg,a26,n26,ot⟩ ⟨pV,mL⟩;rw[jy.l1] at pV;refine rc T 6 (cd J pV (λpV=>?_) (λpV=>?_))
 ·refine rc T 7 ?_;obtain⟨lM,pV⟩:=az pV;obtain⟨HO,o27,Ch⟩:=gG.r.addr lM.1 lM.2;refine ix T J Ch lM (le T 0 (oO gG 3) Ch lM J J (ro T 7 (lf T 7 J (ro T 1 ?_))));obtain⟨Av,pV⟩:=az pV;obtain⟨q28,o28,JB⟩:=mL.r.addr Av.1 Av.2;refine ix T J JB Av (aX (kX (k:=(Fl.int .i32)) T 8 0 (-1) J J J J J J mL JB Av J J J (λqF pI=>kg [4,9,15,16,72,73,74] [0,0,0,0,0,0,0,1] [0,0,0,0,0,0,0,1,0] [] [(cl b9 217 [(ii x3),(ll cB x4 n10),(ll a26 (List.set dH (Int.toNat cg) (-1)) n26)])] J J trivial dJ (ro T 8 (cb J pV (λpV=>?_) (λpV=>?_))))))
  ·refine rc T 2 (lf T 8 J (ro T 3 ?_));obtain⟨kB,pV⟩:=az pV;refine ix T J JB kB (aX (kX (k:=(Fl.int .i32)) T 7 0 (IntKind.i32.wrap (rd fP.1 cg)) J J J J J J pI JB kB J J J (λrH pJ=>kg [4,9,72,73,74] [0,0,0,0,0,0,0,0] [0,0,0,0,0,0,0,0,0] [] [(cl b9 217 [(ii x3),(ll cB x4 n10),(ll a26 (List.set (List.set dH (Int.toNat cg) (-1)) (Int.toNat cg) (IntKind.i32.wrap (rd fP.1 cg))) n26)])] J J trivial dJ (ro T 8 (ar (_,_,_,_,_) [0,0,0,0,0,0,0,1,0] ⟨pV,pJ⟩ J J)))))
  refine rc T 8 (ar (_,_,_,_,_) [0,0,0,0,0,0,0,1,0] ⟨pV,pI⟩ J J)
 refine rc T 7 (lm T 7 J (sg T 1 J (ro T 3 ?_)))
 cases pV;refine dw [4,5] J lr (pb T J (.cQ (j:=1) [(ii x3),(ll cB x4 n10),(ll a26 dH n26)] J J J J J J J .nil) [2,5,5,3,0] ⟨(_,_),cB,n10,b_,a26,n26,ot,bP,mL,J,J⟩ J J)
def nO.l0:Nat->bC->(List Int)->dM->Int->Option (Int×dM)
 |0,_,_,_,_=>none
 |k6+1,mG,v1,x4,x5=>if x5<(List.length v1:Int) then(if(0<=x5/\x5<(List.length v1:Int)) then((jy.f x4 (rd v1 x5) mG).bind λv7=>if(0<=(rd v1 x5)/\(rd v1 x5)<(List.length x4.parts:Int)) then((sv.f x4.count 1).bind λv8=>nO.l0 k6 mG v1 (dM.mk (List.set x4.parts (Int.toNat (rd v1 x5)) v7) x4.clean v8) (aa (x5+1))) else none) else none) else((oC.f mG).bind λv9=>some ((List.length v1:Int),(dM.mk x4.parts v9 x4.count)))
def nO.f (m:dM) (mG:bC):Option (Int×dM):=(nM.f m mG).bind λv1=>nO.l0 fuel mG v1 m 0
def nO.R (aa3:Nat) (af7:Nat) (r:(Int×dM)):bg:=λu G=> ∃(H0:Hp),mQ r.2 aa3 af7 H0/\u=(ii r.1)/\G=[H0]
theorem nO.c (H:nO.f m mG=some r) (sk:mQ m iS lj np) (lF:iP mG lj lI):
 QR 181 [(pp iS)] [np,lI] [lI] F (nO.R iS lj r):=by
 unfold nO.f at H;refine aD Tryz.func181 J J (λW=>rc T 12 (eT J (rc T 5 (kr nM.R [0,0] [0,0] J aeO H (nM.c · sk lF) (λv1 H=>?_)))));rintro _ _ ⟨a3,n3,H3,s3,rfl,rfl⟩;refine fz J (ro T 12 (lq [0,3,10,11] [0,2,0] (λ(⟨k6,x4,x5,H5⟩:Nat×dM×Int×Hp)=>(nO.l0 k6 mG v1 x4 x5=some r/\mQ x4 iS lj H5,[(12,(ii x5))],[H5])) J J (fuel,m,0,np) [0,2,0,0] ⟨H,sk⟩ J J ?_));rintro k6 ⟨x4,x5,H5⟩ ⟨Z2,s5⟩;rw[nO.l0] at Z2;refine rc T 6 (cd J Z2 (λZ2=>?_) (λZ2=>?_))
 ·refine rc T 6 ?_;obtain⟨c4,Z2⟩:=az Z2;obtain⟨q6,o6,e6⟩:=s3.r.addr c4.1 c4.2;refine ix T J e6 c4 (le T 0 (oO s3 2) e6 c4 J J (ro T 4 ?_));obtain⟨a9,n9,H9,s9,rT⟩:=(λx=>x) s5;refine bS 3 (congrArg some rT) (fz J (fz J (rz [9] mix (bO bN) (λhg pf=>ha T 7 [0,1,2] sz hg pf J (av 3 sz hg pf J (aw T J J J J (aK (j:=3) J J)) (ha T 3 [4,5,6] sz hg pf J (ao 7 ?_)))))));obtain⟨v7,V5,Z2⟩:=gu Z2;refine FW (As:=[(cl iS 213 [(pp lj),(ll a9 x4.parts n9),(ii x4.clean),(uu x4.count)]),H9,lI]) (jy.R v7) [(cl iS 213 [(pp lj),(ll a9 x4.parts n9),(ii x4.clean),(uu x4.count)]),H9,lI] [3,3,1] J J J J adx J J (Jz (A:=[H5,lI]) (A2:=[H5,lI]) (by simp only[rT,List.flatten_cons,List.flatten_append,List.flatten_nil,List.append_nil,List.append_assoc]) (by simp only[rT,List.flatten_cons,List.flatten_append,List.flatten_nil,List.append_nil,List.append_assoc]) (jy.c V5 s5 lF)) ?_
  rintro _ _ ⟨cB,n10,b_,dj,n11,cz,bP,c_,rfl,rfl⟩;refine fz J (an (so [0,5,0,2,2]) ?_);obtain⟨c6,Z2⟩:=az Z2;obtain⟨wo,Pd,sV⟩:=s9.r.addr c6.1 c6.2;refine av 8 (so [0,5,0,2,2]) hg pf J (cC T J J J J J sV c6.1 c6.2) (ao 9 (Mn (j:=5) J s9 c6 (λ_ _ dI o15 dP=>?_)));obtain⟨dK,n13,dV,je,n14,fX,dm,gF,rfl,rfl⟩:=o15;refine Mq (Mo T 5 0 [(ii v7.version),(ll cB v7.nodes n10),(ll dj v7.aQ n11)] J J J J J J dP sV J J J J (λfY fU=>an sl (ae (f_ [2,2] J (Mm (j:=3) (q:=7) v7 J fU J J ⟨cB,n10,b_,dj,n11,cz,bP,c_,J,J⟩ (λft fF=>kg [0,3,10,11,12] [0,0,1,1] [0,0,1,1,0] [] [(cl iS 213 [(pp lj),(ll a9 (List.set x4.parts (Int.toNat (rd v1 x5)) v7) n9),(ii x4.clean),(uu x4.count)])] J J trivial dJ (rx T 6 (lf T 4 J (k [] J J1 Z2 (sv.c ·) (λv8 Z2=>ro T 2 (sg T 4 J (ro T 8 (f_ [4,2] J (ar (_,_,_) [0,1,0,0] ⟨Z2,(show mQ (dM.mk (List.set x4.parts (Int.toNat (rd v1 x5)) v7) x4.clean v8) iS lj (List.flatten [(cl iS 213 [(pp lj),(ll a9 (List.set x4.parts (Int.toNat (rd v1 x5)) v7) n9),(ii x4.clean),(uu v8)]),ft]) from⟨a9,n9,ft,fF,J⟩)⟩ J J))))))))))))))
 refine rc T 6 ?_;obtain⟨a21,n21,kq,jC,Gl⟩:=(λx=>x) s5;refine bS 3 (congrArg some Gl) (fz J (rc T 5 (lf T 3 J (k [1] J Co Z2 (oC.c · lF) (λv9 Z2=>ro T 2 (sg T 3 J (ro T 10 ?_)))))))
 cases Z2;refine f_ [3,3] J (p1 T J [3,1,0] ⟨(List.flatten [(cl iS 213 [(pp lj),(ll a21 x4.parts n21),(ii v9),(uu x4.count)]),kq]),(show mQ (dM.mk x4.parts v9 x4.count) iS lj (List.flatten [(cl iS 213 [(pp lj),(ll a21 x4.parts n21),(ii v9),(uu x4.count)]),kq]) from⟨a21,n21,kq,jC,J⟩),J,J⟩ J)
def xJ.f (m:dM) (bI:Int) (mG:bC):Option (List Int):=(if bI<0 then(some true) else(some (decide (bI≥(List.length m.parts:Int))))).bind λx1=>if x1=true then(some []) else(if(0<=bI/\bI<(List.length m.parts:Int)) then((qw.f ((rd m.parts bI).nodes)).bind λv3=>some v3) else none)
def xJ.R (r:(List Int)):bg:=λu G=> ∃a0 n0 H0,aj (Fl.int .i64) 3 r a0 n0 H0/\u=(ll a0 r n0)/\G=[H0]
theorem xJ.c (H:xJ.f m bI mG=some r) (sk:mQ m iS lj np) (lF:iP mG lj lI):
 QR 215 [(pp iS),(ii bI)] [np,lI] [np,lI] F (xJ.R r):=by
 unfold xJ.f at H;refine aD Tryz.func215 J J (λW=>rc T 6 (mq H [0,1] [2,0,0] (λz2 (x1:Bool)=>(x1=z2,[(19,(bb x1))],[])) J J (λz2 Z1 _=>?_) ?_))
 ·obtain⟨a5,n5,H5,s5,dy⟩:=(λx=>x) sk;refine bS 0 (congrArg some dy) (fz J (rc T 8 (ad 11 J Z1 (λZ1=>?_) (λZ1=>?_))))
  ·refine ro T 10 (dw [2,2] J dy (am _ [1,1,0] (oi Z1) J J))
  refine ro T 4 (lf T 2 J (ro T 5 (dw [2,2] J dy (am _ [1,1,0] (oi Z1) J J))))
 rintro _ x1 rfl H;refine cb J H (λH=>?_) (λH=>?_)
 ·refine rc T 7 ?_
  cases H;refine bq (p1 T J [3,1,1,0] ⟨none,0,[],aj.nil,J,J⟩ J)
 refine rc T 3 ?_;obtain⟨a9,n9,H9,s9,rT⟩:=(λx=>x) sk;refine bS 1 (congrArg some rT) (fz J (rc T 4 (lf T 2 J (ro T 1 ?_))));obtain⟨c4,H⟩:=az H;obtain⟨Ld,K5,p8⟩:=s9.r.addr c4.1 c4.2;refine ix T J p8 c4 (ro T 1 ?_);obtain⟨_,w13,⟨dj,n11,a12,n12,⟨WT,m11⟩,⟨r12,m12⟩,rfl⟩⟩:=kU.view s9.r c4;refine lg T J (CH (j:=3) J w13 p8 1 J) (kr qw.R [] [] J NJ H (qw.c · (rO WT 3) m11) (λv3 H=>?_));rintro _ _ ⟨je,n14,fX,gF,rfl,rfl⟩;refine fz J (ro T 4 ?_)
 cases H;refine dw [2,2] J rT (p1 T J [2,2,1,0] ⟨je,n14,fX,gF,J,J⟩ J)
def EM.f (p:pC) (cell:Int):Option (Int×Bool):=(oR.f p.nodes cell).bind λv1=>some (v1.1,v1.2)
theorem EM.c (H:EM.f p cell=some r) (KR:BP Mx Pe [(ii p.version),(ll Md p.nodes OY),(ll Mc p.aQ OX)] F) (S6:aP (Fl.int .i64) p.nodes Md F) (Rl:List.length p.nodes<=OY) (Nu:aP (Fl.int .i32) p.aQ Mc F) (aaV:List.length p.aQ<=OX):
 QU 272 [(.pointer (some ⟨Mx,Pe+0,none⟩)),(ii cell)] [] F (.tuple #[(ii r.1),(bb r.2)]):=by
 unfold EM.f at H;refine aD Tryz.func272 J J (λW=>rc T 11 (lg T J (OA KR (j:=0) J 1 J) (ro T 1 (k [] J aec H (oR.c · (rO S6 0) Rl) (λv1 H=>ro T 7 ?_)))))
 cases H;exact p0 T J [0] J
def tq.f (m:dM) (cell:Int) (mG:bC):Option ((Option Int)×Int×Bool):=(iV.f mG).bind λv1=>(gR.f v1.1 v1.2 cell).bind λv2=>if v2<0 then(some (none,0,false)) else(if(0<=v2/\v2<(List.length m.parts:Int)) then((EM.f (rd m.parts v2) cell).bind λv3=>some ((some v2),v3.1,v3.2)) else none)
def tq.R (xa0:Option Addr) (xl0:Nat) (r:((Option Int)×Int×Bool)):bg:=λu G=> ∃(u0:Value),Yz r.1 xa0 xl0 3 u0/\u=(.tuple #[u0,(ii r.2.1),(bb r.2.2)])/\G=[]
theorem tq.c (H:tq.f m cell mG=some r) (Xd:fI Po 217 m.parts L_ VF Ql) (lF:iP mG lj lI):
 QR 243 [(pp iS),(ii cell)] [(cl iS 213 [(pp lj),(ll L_ m.parts VF),(ii m.clean),(uu m.count)]),Ql,lI] [(cl iS 213 [(pp lj),(ll L_ m.parts VF),(ii m.clean),(uu m.count)]),Ql,lI] F (tq.R L_ (List.length m.parts) r):=by
 unfold tq.f at H;refine aD Tryz.func243 J J (λW=>rc T 14 (eT J (rc T 7 (lf T 0 J (k [2] J uK H (iV.c · lF) (λv1 H=>ro T 12 (k [] J rU H (gR.c ·) (λv2 H=>ro T 10 (cd J H (λH=>?_) (λH=>?_))))))))))
 ·refine rc T 9 ?_
  cases H;exact p1 T J [0,0,0,0] ⟨_,J,J,J⟩ J
 refine rc T 7 (lf T 0 J (ro T 1 ?_));obtain⟨c4,H⟩:=az H;obtain⟨q4,o4,e4⟩:=Xd.r.addr c4.1 c4.2;refine ix T J e4 c4 (ro T 7 ?_);obtain⟨_,w7,⟨a5,n5,a6,n6,⟨r5,m5⟩,⟨r6,m6⟩,rfl⟩⟩:=kU.view Xd.r c4;refine k [] J ad7 H (EM.c · (Q2 w7 e4 (j:=1) J) (rO r5 1) m5 (rO r6 1) m6) (λv3 H=>ro T 18 ?_)
 cases H;exact p1 T J [0,0,0,0] ⟨_,⟨c4,q4,o4,e4,J⟩,J,J⟩ J
def CV.f (p:pC) (i:Int) (j:Int):Option Int:=if(0<=(aa ((aa (i*(List.length p.nodes:Int)))+j))/\(aa ((aa (i*(List.length p.nodes:Int)))+j))<(List.length p.aQ:Int)) then(if((rd p.aQ (aa ((aa (i*(List.length p.nodes:Int)))+j)))!=(-1))=true then(some (aa (rd p.aQ (aa ((aa (i*(List.length p.nodes:Int)))+j))))) else(some 1099511627776)) else none
theorem CV.c (H:CV.f p i j=some r) (KR:BP Mx Pe [(ii p.version),(ll Md p.nodes OY),(ll Mc p.aQ OX)] F) (S6:aP (Fl.int .i64) p.nodes Md F) (Rl:List.length p.nodes<=OY) (Nu:aP (Fl.int .i32) p.aQ Mc F) (aaV:List.length p.aQ<=OX):
 QU 244 [(.pointer (some ⟨Mx,Pe+0,none⟩)),(ii i),(ii j)] [] F (ii r):=by
 unfold CV.f at H;refine aD Tryz.func244 J J (λW=>rc T 7 (dx mix ay (au T J (au T J (au T J (aO J J J (aw T J J J J (OA KR (j:=0) J 2 J)) ?_))))))
 iterate 4 refine au T J ?_
 refine aO J J J (aw T J J J J (OA KR (j:=0) J 1 J)) ?_
 iterate 4 refine au T J ?_
 obtain⟨c1,H⟩:=az H;obtain⟨q1,o1,e1⟩:=Nu.addr c1.1 c1.2;refine aO J J J (cC T J J J J J e1 c1.1 c1.2) (aO J J J (aw T J J J J (g_ (k:=(Fl.int .i32)) (rO Nu 0) e1 c1 0 J)) (au T J (dh (rx T 7 (cb J H (λH=>?_) (λH=>?_))))))
 ·refine rc T 9 ?_
  cases H;exact p0 T J [0] J
 refine rc T 8 ?_
 cases H;exact p0 T J [0] J
def hJ.l1:Nat->dM->Int->bC->Int->(Int×Int)->List eB->Int->Option (List eB)
 |0,_,_,_,_,_,_,_=>none
 |lP+1,m,b,mG,fm,v10,aU,bc=>if bc<=3 then((mj.f v10.1 v10.2 b bc).bind λeG=>(tq.f m eG mG).bind λv17=>cT v17.1 (if v17.2.2=true then((iU.f mG b).bind λfP=>if(List.length aU+1<=1099511627776) then(hJ.l1 lP m b mG fm v10 (aU++[(eB.mk eG fP)]) (aa (bc+1))) else none) else(hJ.l1 lP m b mG fm v10 aU (aa (bc+1)))) (λX4=>if v17.2.2=true then(if(!(X4==fm))=true then((iU.f mG b).bind λoe=>if(List.length aU+1<=1099511627776) then(hJ.l1 lP m b mG fm v10 (aU++[(eB.mk eG oe)]) (aa (bc+1))) else none) else(hJ.l1 lP m b mG fm v10 aU (aa (bc+1)))) else(hJ.l1 lP m b mG fm v10 aU (aa (bc+1))))) else(some aU)
def hJ.l0:Nat->dM->Int->bC->((Option Int)×Int×Bool)->Int->List eB->Int->Option (List eB)
 |0,_,_,_,_,_,_,_=>none
 |k6+1,m,b,mG,v1,fm,x4,x5=>if x5<(List.length ((rd m.parts fm).nodes):Int) then((if(0<=x5/\x5<(List.length ((rd m.parts fm).nodes):Int)) then((CV.f (rd m.parts fm) x5 v1.2.1).bind λv9=>if((x5 !=v1.2.1)&&(v9 !=1099511627776))=true then(if(List.length x4+1<=1099511627776) then(some (x4++[(eB.mk (rd ((rd m.parts fm).nodes) x5) v9)])) else none) else(some x4)) else none).bind λx7=>hJ.l0 k6 m b mG v1 fm x7 (aa (x5+1))) else((iV.f mG).bind λv10=>hJ.l1 fuel m b mG fm v10 x4 0)
def hJ.f (m:dM) (b:Int) (mG:bC):Option (List eB):=(tq.f m b mG).bind λv1=>cT v1.1 (if(!v1.2.2)=true then(some []) else(none)) (λfm=>if(!v1.2.2)=true then(some []) else(if(0<=(0:Int)/\(0:Int)<=(aa ((List.length ((rd m.parts fm).nodes):Int)+1))/\(aa ((List.length ((rd m.parts fm).nodes):Int)+1))<=1099511627776) then(hJ.l0 fuel m b mG v1 fm (List.replicate (Int.toNat 0) (default:eB)) 0) else none))
def hJ.R (r:(List eB)):bg:=λu G=> ∃a0 n0 H0,aj pA 283 r a0 n0 H0/\u=(ll a0 r n0)/\G=[H0]
theorem hJ.c (H:hJ.f m b mG=some r) (sk:mQ m iS lj np) (lF:iP mG lj lI):
 QR 219 [(pp iS),(ii b)] [np,lI] [np,lI] F (hJ.R r):=by
 unfold hJ.f at H;refine aD Tryz.func219 J J (λW=>rc T 6 ?_);obtain⟨a5,n5,H5,s5,dy⟩:=(λx=>x) sk;refine bS 0 (congrArg some dy) (fz J (rc T 3 (kr (tq.R a5 (List.length m.parts)) [2,2,0] [2,2,0] J TL H (tq.c · s5 lF) (λv1 H=>?_))));rintro _ _ ⟨_,X2,rfl,rfl⟩;refine fz J ?_;rcases Kz:v1.1 with _ |fm
 ·replace H:=eW Kz H;rw[Kz] at X2;obtain rfl:=X2;refine ro T 16 (cb J H (λH=>?_) (λH=>?_))
  ·refine rc T 7 ?_
   cases H;refine dw [1,1] J dy (bq (p1 T J [3,2,1,0] ⟨none,0,[],aj.nil,J,J⟩ J))
  refine rc T 5 ?_
  cases H
 replace H:=eX Kz H;rw[Kz] at X2;obtain⟨Ni,q6,o6,e6,rfl⟩:=X2;refine ro T 16 (cb J H (λH=>?_) (λH=>?_))
 ·refine rc T 7 ?_
  cases H;refine dw [1,1] J dy (bq (p1 T J [3,2,1,0] ⟨none,0,[],aj.nil,J,J⟩ J))
 refine rc T 7 ?_;obtain⟨_,XW,⟨a9,n9,cB,n10,⟨r9,m9⟩,⟨Pp,m10⟩,rfl⟩⟩:=kU.view s5.r Ni;refine lg T J (CH (j:=2) J XW e6 1 J) (ro T 2 ?_);obtain⟨c5,H⟩:=az H;refine aX (ZM (k:=pA) T (default:eB) J J J J J J J J c5 J (λa12 n12 dq dz=>ro T 9 (lg T J (CH (j:=2) J XW e6 1 J) (ro T 5 (lq [0,1,5,6,38,39] [0,0,1,0] (λ(⟨k6,x4,x5,je,n14,fX⟩:Nat×List eB×Int×Option Addr×Nat×Hp)=>(hJ.l0 k6 m b mG v1 fm x4 x5=some r/\aj pA 283 x4 je n14 fX,[(8,(ll je x4 n14)),(40,(ii x5))],[fX])) J J (fuel,(List.replicate (Int.toNat 0) (default:eB)),0,a12,n12,dq) [0,0,1,0,0] ⟨H,dz⟩ J J ?_)))));rintro k6 ⟨x4,x5,je,n14,fX⟩ ⟨Z6,gF⟩;rw[hJ.l0] at Z6;refine rc T 6 (cd J Z6 (λZ6=>?_) (λZ6=>?_))
 ·refine rc T 2 (mq Z6 [0,1,5,6,38,39,40] [0,0,0,0] (λz8 (⟨x7,jS,n15,dI⟩:List eB×Option Addr×Nat×Hp)=>(x7=z8/\aj pA 283 x7 jS n15 dI,[(8,(ll jS x7 n15))],[dI])) J J (λz8 Z8 _=>?_) ?_)
  ·refine rc T 4 ?_;obtain⟨c9,Z8⟩:=az Z8;obtain⟨q16,o16,F_⟩:=r9.addr c9.1 c9.2;refine ix T J F_ c9 (le T 0 (rO r9 3) F_ c9 J J (ro T 9 ?_));obtain⟨_,w19,⟨a17,n17,jo,n18,⟨r17,m17⟩,⟨r18,m18⟩,rfl⟩⟩:=kU.view s5.r Ni;refine k [] J adU Z8 (CV.c · (Q2 w19 e6 (j:=3) J) (rO r17 3) m17 (rO r18 3) m18) (λv9 Z8=>ro T 9 (ga T [4,5,6] 52 [0,1,5,6,8,10,11,38,39,40] 55 J J J J J J J (ro T 2 (cb J Z8 (λZ8=>?_) (λZ8=>?_)))))
   ·refine rc T 5 (aX (cY (k:=pA) T [(eB.mk (rd ((rd m.parts fm).nodes) x5) v9)] J J J J J J J J J (λa20 oq me=>?_)));obtain⟨ir,Z8⟩:=az Z8;refine aX (dW (k:=pA) (xs:=x4) T (g:=4) J J J J J J J J J J gF (oO me 5) ir J (λa21 n21 kq jC=>ro T 4 (am (_,_,_,_) [0,0,0,0,0] ⟨oi Z8,jC⟩ J J)))
   refine rc T 3 (am (_,_,_,_) [0,0,0,0,0] ⟨oi Z8,gF⟩ J J)
  rintro _ ⟨x7,jS,n15,dI⟩ ⟨rfl,dP⟩ Z6;refine rc T 5 (ar (_,_,_,_,_) [0,0,0,0,0] ⟨Z6,dP⟩ J J)
 refine rc T 10 (lf T 1 J (k [2] J uK Z6 (iV.c · lF) (λv10 Z6=>ro T 14 (lq [0,1,5,12,13] [0,0,0,0] (λ(⟨lP,aU,bc,a23,n23,jE⟩:Nat×List eB×Int×Option Addr×Nat×Hp)=>(hJ.l1 lP m b mG fm v10 aU bc=some r/\aj pA 283 aU a23 n23 jE,[(8,(ll a23 aU n23)),(14,(ii bc))],[jE])) J J (fuel,x4,0,je,n14,fX) [0,0,0,0,0] ⟨Z6,gF⟩ J J ?_))));rintro lP ⟨aU,bc,a23,n23,jE⟩ ⟨cn,gG⟩;rw[hJ.l1] at cn;refine rc T 7 (cd J cn (λcn=>?_) (λcn=>?_))
 ·refine rc T 10 (k [] J AN cn (mj.c ·) (λeG cn=>ro T 7 (kr (tq.R a5 (List.length m.parts)) [1,2,1] [1,2,1] J TL cn (tq.c · s5 lF) (λv17 cn=>?_))));rintro _ _ ⟨_,Jc,rfl,rfl⟩;refine fz J ?_;rcases KB:v17.1 with _ |X4
  ·replace cn:=eW KB cn;rw[KB] at Jc;obtain rfl:=Jc;refine ro T 13 (ab 88 J cn (λcn=>?_) (λcn=>?_))
   ·refine ro T 2 (br J (acg T J J J J) (ro T 3 (mu J (rc T 6 (lf T 2 J (ro T 1 (k [4] J vO cn (iU.c · lF) (λfP cn=>ro T 1 (aX (cY (k:=pA) T [(eB.mk eG fP)] J J J J J J J J J (λa25 gV jh=>?_)))))))))));obtain⟨kB,cn⟩:=az cn;refine aX (dW (k:=pA) (xs:=aU) T (g:=1) J J J J J J J J J J gG (oO jh 5) kB J (λa26 n26 ot mL=>ro T 10 (ar (_,_,_,_,_) [0,1,2,1,0] ⟨cn,mL⟩ J J)))
   refine ro T 6 (eT J (rc T 9 (ar (_,_,_,_,_) [0,1,2,1,0] ⟨cn,gG⟩ J J)))
  replace cn:=eX KB cn;rw[KB] at Jc;obtain⟨acu,q24,o24,e24,rfl⟩:=Jc;refine ro T 13 (ab 88 J cn (λcn=>?_) (λcn=>?_))
  ·refine ro T 2 (br J (ach T J J J J J J e24 e6 acu.1 Ni.1) (ro T 3 (cb J cn (λcn=>?_) (λcn=>?_))))
   ·refine rc T 6 (lf T 2 J (ro T 1 (k [4] J vO cn (iU.c · lF) (λoe cn=>ro T 1 (aX (cY (k:=pA) T [(eB.mk eG oe)] J J J J J J J J J (λBZ BR tM=>?_)))))));obtain⟨MA,cn⟩:=az cn;refine aX (dW (k:=pA) (xs:=aU) T (g:=1) J J J J J J J J J J gG (oO tM 5) MA J (λa28 n28 sC jO=>ro T 10 (ar (_,_,_,_,_) [0,1,2,1,0] ⟨cn,jO⟩ J J)))
   refine rc T 9 (ar (_,_,_,_,_) [0,1,2,1,0] ⟨cn,gG⟩ J J)
  refine ro T 6 (eT J (rc T 9 (ar (_,_,_,_,_) [0,1,2,1,0] ⟨cn,gG⟩ J J)))
 refine rc T 12 ?_
 cases cn;refine dw [1,2] J dy (p1 T J [2,2,1,0] ⟨a23,n23,jE,gG,J,J⟩ J)
end
end Go.Proofs.YthodkonhneebbaaGreatDoor
