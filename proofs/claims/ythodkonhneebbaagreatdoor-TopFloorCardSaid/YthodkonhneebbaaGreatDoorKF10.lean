/- What the functions of some packages compute, each as a function of plain Lean, with its contract. No condition. -/
import Derived.Test.YthodkonhneebbaaGreatDoorKFT
import Derived.Test.YthodkonhneebbaaGreatDoorKF5
import Derived.Test.YthodkonhneebbaaGreatDoorKFSort
import Derived.Test.YthodkonhneebbaaGreatDoorKF8
import Derived.Test.YthodkonhneebbaaGreatDoorKF7
import Derived.Test.YthodkonhneebbaaGreatDoorKF6
namespace Go.Proofs.YthodkonhneebbaaGreatDoor
open Go.Hx
set_option maxRecDepth 100000
set_option linter.unusedSimpArgs false
set_option linter.unusedVariables false
set_option maxHeartbeats 4000000
set_option autoImplicit true
set_option relaxedAutoImplicit true
noncomputable section
def CN.f (t:aJ) (cell:Int) (side:Int):Option Bool:=if(¬t.W=0) then(if(¬t.W=0) then(if(side==0)=true then(some ((aa (Int.tdiv cell t.W))==0)) else(if(side==1)=true then(some ((Int.tmod cell t.W)==(aa (t.W-1)))) else(if(side==2)=true then(some ((aa (Int.tdiv cell t.W))==(aa (t.H-1)))) else(if(side==3)=true then(some ((Int.tmod cell t.W)==0)) else(some (side==4)))))) else none) else none
theorem CN.c (H:CN.f t cell side=some r) (dM:aT (Fl.int .u8) t.C iv F) (fg:List.length t.C<=iB):
 QU 223 [(.agg #[(ii t.W),(ii t.H),(ll iv t.C iB)]),(ii cell),(ii side)] [] F (bb r):=by
 unfold CN.f at H;refine aB Tryz.func223 J J (λW=>rc T 2 (nc T J (λb1=>ro T 4 (dA mix ay (aj T J (aj T J (aO J J J (aw T J J J J (aF (j:=1) J J)) ?_)))))));obtain⟨c1,H⟩:=az H;refine aO J J J (uV J J J c1) (aj T J (aj T J (aO J J J (aw T J J J J (aF (j:=1) J J)) ?_)));obtain⟨c2,H⟩:=az H;refine aO J J J (uU J J J c2) (aj T J (aj T J (cH (rx T 14 (cb J H (λH=>?_) (λH=>?_))))))
 ·refine rc T 10 ?_
  cases H;exact p0 T J [0] J
 refine rc T 6 (cb J H (λH=>?_) (λH=>?_))
 ·refine rc T 4 (lf T 1 J (ro T 8 ?_))
  cases H;exact p0 T J [0] J
 refine rc T 6 (cb J H (λH=>?_) (λH=>?_))
 ·refine rc T 4 (lf T 1 J (ro T 8 ?_))
  cases H;exact p0 T J [0] J
 refine rc T 6 (cb J H (λH=>?_) (λH=>?_))
 ·refine rc T 10 ?_
  cases H;exact p0 T J [0] J
 refine rc T 11 ?_
 cases H;exact p0 T J [0] J
def CM.f (s:a_) (ai:aJ):Option Bool:=(if s.Cell<0 then(some true) else(if s.Cell≥(List.length ai.C:Int) then(some true) else(if(0<=s.Cell/\s.Cell<(List.length ai.C:Int)) then(if((rd ai.C s.Cell)==255)=true then(some true) else(if s.Key<0 then(some true) else(if s.Key>1073741824 then(some true) else((CN.f ai s.Cell s.cL).bind λv3=>some (!v3))))) else none))).bind λx1=>some x1
theorem CM.c (H:CM.f s ai=some r) (GB:(tv,Obj.cells #[(ii ai.W),(ii ai.H),(ll It ai.C J9)] 139 (0,0))∈F) (DF:aT (Fl.int .u8) ai.C It F) (Qx:List.length ai.C<=J9):
 QU 222 [(.agg #[(ii s.Cell),(ii s.cL),(ii s.Key)]),(pp tv)] [] F (bb r):=by
 unfold CM.f at H;refine aB Tryz.func222 J J (λW=>rc T 2 (nc T J (λb1=>ro T 3 (mq H [] [0] (λz2 (x1:Bool)=>(x1=z2,[(3,(bb x1))],[])) J J (λz2 Z1 _=>?_) ?_))))
 ·refine rc T 2 (lf T 1 J (ro T 2 (ad 7 J Z1 (λZ1=>?_) (λZ1=>?_))))
  ·refine ro T 38 (am _ [0] (oi Z1) J J)
  refine ro T 1 (lf T 1 J (ro T 1 (lg T J (nt (j:=0) GB J J) (ro T 4 (ad 15 J Z1 (λZ1=>?_) (λZ1=>?_))))))
  ·refine ro T 30 (am _ [0] (oi Z1) J J)
  refine ro T 1 (lg T J (nt (j:=0) GB J J) (ro T 1 (lf T 1 J ?_)));obtain⟨c4,Z1⟩:=az Z1;obtain⟨q2,o2,e2⟩:=DF.addr c4.1 c4.2;refine ix T J e2 c4 (le T 0 (rO DF 0) e2 c4 J J (ro T 3 (ab 24 J Z1 (λZ1=>?_) (λZ1=>?_))))
  ·refine ro T 21 (am _ [0] (oi Z1) J J)
  refine ro T 1 (lf T 1 J (ro T 3 (ad 29 J Z1 (λZ1=>?_) (λZ1=>?_))))
  ·refine ro T 16 (am _ [0] (oi Z1) J J)
  refine ro T 1 (lf T 1 J (ro T 3 (ad 34 J Z1 (λZ1=>?_) (λZ1=>?_))))
  ·refine ro T 11 (am _ [0] (oi Z1) J J)
  refine br J (fO T (cs:=[(ii ai.W),(ii ai.H),(ll It ai.C J9)]) J J J J J J (aem (j:=0) GB J J)) (ro T 1 (lf T 1 J (ro T 1 (lf T 1 J (k [] J acF Z1 (CN.c · (rO DF 0) Qx) (λv3 Z1=>ro T 5 (am _ [0] (oi Z1) J J)))))))
 rintro _ x1 rfl H;refine rc T 1 ?_
 cases H;exact p0 T J [0] J
def qK.l0:Nat->(List a_)->aJ->Int->Option Int
 |0,_,_,_=>none
 |k3+1,s,fm,x2=>if x2<(List.length s:Int) then(if(0<=x2/\x2<(List.length s:Int)) then((CM.f (rd s x2) fm).bind λv4=>if v4=true then(some x2) else(qK.l0 k3 s fm (aa (x2+1)))) else none) else(some (-1))
def qK.f (s:(List a_)) (fm:aJ):Option Int:=qK.l0 fuel s fm 0
theorem qK.c (H:qK.f s fm=some r) (iK:aT cI s iu F) (qn:List.length s<=iA) (Cd:(BA,Obj.cells #[(ii fm.W),(ii fm.H),(ll Bs fm.C Cl)] 139 (0,0))∈F) (BM:aT (Fl.int .u8) fm.C Bs F) (BE:List.length fm.C<=Cl):
 QU 246 [(ll iu s iA),(.func (.func 222) #[] #[(pp BA)])] [] F (ii r):=by
 unfold qK.f at H;refine aB Tryz.func246 J J (λW=>rc T 14 (lq [0,1,7] [0] (λ(⟨k3,x2⟩:Nat×Int)=>(qK.l0 k3 s fm x2=some r,[(8,(ii x2))],[])) J J (fuel,0) [0] H J J ?_));rintro k3 x2 Z1;replace Z1:qK.l0 (k3+1) s fm x2=some r:=Z1;rw[qK.l0] at Z1;refine rc T 6 (cd J Z1 (λZ1=>?_) (λZ1=>?_))
 ·refine rc T 15 ?_;obtain⟨c3,Z1⟩:=az Z1;obtain⟨q1,o1,e1⟩:=iK.addr c3.1 c3.2;refine ix T J e1 c3 (br J (fO T (cs:=[(ii (rd s x2).Cell),(ii (rd s x2).cL),(ii (rd s x2).Key)]) J J J J J J (hJ (k:=cI) (rO iK 0) e1 c3 J)) (k [] J acE Z1 (CM.c · (pR Cd (j:=0) J) (rO BM 0) BE) (λv4 Z1=>ro T 2 (cb J Z1 (λZ1=>?_) (λZ1=>?_)))))
  ·refine rc T 12 ?_
   cases Z1;exact p0 T J [0] J
  refine rc T 8 (ar _ [0] Z1 J J)
 refine rc T 11 ?_
 cases Z1;exact p0 T J [0] J
def Ev.f (s:(List a_)) (fm:aJ):Option Bool:=(qK.f s fm).bind λv1=>some (decide (v1≥0))
theorem Ev.c (H:Ev.f s fm=some r) (iK:aT cI s iu F) (qn:List.length s<=iA) (Cd:(BA,Obj.cells #[(ii fm.W),(ii fm.H),(ll Bs fm.C Cl)] 139 (0,0))∈F) (BM:aT (Fl.int .u8) fm.C Bs F) (BE:List.length fm.C<=Cl):
 QU 221 [(ll iu s iA),(.func (.func 222) #[] #[(pp BA)])] [] F (bb r):=by
 unfold Ev.f at H;refine aB Tryz.func221 J J (λW=>rc T 9 (k [] J acV H (qK.c · (rO iK 0) qn (pR Cd (j:=0) J) (rO BM 0) BE) (λv1 H=>ro T 5 ?_)))
 cases H;exact p0 T J [0] J
def zh.f (t:aJ) (l:(List a_)):Option Bool:=(tg.f t).bind λv1=>if(!v1)=true then(some false) else((Ev.f l t).bind λv2=>some (!v2))
theorem zh.c (H:zh.f t l=some r) (dM:aT (Fl.int .u8) t.C iv F) (fg:List.length t.C<=iB) (df:aT cI l ir F) (gn:List.length l<=hZ):
 QU 183 [(.agg #[(ii t.W),(ii t.H),(ll iv t.C iB)]),(ll ir l hZ)] [] F (bb r):=by
 unfold zh.f at H;refine aB Tryz.func183 J J (λW=>rc T 2 (nc T J (λb1=>ro T 6 (lm T 1 J (k [] J Jj H (tg.c · (rO dM 0) fg) (λv1 H=>ro T 3 (cb J H (λH=>?_) (λH=>?_))))))))
 ·refine rc T 7 ?_
  cases H;exact p0 T J [0] J
 refine rc T 6 (k [] J acD H (Ev.c · (rO df 0) gn (yP (j:=1) J) (rO dM 0) fg) (λv2 H=>ro T 5 ?_))
 cases H;exact p0 T J [0] J
def py.f (a:a_) (b:a_):Option Int:=(sa.f a.Key b.Key).bind λv1=>(sa.f a.Cell b.Cell).bind λv2=>(sa.f a.cL b.cL).bind λv3=>(mB.f [v1,v2,v3]).bind λv4=>some v4
theorem py.c (H:py.f a b=some r):
 QU 209 [(.agg #[(ii a.Cell),(ii a.cL),(ii a.Key)]),(.agg #[(ii b.Cell),(ii b.cL),(ii b.Key)])] [] F (ii r):=by
 unfold py.f at H;refine aB Tryz.func209 J J (λW=>rc T 2 (nc T J (λb1=>nc T J (λb2=>ro T 4 (ks [2,3] J (fz J (rg [] [0,0,0] mix (bO bN) (λhg pf=>ha T 17 [0] sz hg pf J (av 1 sz hg pf J (aw T J J J J (aF (j:=1) J J)) (ha T 15 [2] sz hg pf J (av 3 sz hg pf J (aw T J J J J (aF (j:=2) J J)) (ha T 13 [5] sz hg pf J (av 6 sz hg pf J (aw T J J J J (aF (j:=1) J J)) (ha T 11 [7] sz hg pf J (av 8 sz hg pf J (aw T J J J J (aF (j:=2) J J)) (ha T 9 [10] sz hg pf J (av 11 sz hg pf J (aw T J J J J (aF (j:=1) J J)) (ha T 7 [12] sz hg pf J (av 13 sz hg pf J (aw T J J J J (aF (j:=2) J J)) (ao 4 (kh [] J MU H (sa.c ·) (λv1 H=>an sz (ao 9 (kh [] J MU H (sa.c ·) (λv2 H=>an sz (ao 14 (kh [] J MU H (sa.c ·) (λv3 H=>an sz (ao 15 (cV (k:=(Fl.int .i64)) T [v1,v2,v3] J J J J J J J J J (λa3 H3 s3=>an (so [0,0,0]) (ao 16 (kh [] J acP H (mB.c · (oO s3 3) s3.bV) (λv4 H=>an (so [0,0,0]) (ha T 0 [17] (so [0,0,0]) hg pf J (ae (rx T 2 ?_)))))))))))))))))))))))))))))))))))))
 cases H;exact p0 T J [0] J
def Hi.f:Option Unit:=some ()
theorem Hi.c (H:Hi.f=some r):
 QU 255 [nl,(ii 0),(ii 0),(.func (.func 209) #[] #[])] [] F (.tuple #[]):=by
 unfold Hi.f at H;refine aB Tryz.func255 J J (λW=>rc T 8 (lu [0,1,2,3,8] [0] J J (rc T 8 (eD J (rc T 4 (jd ?_))))))
 cases H;exact p0 T J [0] J
def Hk.f (Ut:Int):Option Unit:=(Hi.f).bind λv1=>some ()
theorem Hk.c (H:Hk.f Ut=some r):
 QU 234 [nl,(ii 0),(ii 0),(ii Ut),(.func (.func 209) #[] #[])] [] F (.tuple #[]):=by
 unfold Hk.f at H;refine aB Tryz.func234 J J (λW=>rc T 11 (lu [0,1,2,3,4,10,11] [0] J J (rc T 16 (mY J (rc T 6 (k [] J ac1 H (Hi.c ·) (λv1 H=>ro T 7 ?_)))))))
 cases H;exact p0 T J [0] J
def KB.f:Option Unit:=(GC.f (eB 0)).bind λv1=>(Hk.f v1).bind λv2=>some ()
theorem KB.c (H:KB.f=some r):
 QU 208 [nl,(.func (.func 209) #[] #[])] [] F (.tuple #[]):=by
 unfold KB.f at H;refine aB Tryz.func208 J J (λW=>rc T 12 (k [] J acO H (GC.c ·) (λv1 H=>ro T 1 (k [] J acN H (Hk.c ·) (λv2 H=>ro T 1 (jd ?_))))))
 cases H;exact p0 T J [0] J
def AV.f (s:(List a_)):Option (List a_):=if List.length s<4611686018427387904 then some (pB (λa b=>Option.getD (py.f a b) 0) s) else none
def AV.R (aiS:Option Addr) (aiZ:Nat) (aiX:Nat) (r:List a_) (u:Value) (G:List Hp):Prop:= ∃(H0:Hp),ak cI 285 r aiS aiZ H0/\List.length r=aiX/\u=(.tuple #[])/\G=[H0]
theorem QI (x y:Int):sa.f x y=some (if x<y then-1 else if x>y then 1 else 0):=by
 simp[sa.f,cmp_isNaN_int.f];split
 ·rfl
 ·split<;>rfl
theorem QJ (a b c:Int):mB.f [a,b,c]=some (if a=0 then(if b=0 then c else b) else a):=by
 have e1:aa (0+1)=1:=by decide
 have e2:aa (1+1)=2:=by decide
 have e3:aa (2+1)=3:=by decide
 unfold mB.f;rw[cM,mB.l0]
 by_cases ha:a=0
 ·subst ha;simp only[List.length_cons,List.length_nil,rd,e1];rw[mB.l0]
  by_cases hb:b=0
  ·subst hb;simp only[List.length_cons,List.length_nil,rd,e2];rw[mB.l0]
   by_cases hc:c=0
   ·subst hc;simp only[List.length_cons,List.length_nil,rd,e3];rw[mB.l0];simp
   ·simp[rd,hc]
  ·simp[rd,hb]
 ·simp[rd,ha]
theorem ahN (a b:a_): ∃v,py.f a b=some v:=by
 unfold py.f;simp only[QI,QJ,Option.bind_some];exact⟨_,J⟩
theorem ahL (a b:a_):py.f a b=some (Option.getD (py.f a b) 0):=by
 obtain⟨v,h⟩:=ahN a b;rw[h];rfl
theorem ahK (a b:a_):Option.getD (py.f a b) 0=(if(if a.Key<b.Key then(-1:Int) else if a.Key>b.Key then 1 else 0)=0 then(if(if a.Cell<b.Cell then(-1:Int) else if a.Cell>b.Cell then 1 else 0)=0 then(if a.cL<b.cL then(-1:Int) else if a.cL>b.cL then 1 else 0) else(if a.Cell<b.Cell then(-1:Int) else if a.Cell>b.Cell then 1 else 0)) else(if a.Key<b.Key then(-1:Int) else if a.Key>b.Key then 1 else 0)):=by
 unfold py.f;simp only[QI,QJ,Option.bind_some,Option.getD_some]
theorem OU (a b:a_):Go.Proofs.ltOf (λa b=>Option.getD (py.f a b) 0) a b=decide (a.Key<b.Key∨a.Key=b.Key/\(a.Cell<b.Cell∨a.Cell=b.Cell/\a.cL<b.cL)):=by
 unfold Go.Proofs.ltOf;simp only[ahK]
 congr 1
 apply propext;constructor
 ·intro h
  by_cases k1:a.Key<b.Key
  ·exact .inl k1
  ·by_cases k2:a.Key>b.Key
   ·simp[k1,k2] at h
   ·by_cases c1:a.Cell<b.Cell
    ·exact .inr ⟨by omega,.inl c1⟩
    ·by_cases c2:a.Cell>b.Cell
     ·simp[k1,k2,c1,c2] at h
     ·by_cases s1:a.cL<b.cL
      ·exact .inr ⟨by omega,.inr ⟨by omega,s1⟩⟩
      ·by_cases s2:a.cL>b.cL
       ·simp[k1,k2,c1,c2,s1,s2] at h
       ·simp[k1,k2,c1,c2,s1,s2] at h
 ·intro h
  by_cases k1:a.Key<b.Key
  ·simp[k1]
  ·by_cases k2:a.Key>b.Key
   ·exfalso;omega
   ·by_cases c1:a.Cell<b.Cell
    ·simp[k1,k2,c1]
    ·by_cases c2:a.Cell>b.Cell
     ·exfalso;omega
     ·have s1:a.cL<b.cL:=U;simp[k1,k2,c1,c2,s1]
theorem ahM:Go.Sort.SWO (Go.Proofs.ltOf (λa b=>Option.getD (py.f a b) 0)) where
 irrefl x:=by rw[OU];simp
 trans x y z h1 h2:=by rw[OU] at*;simp only[decide_eq_true_eq] at*;omega
 ntrans x y z h1 h2:=by rw[OU] at*;simp only[decide_eq_false_iff_not] at*;omega
theorem ah6: ∀w,(isAgg 285).run Tryz.prog w= .ok true w:=λw=>by kernel_rfl
theorem ah9: ∀w,(Go.sizeOf 285).run Tryz.prog w= .ok 3 w:=λw=>by kernel_rfl
theorem AV.c {iu:Option Addr} {iA:Nat} {dL:Hp} {s r:List a_} {F:Hp} (H:AV.f s=some r) (cT:ak cI 285 s iu iA dL):
 QR 208 [(ll iu s iA),(.func (.func 209) #[] #[])] [dL] [] F (AV.R iu iA (List.length s) r):=by
 obtain⟨hl,H⟩:=az H;obtain rfl:=Option.some.inj H;exact ah_ Go.Proofs.Tryz.ah7 cI ah6 ah9 (λa b=>Option.getD (py.f a b) 0) ahM 209 (Go.Proofs.enters_of Tryz.func209 ay J) (λx y F=>py.c (F:=F) (ahL x y)) 285 (λF=>KB.c (r:=()) (F:=F) ay) s F hl cT
def mP.f (l:(List a_)):Option (List a_):=(rK.f l).bind λv1=>(AV.f v1).bind λv2=>(jC.f v2).bind λv3=>some v3
def mP.R (r:(List a_)) (u:Value) (G:List Hp):Prop:= ∃(a0:Option Addr) (n0:Nat) (H0:Hp),ak cI 285 r a0 n0 H0/\u=(ll a0 r n0)/\G=[H0]
theorem mP.c (H:mP.f l=some r) (df:aT cI l ir F) (gn:List.length l<=hZ):
 QR 180 [(ll ir l hZ)] [] [] F (mP.R r):=by
 unfold mP.f at H;refine aB Tryz.func180 J J (λW=>rc T 8 (kr rK.R [] [] J Sv H (rK.c · (rO df 0) gn) (λv1 H=>?_)));rintro _ _ ⟨a1,n1,H1,s1,rfl,rfl⟩;refine fz J (ro T 6 (kr (AV.R a1 n1 (List.length v1)) [] [1] J acw H (AV.c · s1) (λv2 H=>?_)));rintro _ _ ⟨H2,s2,l2,rfl,rfl⟩;refine fz J (kf [] [0,0] [(0,(ll a1 v2 n1))] J J ⟨(by first |rfl |(simp only[ll,l2];rfl)),trivial⟩ (ro T 5 ?_))
 refine kr jC.R [] [1] J acx H (jC.c · s2) (λv3 H=>?_);rintro _ _ ⟨a3,n3,H3,s3,rfl,rfl⟩;refine fz J (ro T 2 (ks [2] J (rx T 2 ?_)))
 cases H;exact p1 T J [1,0] ⟨a3,n3,H3,s3,J,J⟩ J
def AR.f (a:(List a_)) (b:(List a_)):Option Bool:=(qJ.f a b).bind λv1=>some v1
theorem AR.c (H:AR.f a b=some r) (DE:aT cI a E3 F) (LN:List.length a<=GN) (g_:aT cI b jX F) (gm:List.length b<=jL):
 QU 185 [(ll E3 a GN),(ll jX b jL)] [] F (bb r):=by
 unfold AR.f at H;refine aB Tryz.func185 J J (λW=>rc T 9 (k [] J acH H (qJ.c · (rO DE 0) LN (rO g_ 0) gm) (λv1 H=>ro T 4 ?_)))
 cases H;exact p0 T J [0] J
def kE.l0:Nat->(List a_)->Int->Int->Int->Bool->Int->Option Int
 |0,_,_,_,_,_,_=>none
 |k7+1,l,cell,side,x4,x5,x6=>if x6<(List.length l:Int) then(if(0<=x6/\x6<(List.length l:Int)) then((if((rd l x6).Cell==cell)=true then(if((rd l x6).cL==side)=true then(if(!x5)=true then(some true) else(some (decide ((rd l x6).Key<x4)))) else(some false)) else(some false)).bind λx8=>if x8=true then(kE.l0 k7 l cell side ((rd l x6).Key) true (aa (x6+1))) else(kE.l0 k7 l cell side x4 x5 (aa (x6+1)))) else none) else(some x4)
def kE.f (l:(List a_)) (cell:Int) (side:Int):Option Int:=kE.l0 fuel l cell side 1099511627776 false 0
theorem kE.c (H:kE.f l cell side=some r) (df:aT cI l ir F) (gn:List.length l<=hZ):
 QU 250 [(ll ir l hZ),(ii cell),(ii side)] [] F (ii r):=by
 unfold kE.f at H;refine aB Tryz.func250 J J (λW=>rc T 20 (lq [1,2,11,12] [0] (λ(⟨k7,x4,x5,x6⟩:Nat×Int×Bool×Int)=>(kE.l0 k7 l cell side x4 x5 x6=some r,[(7,(ii x4)),(8,(bb x5)),(13,(ii x6))],[])) J J (fuel,1099511627776,false,0) [0] H J J ?_));rintro k7 ⟨x4,x5,x6⟩ Z1;replace Z1:kE.l0 (k7+1) l cell side x4 x5 x6=some r:=Z1;rw[kE.l0] at Z1;refine rc T 6 (cd J Z1 (λZ1=>?_) (λZ1=>?_))
 ·refine rc T 6 ?_;obtain⟨c3,Z1⟩:=az Z1;obtain⟨q1,o1,e1⟩:=df.addr c3.1 c3.2;refine ix T J e1 c3 (br J (fO T (cs:=[(ii (rd l x6).Cell),(ii (rd l x6).cL),(ii (rd l x6).Key)]) J J J J J J (hJ (k:=cI) (rO df 0) e1 c3 J)) (nc T J (λb2=>sg T 1 J (ro T 2 (mq Z1 [1,2,7,8,10,11,12,13] [0,0] (λz9 (x8:Bool)=>(x8=z9,[(36,(bb x8))],[])) J J (λz9 Z4 _=>?_) ?_)))))
  ·refine rc T 2 (lf T 1 J (ro T 3 (ab 21 J Z4 (λZ4=>?_) (λZ4=>?_))))
   ·refine ro T 1 (lf T 1 J (ro T 4 (ab 27 J Z4 (λZ4=>?_) (λZ4=>?_))))
    ·refine ro T 3 (ab 30 J Z4 (λZ4=>?_) (λZ4=>?_))
     ·refine ro T 8 (am _ [0,0] (oi Z4) J J)
     refine ro T 1 (lf T 1 J (ro T 6 (am _ [0,0] (oi Z4) J J)))
    refine ro T 11 (am _ [0,0] (oi Z4) J J)
   refine ro T 17 (am _ [0,0] (oi Z4) J J)
  rintro _ x8 rfl Z1;refine cb J Z1 (λZ1=>?_) (λZ1=>?_)
  ·refine rc T 2 (lf T 1 J (ro T 10 (ar (_,_,_) [0] Z1 J J)))
  refine rc T 8 (ar (_,_,_) [0] Z1 J J)
 refine rc T 12 ?_
 cases Z1;exact p0 T J [0] J
end
noncomputable section
def jT.l0:Nat->de->ez->List a_->Option de
 |0,_,_,_=>none
 |yK+1,s,x9,aN=>(if(List.length aN:Int)>0 then(if(0<=(0:Int)/\(0:Int)<(List.length aN:Int)) then((sM.f x9 ((rd aN 0).Key) ((rd aN 0).Cell)).bind λcx=>some (cx.2,cx.1)) else none) else(some (x9,false))).bind λ(bt,aU)=>if aU=true then(if(0<=(1:Int)/\(1:Int)<=(List.length aN:Int)/\(List.length aN:Int)<=(List.length aN:Int)) then(jT.l0 yK s bt (aA aN 1 (List.length aN:Int))) else none) else(some (de.mk s.t bt aN s.aR))
def jT.f (s:de):Option de:=((if(List.length s.todo:Int)>0 then((vD.f s.wait).bind λv5=>some (v5==0)) else(some false)).bind λx3=>if x3=true then(if(0<=(0:Int)/\(0:Int)<(List.length s.todo:Int)) then((xm.f s.wait ((rd s.todo 0).Key)).bind λv6=>some v6.2) else none) else(some s.wait)).bind λx1=>jT.l0 fuel s x1 s.todo
def jT.R (bf:Nat) (y0:Value) (BD:List a_) (BB:Option Addr) (BC:Nat) (r:de) (u:Value) (G:List Hp):Prop:= ∃(b0:Nat) (H0:Hp) (a1:Option Addr) (n1:Nat) (a2:Option Addr) (n2:Nat) (H2:Hp),kj r.wait b0 H0/\dr cI BD BB BC r.todo a1 n1/\List.length r.todo<=n1/\ak (Fl.int .i64) 3 r.aR a2 n2 H2/\u=(.tuple #[])/\G=[(cl bf 369 [(ii r.t.W),(ii r.t.H),y0,(pp b0),(ll a1 r.todo n1),(ll a2 r.aR n2)]),H0,H2]
theorem jT.c (H:jT.f s=some r) (pP:aT (Fl.int .u8) s.t.C kn F) (tz:List.length s.t.C<=kC) (vM:kj s.wait oK zC) (oY:aT cI s.todo mz F) (ju:List.length s.todo<=mM) (sV:ak (Fl.int .i64) 3 s.aR uC vq wh):
 QR 273 [(pp bf)] [(cl bf 369 [(ii s.t.W),(ii s.t.H),(ll kn s.t.C kC),(pp oK),(ll mz s.todo mM),(ll uC s.aR vq)]),zC,wh] [] F (jT.R bf (ll kn s.t.C kC) s.todo mz mM r):=by
 unfold jT.f at H;refine aB Tryz.func273 J J (λW=>mq H [0] [3,0,1] (λz2 (⟨x1,H4⟩:ez×Hp)=>(x1=z2/\kj x1 oK H4,[],[H4])) J J (λz2 Z1 _=>?_) ?_)
 ·refine mq Z1 [0] [3,0,0,0] (λz4 (x3:Bool)=>(x3=z4,[(15,(bb x3))],[])) J J (λz4 Z2 _=>?_) ?_
  ·refine rc T 4 (lf T 0 J (ro T 3 (ad 8 J Z2 (λZ2=>?_) (λZ2=>?_))))
   ·refine ro T 3 (lf T 0 J (k [1] J MY Z2 (vD.c · vM) (λv5 Z2=>ro T 4 (am _ [3,0,0,0] (oi Z2) J J))))
   refine ro T 9 (am _ [3,0,0,0] (oi Z2) J J)
  rintro _ x3 rfl Z1;refine cb J Z1 (λZ1=>?_) (λZ1=>?_)
  ·refine fz J (rz [11] mix (bO bN) (λhg pf=>ha T 9 [0,1,2] sz hg pf J (av 3 sz hg pf J (aw T J J J J (aF (j:=1) J J)) (ha T 5 [4,5,6] sz hg pf J (av 7 sz hg pf J (aw T J J J J (aF (j:=1) J J)) ?_)))));obtain⟨c6,Z1⟩:=az Z1;obtain⟨q5,o5,e5⟩:=oY.addr c6.1 c6.2;refine av 8 sz hg pf J (cn T J J J J J e5 c6.1 c6.2) (ha T 2 [9] sz hg pf J (av 10 sz hg pf J (aw T J J J J (e_ (k:=cI) (rO oY 0) e5 c6 2 J)) (ao 11 (kR (xm.R oK) [] [2] J adg Z1 (xm.c · vM) (λv6 Z1=>?_)))));rintro _ _ ⟨H6,s6,rfl,rfl⟩;refine fz J (an sl (ae (rx T 1 (am (_,_) [0,0,0,0] ⟨oi Z1,s6⟩ J J))))
  refine rc T 2 (am (_,_) [0,0,1,0] ⟨oi Z1,vM⟩ J J)
 rintro _ ⟨x1,H4⟩ ⟨rfl,s4⟩ H;refine rc T 1 (lq [0] [0,1] (λ(⟨yK,x9,aN,H9,cy,n10⟩:Nat×ez×List a_×Hp×Option Addr×Nat)=>(jT.l0 yK s x9 aN=some r/\kj x9 oK H9/\dr cI s.todo mz mM aN cy n10/\List.length aN<=n10,[],[(cl bf 369 [(ii s.t.W),(ii s.t.H),(ll kn s.t.C kC),(pp oK),(ll cy aN n10),(ll uC s.aR vq)]),H9])) J J (fuel,x1,s.todo,H4,mz,mM) [0,1,0,0] ⟨H,s4,dr.self,ju⟩ J J ?_);rintro yK ⟨x9,aN,H9,cy,n10⟩ ⟨Z8,s9,Bv,Fk⟩;rw[jT.l0] at Z8;refine rc T 1 (mq Z8 [0] [0,1,0] (λHT (⟨bt,aU,cB⟩:ez×Bool×Hp)=>((bt,aU)=HT/\kj bt oK cB,[(54,(bb aU))],[cB])) J J (λHT Z9 _=>?_) ?_)
 ·refine fz J (rz [25] mix (bO bN) (λhg pf=>ha T 24 [0,1,2] sz hg pf J (av 3 sz hg pf J (aw T J J J J (aF (j:=2) J J)) (ha T 20 [4,5,6] sz hg pf J (ad 34 J Z9 (λZ9=>?_) (λZ9=>?_))))))
  ·refine ha T 17 [7,8,9] sz hg pf J (av 10 sz hg pf J (aw T J J J J (aF (j:=2) J J)) (ha T 13 [11,12,13] sz hg pf J (av 14 sz hg pf J (aw T J J J J (aF (j:=2) J J)) ?_)));obtain⟨eh,Z9⟩:=az Z9;obtain⟨vx,Og,si⟩:=(dr.r Bv oY ju).addr eh.1 eh.2;refine av 15 sz hg pf J (cn T J J J J J si eh.1 eh.2) (ha T 10 [16] sz hg pf J (av 17 sz hg pf J (aw T J J J J (e_ (k:=cI) (nY Bv (rO oY 0) ju) si eh 2 J)) (ha T 6 [18,19,20] sz hg pf J (av 21 sz hg pf J (aw T J J J J (aF (j:=2) J J)) (av 22 sz hg pf J (cn T J J J J J si eh.1 eh.2) (ha T 3 [23] sz hg pf J (av 24 sz hg pf J (aw T J J J J (e_ (k:=cI) (nY Bv (rO oY 0) ju) si eh 0 J)) (ao 25 (kR (sM.R oK) [] [3] J SU Z9 (sM.c · s9) (λcx Z9=>?_))))))))));rintro _ _ ⟨ei,cz,rfl,rfl⟩;refine fz J (an sl (hb T 26 sl hg pf J (ae (rx T 1 (am (_,_,_) [0,1,0,0] ⟨oi Z9,cz⟩ J J)))))
  refine ha T 2 [7,8,9,10,11,12,13,14,15,16,17,18,19,20,21,22,23,24] sz hg pf J (ao 25 (YV J (an sl (hb T 26 sl hg pf J (ae (rx T 1 (am (_,_,_) [0,1,0,0] ⟨oi Z9,s9⟩ J J)))))))
 rintro _ ⟨bt,aU,cB⟩ ⟨rfl,cS⟩ Z8;refine cb J Z8 (λZ8=>?_) (λZ8=>?_)
 ·refine rc T 8 (lf T 1 J ?_);obtain⟨oL,Z8⟩:=az Z8;refine br J (kt T J J J J J J oL Fk) (ro T 2 (sg T 1 J (ro T 3 (ar (_,_,_,_,_) [0,1,0,0] ⟨Z8,cS,(dr.sub Bv ju oL),(mr oL Fk)⟩ J J))))
 refine rc T 4 (jd ?_)
 cases Z8;exact p1 T J [1,2,1,0] ⟨oK,cB,cy,n10,uC,vq,wh,cS,Bv,Fk,sV,J,J⟩ J
def kG.f (s:de) (ai:Int) (key:Int):Option de:=(if(0<=ai/\ai<(List.length s.t.C:Int)) then(if((rd s.t.C ai)!=255)=true then(if(0<=ai/\ai<(List.length s.aR:Int)) then(some ((rd s.aR ai)==1099511627776)) else none) else(some false)) else none).bind λx1=>if x1=true then((sM.f s.wait key ai).bind λv3=>some (de.mk s.t v3.2 s.todo s.aR)) else(some s)
def kG.R (bf:Nat) (y0:Value) (BD:List a_) (BB:Option Addr) (BC:Nat) (r:de) (u:Value) (G:List Hp):Prop:= ∃(b0:Nat) (H0:Hp) (a1:Option Addr) (n1:Nat) (a2:Option Addr) (n2:Nat) (H2:Hp),kj r.wait b0 H0/\dr cI BD BB BC r.todo a1 n1/\List.length r.todo<=n1/\ak (Fl.int .i64) 3 r.aR a2 n2 H2/\u=(.tuple #[])/\G=[(cl bf 369 [(ii r.t.W),(ii r.t.H),y0,(pp b0),(ll a1 r.todo n1),(ll a2 r.aR n2)]),H0,H2]
theorem kG.c (H:kG.f s ai key=some r) (pP:aT (Fl.int .u8) s.t.C kn F) (tz:List.length s.t.C<=kC) (vM:kj s.wait oK zC) (oY:aT cI s.todo mz F) (ju:List.length s.todo<=mM) (sV:ak (Fl.int .i64) 3 s.aR uC vq wh):
 QR 294 [(pp bf),(ii ai),(ii key)] [(cl bf 369 [(ii s.t.W),(ii s.t.H),(ll kn s.t.C kC),(pp oK),(ll mz s.todo mM),(ll uC s.aR vq)]),zC,wh] [] F (kG.R bf (ll kn s.t.C kC) s.todo mz mM r):=by
 unfold kG.f at H;refine aB Tryz.func294 J J (λW=>mq H [0,1,2] [3,0,0,0] (λz2 (x1:Bool)=>(x1=z2,[(24,(bb x1))],[])) J J (λz2 Z1 _=>?_) ?_)
 ·refine rc T 5 (lf T 0 J (ro T 1 ?_));obtain⟨c2,Z1⟩:=az Z1;obtain⟨q4,o4,e4⟩:=pP.addr c2.1 c2.2;refine ix T J e4 c2 (le T 0 (rO pP 3) e4 c2 J J (ro T 2 (ab 15 J Z1 (λZ1=>?_) (λZ1=>?_))))
  ·refine ro T 3 (lf T 0 J (ro T 1 ?_));obtain⟨c4,Z1⟩:=az Z1;obtain⟨q5,o5,e5⟩:=sV.r.addr c4.1 c4.2;refine ix T J e5 c4 (le T 0 (oO sV 2) e5 c4 J J (ro T 4 (am _ [3,0,0,0] (oi Z1) J J)))
  refine ro T 11 (am _ [3,0,0,0] (oi Z1) J J)
 rintro _ x1 rfl H;refine cb J H (λH=>?_) (λH=>?_)
 ·refine rc T 4 (lf T 1 J (ro T 2 (kr (sM.R oK) [] [2] J SU H (sM.c · vM) (λv3 H=>?_))));rintro _ _ ⟨H6,s6,rfl,rfl⟩;refine fz J (ro T 1 (jd ?_))
  cases H;exact p1 T J [1,2,1,0] ⟨oK,H6,mz,mM,uC,vq,wh,s6,dr.self,ju,sV,J,J⟩ J
 refine rc T 1 (jd ?_)
 cases H;exact p1 T J [1,1,1,0] ⟨oK,zC,mz,mM,uC,vq,wh,vM,dr.self,ju,sV,J,J⟩ J
def xD.f (s:de) (ai:Int):Option de:=if(0<=ai/\ai<(List.length s.aR:Int)) then(if(0<=ai/\ai<(List.length s.t.C:Int)) then(if(¬s.t.W=0) then(if(¬s.t.W=0) then((if(aa (Int.tdiv ai s.t.W))>0 then((kG.f s (aa (ai-s.t.W)) (aa ((rd s.aR ai)+(aa (rd s.t.C ai))))).bind λv7=>some (v7.t.W,v7.t.H,v7.wait,v7.todo,v7.aR)) else(some (s.t.W,s.t.H,s.wait,s.todo,s.aR))).bind λ(x1,x2,x3,x4,x5)=>(if(Int.tmod ai s.t.W)<(aa (x1-1)) then((kG.f (de.mk (aJ.mk x1 x2 s.t.C) x3 x4 x5) (aa (ai+1)) (aa ((rd s.aR ai)+(aa (rd s.t.C ai))))).bind λbY=>some (bY.t.W,bY.t.H,bY.wait,bY.todo,bY.aR)) else(some (x1,x2,x3,x4,x5))).bind λ(x8,x9,aN,bg,bt)=>if(aa (Int.tdiv ai s.t.W))<(aa (x9-1)) then((kG.f (de.mk (aJ.mk x8 x9 s.t.C) aN bg bt) (aa (ai+x8)) (aa ((rd s.aR ai)+(aa (rd s.t.C ai))))).bind λcx=>if(Int.tmod ai s.t.W)>0 then((kG.f (de.mk (aJ.mk cx.t.W cx.t.H s.t.C) cx.wait cx.todo cx.aR) (aa (ai-1)) (aa ((rd s.aR ai)+(aa (rd s.t.C ai))))).bind λd_=>some (de.mk (aJ.mk d_.t.W d_.t.H s.t.C) d_.wait d_.todo d_.aR)) else(some (de.mk (aJ.mk cx.t.W cx.t.H s.t.C) cx.wait cx.todo cx.aR))) else(if(Int.tmod ai s.t.W)>0 then((kG.f (de.mk (aJ.mk x8 x9 s.t.C) aN bg bt) (aa (ai-1)) (aa ((rd s.aR ai)+(aa (rd s.t.C ai))))).bind λv17=>some (de.mk (aJ.mk v17.t.W v17.t.H s.t.C) v17.wait v17.todo v17.aR)) else(some (de.mk (aJ.mk x8 x9 s.t.C) aN bg bt)))) else none) else none) else none) else none
def xD.R (bf:Nat) (y0:Value) (BD:List a_) (BB:Option Addr) (BC:Nat) (r:de) (u:Value) (G:List Hp):Prop:= ∃(b0:Nat) (H0:Hp) (a1:Option Addr) (n1:Nat) (a2:Option Addr) (n2:Nat) (H2:Hp),kj r.wait b0 H0/\dr cI BD BB BC r.todo a1 n1/\List.length r.todo<=n1/\ak (Fl.int .i64) 3 r.aR a2 n2 H2/\u=(.tuple #[])/\G=[(cl bf 369 [(ii r.t.W),(ii r.t.H),y0,(pp b0),(ll a1 r.todo n1),(ll a2 r.aR n2)]),H0,H2]
theorem xD.c (H:xD.f s ai=some r) (pP:aT (Fl.int .u8) s.t.C kn F) (tz:List.length s.t.C<=kC) (vM:kj s.wait oK zC) (oY:aT cI s.todo mz F) (ju:List.length s.todo<=mM) (sV:ak (Fl.int .i64) 3 s.aR uC vq wh):
 QR 276 [(pp bf),(ii ai)] [(cl bf 369 [(ii s.t.W),(ii s.t.H),(ll kn s.t.C kC),(pp oK),(ll mz s.todo mM),(ll uC s.aR vq)]),zC,wh] [] F (xD.R bf (ll kn s.t.C kC) s.todo mz mM r):=by
 unfold xD.f at H;refine aB Tryz.func276 J J (λW=>rc T 1 (dA mix ay (aj T J (aj T J (aj T J (aO J J J (aw T J J J J (aF (j:=0) J J)) (aj T J ?_)))))));obtain⟨c1,H⟩:=az H;obtain⟨q4,o4,e4⟩:=sV.r.addr c1.1 c1.2;refine aO J J J (cn T J J J J J e4 c1.1 c1.2) (aO J J J (aw T J J J J (e_ (k:=(Fl.int .i64)) (oO sV 2) e4 c1 0 J)) ?_)
 iterate 4 refine aj T J ?_
 refine aO J J J (aw T J J J J (aF (j:=0) J J)) (aj T J ?_);obtain⟨c2,H⟩:=az H;obtain⟨q5,o5,e5⟩:=pP.addr c2.1 c2.2;refine aO J J J (cn T J J J J J e5 c2.1 c2.2) (aO J J J (aw T J J J J (e_ (k:=(Fl.int .u8)) (rO pP 3) e5 c2 0 J)) (aj T J (aj T J (aj T J (cH (rx T 2 (dA mix ay ?_)))))))
 iterate 5 refine aj T J ?_
 refine aO J J J (aw T J J J J (aF (j:=0) J J)) ?_;obtain⟨c3,H⟩:=az H;refine aO J J J (uV J J J c3) ?_
 iterate 5 refine aj T J ?_
 refine aO J J J (aw T J J J J (aF (j:=0) J J)) ?_;obtain⟨c4,H⟩:=az H;refine aO J J J (uU J J J c4) (aj T J (aj T J (cH (rx T 1 (mq H [0,1,4,5,6] [3] (λz6 (⟨x1,x2,x3,x4,x5,b6,H6,a7,n7,a8,n8,H8⟩:Int×Int×ez×List a_×List Int×Nat×Hp×Option Addr×Nat×Option Addr×Nat×Hp)=>((x1,x2,x3,x4,x5)=z6/\kj x3 b6 H6/\dr cI s.todo mz mM x4 a7 n7/\List.length x4<=n7/\ak (Fl.int .i64) 3 x5 a8 n8 H8,[],[(cl bf 369 [(ii x1),(ii x2),(ll kn s.t.C kC),(pp b6),(ll a7 x4 n7),(ll a8 x5 n8)]),H6,H8])) J J (λz6 Z5 _=>?_) ?_)))))
 ·refine rc T 6 (cd J Z5 (λZ5=>?_) (λZ5=>?_))
  ·refine rc T 7 (lf T 0 J (ro T 2 (kr (kG.R bf (ll kn s.t.C kC) s.todo mz mM) [] [0,0,0] J FQ Z5 (kG.c · (rO pP 0) tz vM (rO oY 0) ju sV) (λv7 Z5=>?_))));rintro _ _ ⟨b9,H9,cy,n10,du,n11,cB,s9,Bv,Fk,cS,rfl,rfl⟩;refine fz J (ro T 2 (am (_,_,_,_,_,_,_,_,_,_,_,_) [0,0,0,0] ⟨oi Z5,s9,Bv,Fk,cS⟩ J J))
  refine rc T 2 (am (_,_,_,_,_,_,_,_,_,_,_,_) [3,0,0,0] ⟨oi Z5,vM,dr.self,ju,sV⟩ J J)
 rintro _ ⟨x1,x2,x3,x4,x5,b6,H6,a7,n7,a8,n8,H8⟩ ⟨rfl,s6,LF,Qw,s8⟩ H;refine mq H [0,1,4,5,6] [0] (λHS (⟨x8,x9,aN,bg,bt,kL,dt,dD,n13,iG,n14,fG⟩:Int×Int×ez×List a_×List Int×Nat×Hp×Option Addr×Nat×Option Addr×Nat×Hp)=>((x8,x9,aN,bg,bt)=HS/\kj aN kL dt/\dr cI s.todo mz mM bg dD n13/\List.length bg<=n13/\ak (Fl.int .i64) 3 bt iG n14 fG,[],[(cl bf 369 [(ii x8),(ii x9),(ll kn s.t.C kC),(pp kL),(ll dD bg n13),(ll iG bt n14)]),dt,fG])) J J (λHS Z8 _=>?_) ?_
 ·refine rc T 7 (lf T 1 J (ro T 4 (cd J Z8 (λZ8=>?_) (λZ8=>?_))))
  ·refine rc T 5 (kr (kG.R bf (ll kn s.t.C kC) x4 a7 n7) [] [1,1,1] J FQ Z8 (kG.c (s:=(de.mk (aJ.mk x1 x2 s.t.C) x3 x4 x5)) · (rO pP 0) tz s6 (nY LF (rO oY 0) ju) Qw s8) (λbY Z8=>?_));rintro _ _ ⟨mZ,dJ,jW,n16,a17,n17,ek,dP,Y_,Zt,fq,rfl,rfl⟩;refine fz J (ro T 2 (am (_,_,_,_,_,_,_,_,_,_,_,_) [0,0,0,0] ⟨oi Z8,dP,(dr.trans LF ju Y_),Zt,fq⟩ J J))
  refine rc T 2 (am (_,_,_,_,_,_,_,_,_,_,_,_) [0,0,0,0] ⟨oi Z8,s6,LF,Qw,s8⟩ J J)
 rintro _ ⟨x8,x9,aN,bg,bt,kL,dt,dD,n13,iG,n14,fG⟩ ⟨rfl,dw,Bw,IG,fp⟩ H;refine rc T 8 (lf T 1 J (ro T 4 (cd J H (λH=>?_) (λH=>?_))))
 ·refine rc T 7 (lf T 1 J (ro T 2 (kr (kG.R bf (ll kn s.t.C kC) bg dD n13) [] [1,1,1] J FQ H (kG.c (s:=(de.mk (aJ.mk x8 x9 s.t.C) aN bg bt)) · (rO pP 0) tz dw (nY Bw (rO oY 0) ju) IG fp) (λcx H=>?_))));rintro _ _ ⟨qk,fc,mc,n19,a20,n20,nU,ft,LC,Qs,lW,rfl,rfl⟩;refine fz J (ro T 8 (cd J H (λH=>?_) (λH=>?_)))
  ·refine rc T 5 (kr (kG.R bf (ll kn s.t.C kC) cx.todo mc n19) [] [1,1,1] J FQ H (kG.c (s:=(de.mk (aJ.mk cx.t.W cx.t.H s.t.C) cx.wait cx.todo cx.aR)) · (rO pP 0) tz ft (nY LC (nY Bw (rO oY 0) ju) IG) Qs lW) (λd_ H=>?_));rintro _ _ ⟨Bz,lj,a22,n22,a23,n23,jF,jQ,Zb,Zw,gU,rfl,rfl⟩;refine fz J (ro T 1 (jd ?_))
   cases H;exact p1 T J [1,1,1,0] ⟨Bz,lj,a22,n22,a23,n23,jF,jQ,(dr.trans (dr.trans Bw ju LC) ju Zb),Zw,gU,J,J⟩ J
  refine rc T 1 (jd ?_)
  cases H;exact p1 T J [1,1,1,0] ⟨qk,fc,mc,n19,a20,n20,nU,ft,(dr.trans Bw ju LC),Qs,lW,J,J⟩ J
 refine rc T 8 (cd J H (λH=>?_) (λH=>?_))
 ·refine rc T 5 (kr (kG.R bf (ll kn s.t.C kC) bg dD n13) [] [1,1,1] J FQ H (kG.c (s:=(de.mk (aJ.mk x8 x9 s.t.C) aN bg bt)) · (rO pP 0) tz dw (nY Bw (rO oY 0) ju) IG fp) (λv17 H=>?_));rintro _ _ ⟨Fg,qX,a25,n25,a26,n26,oz,lX,Zd,Zy,nI,rfl,rfl⟩;refine fz J (ro T 1 (jd ?_))
  cases H;exact p1 T J [1,1,1,0] ⟨Fg,qX,a25,n25,a26,n26,oz,lX,(dr.trans Bw ju Zd),Zy,nI,J,J⟩ J
 refine rc T 1 (jd ?_)
 cases H;exact p1 T J [1,1,1,0] ⟨kL,dt,dD,n13,iG,n14,fG,dw,Bw,IG,fp,J,J⟩ J
def nO.l0:Nat->de->Int->Int->ez->List a_->List Int->Option de
 |0,_,_,_,_,_,_=>none
 |Gl+1,s,x7,x8,x9,aN,bg=>(vD.f x9).bind λfv=>if fv>0 then((oq.f x9).bind λbY=>if(0<=bY.2.1/\bY.2.1<(List.length bg:Int)) then(if((rd bg bY.2.1)==1099511627776)=true then((xD.f (de.mk (aJ.mk x7 x8 s.t.C) bY.2.2.2 aN (List.set bg (Int.toNat bY.2.1) bY.1)) bY.2.1).bind λcx=>(jT.f (de.mk (aJ.mk cx.t.W cx.t.H s.t.C) cx.wait cx.todo cx.aR)).bind λd_=>nO.l0 Gl s d_.t.W d_.t.H d_.wait d_.todo d_.aR) else((jT.f (de.mk (aJ.mk x7 x8 s.t.C) bY.2.2.2 aN bg)).bind λv17=>nO.l0 Gl s v17.t.W v17.t.H v17.wait v17.todo v17.aR)) else none) else(some (de.mk (aJ.mk x7 x8 s.t.C) x9 aN bg))
def nO.f (s:de):Option de:=(jT.f s).bind λv1=>nO.l0 fuel s v1.t.W v1.t.H v1.wait v1.todo v1.aR
def nO.R (bf:Nat) (y0:Value) (BD:List a_) (BB:Option Addr) (BC:Nat) (r:de) (u:Value) (G:List Hp):Prop:= ∃(b0:Nat) (H0:Hp) (a1:Option Addr) (n1:Nat) (a2:Option Addr) (n2:Nat) (H2:Hp),kj r.wait b0 H0/\dr cI BD BB BC r.todo a1 n1/\List.length r.todo<=n1/\ak (Fl.int .i64) 3 r.aR a2 n2 H2/\u=(.tuple #[])/\G=[(cl bf 369 [(ii r.t.W),(ii r.t.H),y0,(pp b0),(ll a1 r.todo n1),(ll a2 r.aR n2)]),H0,H2]
theorem nO.c (H:nO.f s=some r) (pP:aT (Fl.int .u8) s.t.C kn F) (tz:List.length s.t.C<=kC) (vM:kj s.wait oK zC) (oY:aT cI s.todo mz F) (ju:List.length s.todo<=mM) (sV:ak (Fl.int .i64) 3 s.aR uC vq wh):
 QR 249 [(pp bf)] [(cl bf 369 [(ii s.t.W),(ii s.t.H),(ll kn s.t.C kC),(pp oK),(ll mz s.todo mM),(ll uC s.aR vq)]),zC,wh] [] F (nO.R bf (ll kn s.t.C kC) s.todo mz mM r):=by
 unfold nO.f at H;refine aB Tryz.func249 J J (λW=>rc T 3 (kr (jT.R bf (ll kn s.t.C kC) s.todo mz mM) [] [0,0,0] J MX H (jT.c · (rO pP 0) tz vM (rO oY 0) ju sV) (λv1 H=>?_)));rintro _ _ ⟨b4,H4,a5,n5,a6,n6,H6,s4,Fi,Qv,s6,rfl,rfl⟩;refine fz J (ro T 3 (lq [0] [0] (λ(⟨Gl,x7,x8,x9,aN,bg,fN,bX,du,n11,a12,n12,dt⟩:Nat×Int×Int×ez×List a_×List Int×Nat×Hp×Option Addr×Nat×Option Addr×Nat×Hp)=>(nO.l0 Gl s x7 x8 x9 aN bg=some r/\kj x9 fN bX/\dr cI s.todo mz mM aN du n11/\List.length aN<=n11/\ak (Fl.int .i64) 3 bg a12 n12 dt,[],[(cl bf 369 [(ii x7),(ii x8),(ll kn s.t.C kC),(pp fN),(ll du aN n11),(ll a12 bg n12)]),bX,dt])) J J (fuel,v1.t.W,v1.t.H,v1.wait,v1.todo,v1.aR,b4,H4,a5,n5,a6,n6,H6) [0,0,0,0] ⟨H,s4,Fi,Qv,s6⟩ J J ?_));rintro Gl ⟨x7,x8,x9,aN,bg,fN,bX,du,n11,a12,n12,dt⟩ ⟨Z2,bS,yc,zL,dw⟩;rw[nO.l0] at Z2;refine rc T 6 (lf T 1 J (k [2] J MY Z2 (vD.c · bS) (λfv Z2=>ro T 3 (cd J Z2 (λZ2=>?_) (λZ2=>?_)))))
 ·refine rc T 9 (lf T 1 J (kr (oq.R fN) [] [2] J ac8 Z2 (oq.c · bS) (λbY Z2=>?_)));rintro _ _ ⟨ei,cz,rfl,rfl⟩;refine fz J (ro T 14 (lf T 1 J (ro T 1 ?_)));obtain⟨c6,Z2⟩:=az Z2;obtain⟨q14,o14,BG⟩:=dw.r.addr c6.1 c6.2;refine ix T J BG c6 (le T 0 (oO dw 2) BG c6 J J (ro T 3 (cb J Z2 (λZ2=>?_) (λZ2=>?_))))
  ·refine rc T 5 (lf T 1 J (ro T 2 (ix T J BG c6 (aX (kK (k:=(Fl.int .i64)) T 2 0 bY.1 J J J J J J dw BG c6 J J J (λdJ dP=>kg [0,3] [0,1,1] [0,1,1,0] [] [(cl bf 369 [(ii x7),(ii x8),(ll kn s.t.C kC),(pp fN),(ll du aN n11),(ll a12 (List.set bg (Int.toNat bY.2.1) bY.1) n12)])] J J trivial (by first |rfl |(simp only[ll,List.length_set];rfl)) (ro T 5 ?_)))))))
   refine kr (xD.R bf (ll kn s.t.C kC) aN du n11) [] [3,2,1] J ac9 Z2 (xD.c (s:=(de.mk (aJ.mk x7 x8 s.t.C) bY.2.2.2 aN (List.set bg (Int.toNat bY.2.1) bY.1))) · (rO pP 0) tz cz (nY yc (rO oY 0) ju) zL dP) (λcx Z2=>?_);rintro _ _ ⟨qh,fX,a17,n17,jc,n18,fc,fR,Qk,Zu,ft,rfl,rfl⟩;refine fz J (ro T 1 (ks [0] J (rx T 4 (kr (jT.R bf (ll kn s.t.C kC) cx.todo a17 n17) [] [1,1,1] J MX Z2 (jT.c (s:=(de.mk (aJ.mk cx.t.W cx.t.H s.t.C) cx.wait cx.todo cx.aR)) · (rO pP 0) tz fR (nY Qk (nY yc (rO oY 0) ju) zL) Zu ft) (λd_ Z2=>?_)))));rintro _ _ ⟨Y',kJ,a20,n20,a21,n21,lj,gT,Za,Zv,jQ,rfl,rfl⟩;refine fz J (ro T 2 (ar (_,_,_,_,_,_,_,_,_,_,_,_) [0,0,0,0] ⟨Z2,gT,(dr.trans (dr.trans yc ju Qk) ju Za),Zv,jQ⟩ J J))
  refine rc T 5 (kr (jT.R bf (ll kn s.t.C kC) aN du n11) [] [1,2,1] J MX Z2 (jT.c (s:=(de.mk (aJ.mk x7 x8 s.t.C) bY.2.2.2 aN bg)) · (rO pP 0) tz cz (nY yc (rO oY 0) ju) zL dw) (λv17 Z2=>?_));rintro _ _ ⟨kM,mv,a23,n23,a24,n24,qX,iO,Ql,Qu,lX,rfl,rfl⟩;refine fz J (ro T 2 (ar (_,_,_,_,_,_,_,_,_,_,_,_) [0,0,0,0] ⟨Z2,iO,(dr.trans yc ju Ql),Qu,lX⟩ J J))
 refine rc T 4 (jd ?_)
 cases Z2;exact p1 T J [1,1,1,0] ⟨fN,bX,du,n11,a12,n12,dt,bS,yc,zL,dw,J,J⟩ J
def tf.f (t:aJ) (l:(List a_)):Option ((List Int)×Int):=(zh.f t l).bind λv1=>if(!v1)=true then(some ([],1)) else(((vC.f 0).bind λv9=>dq v9 (none) (λWY=>(mP.f l).bind λv10=>(ka.f [1099511627776] (List.length t.C:Int)).bind λv11=>some (t.W,t.H,t.C,WY,v10,v11))).bind λ(x2,x3,x4,x5,x6,x7)=>(nO.f (de.mk (aJ.mk x2 x3 x4) x5 x6 x7)).bind λv17=>some (v17.aR,0))
def tf.R (r:((List Int)×Int)) (u:Value) (G:List Hp):Prop:= ∃(a0:Option Addr) (n0:Nat) (H0:Hp),ak (Fl.int .i64) 3 r.1 a0 n0 H0/\u=(.tuple #[(ll a0 r.1 n0),(ii r.2)])/\G=[H0]
theorem tf.c (H:tf.f t l=some r) (dM:aT (Fl.int .u8) t.C iv F) (fg:List.length t.C<=iB) (df:aT cI l ir F) (gn:List.length l<=hZ):
 QR 228 [(.agg #[(ii t.W),(ii t.H),(ll iv t.C iB)]),(ll ir l hZ)] [] [] F (tf.R r):=by
 unfold tf.f at H;refine aB Tryz.func228 J J (λW=>rc T 2 (nc T J (λb1=>ro T 7 (lm T 1 J (ro T 1 (k [] J St H (zh.c · (rO dM 0) fg (rO df 0) gn) (λv1 H=>ro T 3 (cb J H (λH=>?_) (λH=>?_)))))))))
 ·refine rc T 8 ?_
  cases H;refine bq (p1 T J [2,0] ⟨none,0,[],ak.nil,J,J⟩ J)
 refine rc T 2 (mq H [] [0] (λz8 (⟨x2,x3,x4,x5,x6,x7,b3,a4,n4,b5,H5,a6,n6,H6,a7,n7,H7⟩:Int×Int×List Int×ez×List a_×List Int×Nat×Option Addr×Nat×Nat×Hp×Option Addr×Nat×Hp×Option Addr×Nat×Hp)=>((x2,x3,x4,x5,x6,x7)=z8/\dr (Fl.int .u8) t.C iv iB x4 a4 n4/\List.length x4<=n4/\kj x5 b5 H5/\ak cI 285 x6 a6 n6 H6/\ak (Fl.int .i64) 3 x7 a7 n7 H7,[(6,(pp b3))],[(cl b3 369 [(ii x2),(ii x3),(ll a4 x4 n4),(pp b5),(ll a6 x6 n6),(ll a7 x7 n7)]),H5,H6,H7])) J J (λz8 Z3 _=>?_) ?_)
 ·refine ks [1,2] J (fz J (rz [] mix (bO bN) (λhg pf=>av 0 sz hg pf J (gA T 1 J J J J J J J) (ha T 9 [2,5] sz hg pf J (av 6 sz hg pf J (aw T J J J J (aF (j:=1) J J)) (ha T 7 [7] sz hg pf J (gy 1 4 ?_ ?_)))))))
  ·refine kR vC.R [] [] J SM Z3 (vC.c ·) (λv9 Z3=>?_);rintro _ _ ⟨_,_,O5,rfl,rfl⟩;rcases v9 with _ |WY
   ·replace Z3:=eT J Z3
    cases Z3
   replace Z3:=eU J Z3;obtain⟨b8,H8,s8,rfl,rfl⟩:=O5;refine an (so [0,0]) (gy 3 4 ?_ ?_)
   ·refine kR mP.R [] [] J FO Z3 (mP.c · (rO df 0) gn) (λv10 Z3=>?_);rintro _ _ ⟨a9,n9,H9,s9,rfl,rfl⟩;refine fz J (an (so [0,0]) (ao 4 (cV (k:=(Fl.int .i64)) T [1099511627776] J J J J J J J J J (λcy bX bS=>an (so [0,0]) (ao 8 (kR ka.R [] [] J MW Z3 (ka.c · (oO bS 4) bS.bV) (λv11 Z3=>?_)))))));rintro _ _ ⟨du,n11,cB,cS,rfl,rfl⟩;refine fz J (an (so [0,0]) (ha T 2 [9] (so [0,0]) hg pf J (ao 10 (nw T J (λkL=>an (so [0,0]) (ha T 0 [11] (so [0,0]) hg pf J (ae (rx T 1 (am (_,_,_,_,_,_,_,_,_,_,_,_,_,_,_,_,_) [0,5,1,1,2] ⟨oi Z3,dr.self,fg,s8,s9,cS⟩ J J)))))))))
   refine cV (k:=(Fl.int .i64)) T [1099511627776] J J J J J J J J J (λdD ei cz=>an (so [0,0]) (ao 3 (kR mP.R [] [] J FO Z3 (mP.c · (rO df 0) gn) (λv12 Z3=>?_))));rintro _ _ ⟨iG,n14,fG,fp,rfl,rfl⟩;refine fz J (an (so [0,0]) (ao 8 (kR ka.R [] [] J MW Z3 (ka.c · (oO cz 3) cz.bV) (λfv Z3=>?_))));rintro _ _ ⟨jV,n15,dJ,dP,rfl,rfl⟩;refine fz J (an (so [0,0]) (ha T 2 [9] (so [0,0]) hg pf J (ao 10 (nw T J (λqh=>an (so [0,0]) (ha T 0 [11] (so [0,0]) hg pf J (ae (rx T 1 (am (_,_,_,_,_,_,_,_,_,_,_,_,_,_,_,_,_) [0,5,1,2,2] ⟨oi Z3,dr.self,fg,s8,fp,dP⟩ J J)))))))))
  refine cV (k:=(Fl.int .i64)) T [1099511627776] J J J J J J J J J (λa17 ek fq=>an (so [0,0]) (ao 1 (kR vC.R [] [] J SM Z3 (vC.c ·) (λbY Z3=>?_))));rintro _ _ ⟨_,_,Xb,rfl,rfl⟩;rcases bY with _ |ajH
  ·replace Z3:=eT J Z3
   cases Z3
  replace Z3:=eU J Z3;obtain⟨qk,fc,ft,rfl,rfl⟩:=Xb;refine an (so [0,0]) (ao 3 (kR mP.R [] [] J FO Z3 (mP.c · (rO df 0) gn) (λcx Z3=>?_)));rintro _ _ ⟨mc,n19,kJ,gT,rfl,rfl⟩;refine fz J (an (so [0,0]) (ao 8 (kR ka.R [] [] J MW Z3 (ka.c · (oO fq 2) fq.bV) (λd_ Z3=>?_))));rintro _ _ ⟨a20,n20,nU,lW,rfl,rfl⟩;refine fz J (an (so [0,0]) (ha T 2 [9] (so [0,0]) hg pf J (ao 10 (nw T J (λBz=>an (so [0,0]) (ha T 0 [11] (so [0,0]) hg pf J (ae (rx T 1 (am (_,_,_,_,_,_,_,_,_,_,_,_,_,_,_,_,_) [0,5,2,2,2] ⟨oi Z3,dr.self,fg,ft,gT,lW⟩ J J)))))))))
 rintro _ ⟨x2,x3,x4,x5,x6,x7,b3,a4,n4,b5,H5,a6,n6,H6,a7,n7,H7⟩ ⟨rfl,Zf,ZB,s5,s6,s7⟩ H;refine rc T 3 (kr (nO.R b3 (ll a4 x4 n4) x6 a6 n6) [] [1,1,2] J acW H (nO.c (s:=(de.mk (aJ.mk x2 x3 x4) x5 x6 x7)) · (nY Zf (rO dM 0) fg) ZB s5 (oO s6 1) s6.bV s7) (λv17 H=>?_));rintro _ _ ⟨kM,mv,a23,n23,a24,n24,qX,iO,Ql,Qu,lX,rfl,rfl⟩;refine fz J (ro T 7 (lf T 2 J (ro T 5 ?_)))
 cases H;exact p1 T J [4,0] ⟨a24,n24,qX,lX,J,J⟩ J
end
noncomputable section
def p7.l0:Nat->aJ->(List Int)->Int->Option Bool
 |0,_,_,_=>none
 |k3+1,t,l,x2=>if x2<(List.length l:Int) then(if(0<=x2/\x2<(List.length l:Int)) then((A4.f t (rd l x2)).bind λv4=>(if((v4==0)||(v4==255))=true then(some true) else(if x2>0 then(if(0<=(aa (x2-1))/\(aa (x2-1))<(List.length l:Int)) then(some (decide ((rd l x2)<=(rd l (aa (x2-1)))))) else none) else(some false))).bind λx5=>if x5=true then(some false) else(p7.l0 k3 t l (aa (x2+1)))) else none) else((tg.f t).bind λv7=>some v7)
def p7.f (t:aJ) (l:(List Int)):Option Bool:=p7.l0 fuel t l 0
theorem p7.c (H:p7.f t l=some r) (dM:aT (Fl.int .u8) t.C iv F) (fg:List.length t.C<=iB) (df:aT (Fl.int .i64) l ir F) (gn:List.length l<=hZ):
 QU 266 [(.agg #[(ii t.W),(ii t.H),(ll iv t.C iB)]),(ll ir l hZ)] [] F (bb r):=by
 unfold p7.f at H;refine aB Tryz.func266 J J (λW=>rc T 2 (nc T J (λb1=>ro T 12 (lq [1,2,8,9] [0,0] (λ(⟨k3,x2⟩:Nat×Int)=>(p7.l0 k3 t l x2=some r,[(10,(ii x2))],[])) J J (fuel,0) [0,0] H J J ?_))));rintro k3 x2 Z1;replace Z1:p7.l0 (k3+1) t l x2=some r:=Z1;rw[p7.l0] at Z1;refine rc T 6 (cd J Z1 (λZ1=>?_) (λZ1=>?_))
 ·refine rc T 7 ?_;obtain⟨c3,Z1⟩:=az Z1;obtain⟨q2,o2,e2⟩:=df.addr c3.1 c3.2;refine ix T J e2 c3 (le T 0 (rO df 0) e2 c3 J J (ro T 6 (lm T 1 J (ro T 1 (k [] J adb Z1 (A4.c · (rO dM 0) fg) (λv4 Z1=>ro T 3 (mq Z1 [1,2,8,9,10] [0,0] (λz6 (x5:Bool)=>(x5=z6,[(36,(bb x5))],[])) J J (λz6 Z5 _=>?_) ?_)))))))
  ·refine rc T 4 (go T [3,4,5] 20 [1,2,5,6,8,9,10] 23 J J J J J J J (ro T 1 (ab 24 J Z5 (λZ5=>?_) (λZ5=>?_))))
   ·refine ro T 14 (am _ [0,0] (oi Z5) J J)
   refine ro T 3 (ad 27 J Z5 (λZ5=>?_) (λZ5=>?_))
   ·refine ro T 4 ?_;obtain⟨c8,Z5⟩:=az Z5;refine ix T J e2 c8 (le T 0 (rO df 0) e2 c8 J J (ro T 5 (am _ [0,0] (oi Z5) J J)))
   refine ro T 11 (am _ [0,0] (oi Z5) J J)
  rintro _ x5 rfl Z1;refine cb J Z1 (λZ1=>?_) (λZ1=>?_)
  ·refine rc T 11 ?_
   cases Z1;exact p0 T J [0] J
  refine rc T 8 (ar _ [0,0] Z1 J J)
 refine rc T 7 (lm T 1 J (k [] J Jj Z1 (tg.c · (rO dM 0) fg) (λv7 Z1=>ro T 4 ?_)))
 cases Z1;exact p0 T J [0] J
def xE.f (t:aJ) (ai:Int):Option ((List Int)×Int):=(tf.f t [(a_.mk ai 4 0)]).bind λv1=>some (v1.1,v1.2)
def xE.R (r:((List Int)×Int)) (u:Value) (G:List Hp):Prop:= ∃(a0:Option Addr) (n0:Nat) (H0:Hp),ak (Fl.int .i64) 3 r.1 a0 n0 H0/\u=(.tuple #[(ll a0 r.1 n0),(ii r.2)])/\G=[H0]
theorem xE.c (H:xE.f t ai=some r) (dM:aT (Fl.int .u8) t.C iv F) (fg:List.length t.C<=iB):
 QR 267 [(.agg #[(ii t.W),(ii t.H),(ll iv t.C iB)]),(ii ai)] [] [] F (xE.R r):=by
 unfold xE.f at H;refine aB Tryz.func267 J J (λW=>rc T 2 (nc T J (λb1=>ro T 6 (lm T 1 J (ro T 2 (aX (cV (k:=cI) T [(a_.mk ai 4 0)] J J J J J J J J J (λa2 H2 s2=>kr tf.R [] [] J SI H (tf.c (l:=[(a_.mk ai 4 0)]) · (rO dM 0) fg (oO s2 2) s2.bV) (λv1 H=>?_)))))))));rintro _ _ ⟨a3,n3,H3,s3,rfl,rfl⟩;refine fz J (ro T 7 ?_)
 cases H;exact p1 T J [3,0] ⟨a3,n3,H3,s3,J,J⟩ J
def jD.l1:Nat->(List Int)->Int->((List Int)×Int)->List Int->Int->Option (List Int)
 |0,_,_,_,_,_=>none
 |wT+1,l,x5,v9,bt,aU=>if aU<(List.length l:Int) then(if(0<=aU/\aU<(List.length l:Int)) then(if(0<=(rd l aU)/\(rd l aU)<(List.length v9.1:Int)) then(if(0<=(aa ((aa (aU*(List.length l:Int)))+x5))/\(aa ((aa (aU*(List.length l:Int)))+x5))<(List.length bt:Int)) then(jD.l1 wT l x5 v9 (List.set bt (Int.toNat (aa ((aa (aU*(List.length l:Int)))+x5))) (rd v9.1 (rd l aU))) (aa (aU+1))) else none) else none) else none) else(some bt)
def jD.l0:Nat->aJ->(List Int)->List Int->Int->Option ((List Int)×Int)
 |0,_,_,_,_=>none
 |k6+1,t,l,x4,x5=>if x5<(List.length l:Int) then((if(0<=x5/\x5<(List.length l:Int)) then((xE.f t (rd l x5)).bind λv9=>jD.l1 fuel l x5 v9 x4 0) else none).bind λx7=>jD.l0 k6 t l x7 (aa (x5+1))) else(some (x4,0))
def jD.f (t:aJ) (l:(List Int)):Option ((List Int)×Int):=(p7.f t l).bind λv1=>if(!v1)=true then(some ([],1)) else(if(0<=(aa ((List.length l:Int)*(List.length l:Int)))/\(aa ((List.length l:Int)*(List.length l:Int)))<=1099511627776) then(jD.l0 fuel t l (List.replicate (Int.toNat (aa ((List.length l:Int)*(List.length l:Int)))) (0:Int)) 0) else none)
def jD.R (r:((List Int)×Int)) (u:Value) (G:List Hp):Prop:= ∃(a0:Option Addr) (n0:Nat) (H0:Hp),ak (Fl.int .i64) 3 r.1 a0 n0 H0/\u=(.tuple #[(ll a0 r.1 n0),(ii r.2)])/\G=[H0]
theorem jD.c (H:jD.f t l=some r) (dM:aT (Fl.int .u8) t.C iv F) (fg:List.length t.C<=iB) (df:aT (Fl.int .i64) l ir F) (gn:List.length l<=hZ):
 QR 238 [(.agg #[(ii t.W),(ii t.H),(ll iv t.C iB)]),(ll ir l hZ)] [] [] F (jD.R r):=by
 unfold jD.f at H;refine aB Tryz.func238 J J (λW=>rc T 2 (nc T J (λb1=>ro T 7 (lm T 1 J (ro T 1 (k [] J ac3 H (p7.c · (rO dM 0) fg (rO df 0) gn) (λv1 H=>ro T 3 (cb J H (λH=>?_) (λH=>?_)))))))))
 ·refine rc T 8 ?_
  cases H;refine bq (p1 T J [2,0] ⟨none,0,[],ak.nil,J,J⟩ J)
 refine rc T 14 ?_;obtain⟨c3,H⟩:=az H;refine aX (x_ (k:=(Fl.int .i64)) T (0:Int) J J J J J J J J c3 J (λa3 n3 H3 s3=>ro T 12 (lq [1,2,6,24,25] [0,0] (λ(⟨k6,x4,x5,a5,n5,H5⟩:Nat×List Int×Int×Option Addr×Nat×Hp)=>(jD.l0 k6 t l x4 x5=some r/\ak (Fl.int .i64) 3 x4 a5 n5 H5,[(7,(ll a5 x4 n5)),(26,(ii x5))],[H5])) J J (fuel,(List.replicate (Int.toNat (aa ((List.length l:Int)*(List.length l:Int)))) (0:Int)),0,a3,n3,H3) [0,0,0] ⟨H,s3⟩ J J ?_)));rintro k6 ⟨x4,x5,a5,n5,H5⟩ ⟨Z4,s5⟩;rw[jD.l0] at Z4;refine rc T 6 (cd J Z4 (λZ4=>?_) (λZ4=>?_))
 ·refine rc T 2 (mq Z4 [1,2,6,24,25,26] [0,0] (λz8 (⟨x7,a6,n6,H6⟩:List Int×Option Addr×Nat×Hp)=>(x7=z8/\ak (Fl.int .i64) 3 x7 a6 n6 H6,[(7,(ll a6 x7 n6))],[H6])) J J (λz8 Z6 _=>?_) ?_)
  ·refine rc T 4 ?_;obtain⟨c7,Z6⟩:=az Z6;obtain⟨q7,o7,e7⟩:=df.addr c7.1 c7.2;refine ix T J e7 c7 (le T 0 (rO df 0) e7 c7 J J (ro T 6 (lm T 1 J (ro T 1 (kr xE.R [] [] J ac4 Z6 (xE.c · (rO dM 0) fg) (λv9 Z6=>?_))))));rintro _ _ ⟨a8,n8,H8,s8,rfl,rfl⟩;refine fz J (ro T 15 (lq [1,2,6,8,10,24,25,26,37,38] [0,0,1] (λ(⟨wT,bt,aU,cy,n10,bX⟩:Nat×List Int×Int×Option Addr×Nat×Hp)=>(jD.l1 wT l x5 v9 bt aU=some z8/\ak (Fl.int .i64) 3 bt cy n10 bX,[(7,(ll cy bt n10)),(39,(ii aU))],[bX])) J J (fuel,x4,0,a5,n5,H5) [0,0,1,0] ⟨Z6,s5⟩ J J ?_));rintro wT ⟨bt,aU,cy,n10,bX⟩ ⟨Z9,bS⟩;rw[jD.l1] at Z9;refine rc T 6 (cd J Z9 (λZ9=>?_) (λZ9=>?_))
   ·refine rc T 7 ?_;obtain⟨eh,Z9⟩:=az Z9;obtain⟨q11,o11,yj⟩:=df.addr eh.1 eh.2;refine ix T J yj eh (le T 0 (rO df 0) yj eh J J (ro T 13 ?_));obtain⟨gY,Z9⟩:=az Z9;obtain⟨vx,Og,si⟩:=s8.r.addr gY.1 gY.2;refine ix T J si gY (le T 0 (oO s8 2) si gY J J ?_);obtain⟨je,Z9⟩:=az Z9;obtain⟨Vg,UP,wE⟩:=bS.r.addr je.1 je.2;refine ix T J wE je (aX (kK (k:=(Fl.int .i64)) T 3 0 (rd v9.1 (rd l aU)) J J J J J J bS wE je J J J (λfG fp=>kf [1,2,6,8,10,24,25,26,37,38,39] [0,0,0,0] [(7,(ll cy (List.set bt (Int.toNat (aa ((aa (aU*(List.length l:Int)))+x5))) (rd v9.1 (rd l aU))) n10))] J J ⟨(by first |rfl |(simp only[ll,List.length_set];rfl)),trivial⟩ (ro T 8 ?_))))
    exact ar (_,_,_,_,_) [0,0,0,0] ⟨Z9,fp⟩ J J
   refine rc T 6 (am (_,_,_,_) [0,0,1] ⟨oi Z9,bS⟩ J J)
  rintro _ ⟨x7,a6,n6,H6⟩ ⟨rfl,s6⟩ Z4;refine rc T 5 (ar (_,_,_,_,_) [0,0,0] ⟨Z4,s6⟩ J J)
 refine rc T 13 ?_
 cases Z4;exact p1 T J [2,0] ⟨a5,n5,H5,s5,J,J⟩ J
end
noncomputable section
def l6.f (s:gx):Option (List Int):=some [s.bC,s.bD,s.bA,s.bz,s.bJ,s.bF]
theorem l6.c (H:l6.f s=some r):
 QU 62 [(.agg #[(uu s.bC),(uu s.bD),(uu s.bA),(uu s.bz),(uu s.bJ),(uu s.bF)])] [] F (.agg #[(uu (rd r 0)),(uu (rd r 1)),(uu (rd r 2)),(uu (rd r 3)),(uu (rd r 4)),(uu (rd r 5))]):=by
 unfold l6.f at H;refine aB Tryz.func62 J J (λW=>rc T 2 (nc T J (λb1=>nc T J (λb2=>ro T 5 (lf T 1 J (ro T 1 (lf T 1 J (ro T 1 (lf T 1 J (ro T 1 (lf T 1 J (ro T 1 (lf T 1 J (ro T 1 (lf T 1 J (br J (I0 T J J J J J J) (sg T 2 J (ro T 3 ?_))))))))))))))))))
 cases H;exact pb T J (.cO (j:=2) [(uu s.bC),(uu s.bD),(uu s.bA),(uu s.bz),(uu s.bJ),(uu s.bF)] J J J J J J J .nil) [0] () J J
def rM.f (a:Int) (b:Int):Option Int:=if a>(eB (18446744073709551615-b)) then(some 18446744073709551615) else(some (eB (a+b)))
theorem rM.c (H:rM.f a b=some r):
 QU 106 [(uu a),(uu b)] [] F (uu r):=by
 unfold rM.f at H;refine aB Tryz.func106 J J (λW=>rc T 14 (cd J H (λH=>?_) (λH=>?_)))
 ·refine rc T 7 ?_
  cases H;exact p0 T J [0] J
 refine rc T 11 ?_
 cases H;exact p0 T J [0] J
def mu.l0:Nat->Int->Int->Int->Int->Int->Int->Int->Int->Int->Int->Int->Int->Int->Option gx
 |0,_,_,_,_,_,_,_,_,_,_,_,_,_=>none
 |wV+1,x7,x8,x9,aN,bg,bt,iQ,gh,gV,iR,fw,iS,ie=>if ie<6 then(if(0<=ie/\ie<6) then(if(0<=ie/\ie<6) then((rM.f (rd [iQ,gh,gV,iR,fw,iS] ie) (rd [x7,x8,x9,aN,bg,bt] ie)).bind λp8=>if(0<=ie/\ie<6) then(mu.l0 wV x7 x8 x9 aN bg bt (rd (List.set [iQ,gh,gV,iR,fw,iS] (Int.toNat ie) p8) 0) (rd (List.set [iQ,gh,gV,iR,fw,iS] (Int.toNat ie) p8) 1) (rd (List.set [iQ,gh,gV,iR,fw,iS] (Int.toNat ie) p8) 2) (rd (List.set [iQ,gh,gV,iR,fw,iS] (Int.toNat ie) p8) 3) (rd (List.set [iQ,gh,gV,iR,fw,iS] (Int.toNat ie) p8) 4) (rd (List.set [iQ,gh,gV,iR,fw,iS] (Int.toNat ie) p8) 5) (aa (ie+1))) else none) else none) else none) else(some (gx.mk iQ gh gV iR fw iS))
def mu.f (a:gx) (b:gx):Option gx:=((l6.f a).bind λbY=>(l6.f b).bind λcx=>some ((rd bY 0),(rd bY 1),(rd bY 2),(rd bY 3),(rd bY 4),(rd bY 5),(rd cx 0),(rd cx 1),(rd cx 2),(rd cx 3),(rd cx 4),(rd cx 5))).bind λ(x1,x2,x3,x4,x5,x6,x7,x8,x9,aN,bg,bt)=>mu.l0 fuel x7 x8 x9 aN bg bt x1 x2 x3 x4 x5 x6 0
theorem mu.c (H:mu.f a b=some r):
 QU 78 [(.agg #[(uu a.bC),(uu a.bD),(uu a.bA),(uu a.bz),(uu a.bJ),(uu a.bF)]),(.agg #[(uu b.bC),(uu b.bD),(uu b.bA),(uu b.bz),(uu b.bJ),(uu b.bF)])] [] F (.agg #[(uu r.bC),(uu r.bD),(uu r.bA),(uu r.bz),(uu r.bJ),(uu r.bF)]):=by
 unfold mu.f at H;refine aB Tryz.func78 J J (λW=>rc T 2 (nc T J (λb1=>nc T J (λb2=>nc T J (λb3=>ro T 2 (mq H [4] [0,2] (λHS (⟨x1,x2,x3,x4,x5,x6,x7,x8,x9,aN,bg,bt,b4,b5⟩:Int×Int×Int×Int×Int×Int×Int×Int×Int×Int×Int×Int×Nat×Nat)=>((x1,x2,x3,x4,x5,x6,x7,x8,x9,aN,bg,bt)=HS,[(5,(pp b4)),(6,(pp b5))],[(cl b4 123 [(uu x1),(uu x2),(uu x3),(uu x4),(uu x5),(uu x6)]),(cl b5 123 [(uu x7),(uu x8),(uu x9),(uu aN),(uu bg),(uu bt)])])) J J (λHS Z1 _=>?_) ?_))))))
 ·refine ks [2,3,4] J (fz J (rz [] mix (bO bN) (λhg pf=>av 0 sz hg pf J (gA T 1 J J J J J J J) (av 2 sz hg pf J (gA T 2 J J J J J J J) (PZ 1 4 5 ?_ ?_ ?_)))))
  ·refine kh [] J pQ Z1 (l6.c ·) (λbY Z1=>an sz (PZ 3 4 5 ?_ ?_ ?_))
   ·refine kh [] J pQ Z1 (l6.c ·) (λcx Z1=>an sz (gy 4 5 ?_ ?_))
    ·refine nw T J (λb6=>an (so [0,0,0,0]) (ao 5 (nw T J (λb7=>an (so [0,0,0,0]) (ao 6 (sf T 4 J (an (so [0,0,0,0]) (ao 7 (sf T 5 J (an (so [0,0,0,0]) (ae (rx T 1 (am (_,_,_,_,_,_,_,_,_,_,_,_,_,_) [0,2,2,2] (oi Z1) J J)))))))))))))
    refine nw T J (λb8=>an (so [0,0,0,0]) (ao 4 (nw T J (λb9=>an (so [0,0,0,0]) (ao 6 (sf T 5 J (an (so [0,0,0,0]) (ao 7 (sf T 4 J (an (so [0,0,0,0]) (ae (rx T 1 (am (_,_,_,_,_,_,_,_,_,_,_,_,_,_) [0,2,3,2] (oi Z1) J J)))))))))))))
   ·refine nw T J (λfN=>an (so [0,0,0,0]) (gy 3 5 ?_ ?_))
    ·refine kh [] J pQ Z1 (l6.c ·) (λd_ Z1=>an (so [0,0,0,0]) (ao 5 (nw T J (λjG=>an (so [0,0,0,0]) (ao 6 (sf T 4 J (an (so [0,0,0,0]) (ao 7 (sf T 5 J (an (so [0,0,0,0]) (ae (rx T 1 (am (_,_,_,_,_,_,_,_,_,_,_,_,_,_) [0,2,2,2] (oi Z1) J J)))))))))))))
    refine nw T J (λkL=>an (so [0,0,0,0]) (ao 3 (kh [] J pQ Z1 (l6.c ·) (λv17 Z1=>an (so [0,0,0,0]) (ao 6 (sf T 4 J (an (so [0,0,0,0]) (ao 7 (sf T 5 J (an (so [0,0,0,0]) (ae (rx T 1 (am (_,_,_,_,_,_,_,_,_,_,_,_,_,_) [0,2,2,2] (oi Z1) J J)))))))))))))
   refine nw T J (λY9=>an (so [0,0,0,0]) (gy 3 4 ?_ ?_))
   ·refine kh [] J pQ Z1 (l6.c ·) (λfF Z1=>an (so [0,0,0,0]) (ao 4 (nw T J (λIE=>an (so [0,0,0,0]) (ao 6 (sf T 5 J (an (so [0,0,0,0]) (ao 7 (sf T 4 J (an (so [0,0,0,0]) (ae (rx T 1 (am (_,_,_,_,_,_,_,_,_,_,_,_,_,_) [0,2,3,2] (oi Z1) J J)))))))))))))
   refine nw T J (λmZ=>an (so [0,0,0,0]) (ao 3 (kh [] J pQ Z1 (l6.c ·) (λnQ Z1=>an (so [0,0,0,0]) (ao 6 (sf T 5 J (an (so [0,0,0,0]) (ao 7 (sf T 4 J (an (so [0,0,0,0]) (ae (rx T 1 (am (_,_,_,_,_,_,_,_,_,_,_,_,_,_) [0,2,3,2] (oi Z1) J J)))))))))))))
  ·refine nw T J (λqh=>an (so [0,0,0,0]) (gy 1 5 ?_ ?_))
   ·refine kh [] J pQ Z1 (l6.c ·) (λv20 Z1=>an (so [0,0,0,0]) (gy 3 5 ?_ ?_))
    ·refine kh [] J pQ Z1 (l6.c ·) (λv21 Z1=>an (so [0,0,0,0]) (ao 5 (nw T J (λBx=>an (so [0,0,0,0]) (ao 6 (sf T 4 J (an (so [0,0,0,0]) (ao 7 (sf T 5 J (an (so [0,0,0,0]) (ae (rx T 1 (am (_,_,_,_,_,_,_,_,_,_,_,_,_,_) [0,2,2,2] (oi Z1) J J)))))))))))))
    refine nw T J (λqk=>an (so [0,0,0,0]) (ao 3 (kh [] J pQ Z1 (l6.c ·) (λv22 Z1=>an (so [0,0,0,0]) (ao 6 (sf T 4 J (an (so [0,0,0,0]) (ao 7 (sf T 5 J (an (so [0,0,0,0]) (ae (rx T 1 (am (_,_,_,_,_,_,_,_,_,_,_,_,_,_) [0,2,2,2] (oi Z1) J J)))))))))))))
   refine nw T J (λY'=>an (so [0,0,0,0]) (ao 1 (kh [] J pQ Z1 (l6.c ·) (λv23 Z1=>an (so [0,0,0,0]) (ao 3 (kh [] J pQ Z1 (l6.c ·) (λv24 Z1=>an (so [0,0,0,0]) (ao 6 (sf T 4 J (an (so [0,0,0,0]) (ao 7 (sf T 5 J (an (so [0,0,0,0]) (ae (rx T 1 (am (_,_,_,_,_,_,_,_,_,_,_,_,_,_) [0,2,2,2] (oi Z1) J J))))))))))))))))
  refine nw T J (λIF=>an (so [0,0,0,0]) (gy 1 4 ?_ ?_))
  ·refine kh [] J pQ Z1 (l6.c ·) (λv25 Z1=>an (so [0,0,0,0]) (gy 3 4 ?_ ?_))
   ·refine kh [] J pQ Z1 (l6.c ·) (λv26 Z1=>an (so [0,0,0,0]) (ao 4 (nw T J (λBz=>an (so [0,0,0,0]) (ao 6 (sf T 5 J (an (so [0,0,0,0]) (ao 7 (sf T 4 J (an (so [0,0,0,0]) (ae (rx T 1 (am (_,_,_,_,_,_,_,_,_,_,_,_,_,_) [0,2,3,2] (oi Z1) J J)))))))))))))
   refine nw T J (λkM=>an (so [0,0,0,0]) (ao 3 (kh [] J pQ Z1 (l6.c ·) (λPg Z1=>an (so [0,0,0,0]) (ao 6 (sf T 5 J (an (so [0,0,0,0]) (ao 7 (sf T 4 J (an (so [0,0,0,0]) (ae (rx T 1 (am (_,_,_,_,_,_,_,_,_,_,_,_,_,_) [0,2,3,2] (oi Z1) J J)))))))))))))
  refine nw T J (λZc=>an (so [0,0,0,0]) (ao 1 (kh [] J pQ Z1 (l6.c ·) (λv28 Z1=>an (so [0,0,0,0]) (ao 3 (kh [] J pQ Z1 (l6.c ·) (λrN Z1=>an (so [0,0,0,0]) (ao 6 (sf T 5 J (an (so [0,0,0,0]) (ao 7 (sf T 4 J (an (so [0,0,0,0]) (ae (rx T 1 (am (_,_,_,_,_,_,_,_,_,_,_,_,_,_) [0,2,3,2] (oi Z1) J J))))))))))))))))
 rintro _ ⟨x1,x2,x3,x4,x5,x6,x7,x8,x9,aN,bg,bt,b4,b5⟩ rfl H;refine rc T 7 (lq [4,5,6] [0,0,1] (λ(⟨wV,iQ,gh,gV,iR,fw,iS,ie⟩:Nat×Int×Int×Int×Int×Int×Int×Int)=>(mu.l0 wV x7 x8 x9 aN bg bt iQ gh gV iR fw iS ie=some r,[(12,(ii ie))],[(cl b4 123 [(uu iQ),(uu gh),(uu gV),(uu iR),(uu fw),(uu iS)])])) J J (fuel,x1,x2,x3,x4,x5,x6,0) [0,0,1,0] H J J ?_);rintro wV ⟨iQ,gh,gV,iR,fw,iS,ie⟩ gw;replace gw:mu.l0 (wV+1) x7 x8 x9 aN bg bt iQ gh gV iR fw iS ie=some r:=gw;rw[mu.l0] at gw;refine rc T 6 (cd J gw (λgw=>?_) (λgw=>?_))
 ·refine rc T 10 (fz J (rz [9] mix (bO bN) (λhg pf=>ha T 8 [0,1] sz hg pf J ?_)));obtain⟨Fm,gw⟩:=az gw;refine av 2 sz hg pf J (yp T J J J J J Fm) (av 3 sz hg pf J (aw T J J J J (T6 (kk:= .u64) (xs:=[iQ,gh,gV,iR,fw,iS]) (j:=3) J J Fm)) (ha T 5 [4] sz hg pf J ?_));obtain⟨lN,gw⟩:=az gw;refine av 5 sz hg pf J (yp T J J J J J lN) (av 6 sz hg pf J (aw T J J J J (T6 (kk:= .u64) (xs:=[x7,x8,x9,aN,bg,bt]) (j:=2) J J lN)) (ao 7 (kh [] J Jc gw (rM.c ·) (λp8 gw=>an sz ?_))));obtain⟨Qt,gw⟩:=az gw;refine av 8 sz hg pf J (yp T J J J J J Qt) (ao 9 (YQ (kk:= .u64) (xs:=[iQ,gh,gV,iR,fw,iS]) T 3 [(uu (rd (List.set [iQ,gh,gV,iR,fw,iS] (Int.toNat ie) p8) 0)),(uu (rd (List.set [iQ,gh,gV,iR,fw,iS] (Int.toNat ie) p8) 1)),(uu (rd (List.set [iQ,gh,gV,iR,fw,iS] (Int.toNat ie) p8) 2)),(uu (rd (List.set [iQ,gh,gV,iR,fw,iS] (Int.toNat ie) p8) 3)),(uu (rd (List.set [iQ,gh,gV,iR,fw,iS] (Int.toNat ie) p8) 4)),(uu (rd (List.set [iQ,gh,gV,iR,fw,iS] (Int.toNat ie) p8) 5))] J J J J J J J Qt J (an sl (ae (rx T 7 (ar (_,_,_,_,_,_,_) [0,0,0,0] gw J J))))))
 refine rc T 7 (br J (yp T J J J J J (by decide)) (lf T 3 J (br J (yp T J J J J J (by decide)) (lf T 3 J (br J (yp T J J J J J (by decide)) (lf T 3 J (br J (yp T J J J J J (by decide)) (lf T 3 J (br J (yp T J J J J J (by decide)) (lf T 3 J (br J (yp T J J J J J (by decide)) (lf T 3 J (ro T 1 (sg T 1 J (ro T 1 (rx T 2 ?_))))))))))))))))
 cases gw;exact pb T J (.cO (j:=1) [(uu iQ),(uu gh),(uu gV),(uu iR),(uu fw),(uu iS)] J J J J J J J .nil) [0] () J J
end
noncomputable section
def GF.f:Option Int:=some 0
theorem GF.c (H:GF.f=some r):
 QU 107 [(.pointer none)] [] F (uu r):=by
 unfold GF.f at H;refine aB Tryz.func107 J J (λW=>rc T 12 (mY J (rc T 7 ?_)))
 cases H;exact p0 T J [0] J
def GG.f (m:dH) (mG:bw):Option Int:=some m.count
theorem GG.c (H:GG.f m mG=some r) (rJ:mw m iI kP mT) (lh:iE mG kP lp):
 QU 107 [(pp iI)] [mT,lp] F (uu r):=by
 unfold GG.f at H;refine aB Tryz.func107 J J (λW=>rc T 12 (eD J (rc T 3 ?_)));obtain⟨a5,n5,H5,s5,dp⟩:=(λx=>x) rJ;refine bP 0 (congrArg some dp) (fz J (rc T 4 (lf T 2 J (ro T 4 ?_))))
 cases H;refine dj [2,2] J dp (p0 T J [2,0,0] J)
def rE.f (g:bw):Option (Option dH):=(iJ.f g).bind λv1=>(p9.f v1.1 v1.2).bind λv2=>if(0<=(aa (v2.1*v2.2))/\(aa (v2.1*v2.2))<=1099511627776) then(some (some (dH.mk (List.replicate (Int.toNat (aa (v2.1*v2.2))) (default:ph)) 0 0))) else none
def rE.R (w0:Nat) (r:(Option dH)) (u:Value) (G:List Hp):Prop:= ∃(u0:Value) (G0:List Hp),Xl w0 r u0 G0/\u=u0/\G=G0
theorem rE.c (H:rE.f g=some r) (fB:iE g eY fY):
 QR 150 [(pp eY)] [fY] [fY] F (rE.R eY r):=by
 unfold rE.f at H;refine aB Tryz.func150 J J (λW=>rc T 12 (eD J (rc T 5 (k [0] J tI H (iJ.c · fB) (λv1 H=>ro T 2 (k [] J FR H (p9.c ·) (λv2 H=>ro T 13 ?_)))))));obtain⟨c3,H⟩:=az H;refine aX (Yv (kd:=Ot) (E:=217) T (default:ph) J J J J J J J ⟨none,0,[],none,0,[],(ak.nil (k:=(Fl.int .i64)) (E:=3)),(ak.nil (k:=(Fl.int .i32)) (E:=21)),J,J⟩ c3 J (λa2 n2 H2 s2=>ro T 1 (nc T J (λb3=>ro T 4 ?_))))
 cases H;refine gi [3,2] J (p1 T J [2,0,0] ⟨_,_,⟨b3,(List.flatten [(cl b3 213 [(pp eY),(ll a2 (List.replicate (Int.toNat (aa (v2.1*v2.2))) (default:ph)) n2),(ii 0),(uu 0)]),H2]),(show mw (dH.mk (List.replicate (Int.toNat (aa (v2.1*v2.2))) (default:ph)) 0 0) b3 eY (List.flatten [(cl b3 213 [(pp eY),(ll a2 (List.replicate (Int.toNat (aa (v2.1*v2.2))) (default:ph)) n2),(ii 0),(uu 0)]),H2]) from⟨a2,n2,H2,s2,J⟩),J,J⟩,J,J⟩ J)
def nu.l0:Nat->dH->bw->List Int->Int->Option (List Int)
 |0,_,_,_,_=>none
 |k6+1,m,mG,x4,x5=>if x5<(List.length m.parts:Int) then(if(0<=x5/\x5<(List.length m.parts:Int)) then((pO.f mG x5).bind λv7=>if((rd m.parts x5).version !=v7)=true then(if(List.length x4+1<=1099511627776) then(nu.l0 k6 m mG (x4++[x5]) (aa (x5+1))) else none) else(nu.l0 k6 m mG x4 (aa (x5+1)))) else none) else(some x4)
def nu.f (m:dH) (mG:bw):Option (List Int):=(oW.f mG).bind λv1=>if(m.clean==v1)=true then(some []) else(nu.l0 fuel m mG [] 0)
def nu.R (r:(List Int)) (u:Value) (G:List Hp):Prop:= ∃(a0:Option Addr) (n0:Nat) (H0:Hp),ak (Fl.int .i64) 3 r a0 n0 H0/\u=(ll a0 r n0)/\G=[H0]
theorem nu.c (H:nu.f m mG=some r) (rJ:mw m iI kP mT) (lh:iE mG kP lp):
 QR 97 [(pp iI)] [mT,lp] [mT,lp] F (nu.R r):=by
 unfold nu.f at H;refine aB Tryz.func97 J J (λW=>rc T 7 ?_);obtain⟨a5,n5,H5,s5,dp⟩:=(λx=>x) rJ;refine bP 0 (congrArg some dp) (fz J (dA mix ay ?_))
 iterate 6 refine aj T J ?_
 refine aO J J J (aw T J J J J (aF (j:=2) J J)) (aj T J (aj T J (aj T J (aO J J J (aw T J J J J (aF (j:=2) J J)) ?_))));obtain⟨v1,V1,H⟩:=gj H;refine wv [0] J J J J J J BO J (oW.c V1 lh) (aj T J (aj T J (cH (rx T 1 (cb J H (λH=>?_) (λH=>?_))))))
 ·refine rc T 7 ?_
  cases H;refine dj [2,2] J dp (bq (p1 T J [3,2,0,0] ⟨none,0,[],ak.nil,J,J⟩ J))
 refine rc T 13 (lf T 2 J (ro T 5 (bq (lq [0,23] [1,1,0,0] (λ(⟨k6,x4,x5,a8,n8,H8⟩:Nat×List Int×Int×Option Addr×Nat×Hp)=>(nu.l0 k6 m mG x4 x5=some r/\ak (Fl.int .i64) 3 x4 a8 n8 H8,[(3,(ll a8 x4 n8)),(24,(ii x5))],[H8])) J J (fuel,[],0,none,0,[]) [1,1,0,0,0] ⟨H,ak.nil⟩ J J ?_))));rintro k6 ⟨x4,x5,a8,n8,H8⟩ ⟨Z3,s8⟩;rw[nu.l0] at Z3;refine rc T 6 (cd J Z3 (λZ3=>?_) (λZ3=>?_))
 ·refine rc T 11 (dA mix ay (aj T J (aj T J (aj T J (aO J J J (aw T J J J J (aF (j:=1) J J)) (aj T J ?_))))));obtain⟨c5,Z3⟩:=az Z3;obtain⟨q9,o9,e9⟩:=s5.r.addr c5.1 c5.2;refine aO J J J (cn T J J J J J e9 c5.1 c5.2) (aj T J ?_);obtain⟨_,w12,⟨cy,n10,du,n11,⟨Ou,m10⟩,⟨VL,m11⟩,rfl⟩⟩:=mW.view s5.r c5;refine aO J J J (aw T J J J J (B5 (j:=3) J w12 e9 0 J)) (aj T J (aj T J (aj T J (aO J J J (aw T J J J J (aF (j:=1) J J)) (aj T J ?_)))));obtain⟨v7,V6,Z3⟩:=gj Z3;refine wv [2] J J J J J J BP J (pO.c V6 lh) (aj T J (cH (rx T 1 (cb J Z3 (λZ3=>?_) (λZ3=>?_)))))
  ·refine rc T 3 (aX (cV (k:=(Fl.int .i64)) T [x5] J J J J J J J J J (λdD ei cz=>?_)));obtain⟨c8,Z3⟩:=az Z3;refine aX (dR (k:=(Fl.int .i64)) (xs:=x4) T (g:=4) J J J J J J J J J J s8 (oO cz 5) c8 J (λiG n14 fG fp=>ro T 9 (ar (_,_,_,_,_) [0,0,0,0,0] ⟨Z3,fp⟩ J J)))
  refine rc T 8 (ar (_,_,_,_,_) [0,0,0,0,0] ⟨Z3,s8⟩ J J)
 refine rc T 12 ?_
 cases Z3;refine dj [1,2] J dp (p1 T J [2,2,1,0] ⟨a8,n8,H8,s8,J,J⟩ J)
def jk.l1:Nat->Int->List Int->((List Int)×Int)->List Int->Int->Option ph
 |0,_,_,_,_,_=>none
 |Gp+1,x3,x4,fF,dh,bU=>if bU<(List.length fF.1:Int) then(if(0<=bU/\bU<(List.length fF.1:Int)) then(if(0<=bU/\bU<(List.length dh:Int)) then(if((rd fF.1 bU)!=1099511627776)=true then(if(0<=bU/\bU<(List.length (List.set dh (Int.toNat bU) (-1)):Int)) then(jk.l1 Gp x3 x4 fF (List.set (List.set dh (Int.toNat bU) (-1)) (Int.toNat bU) (IntKind.i32.wrap (rd fF.1 bU))) (aa (bU+1))) else none) else(jk.l1 Gp x3 x4 fF (List.set dh (Int.toNat bU) (-1)) (aa (bU+1)))) else none) else none) else(some (ph.mk x3 x4 dh))
def jk.l0:Nat->(Int×Int)->(aJ×Bool)->Int->List Int->List Int->Int->Option ph
 |0,_,_,_,_,_,_=>none
 |yL+1,v1,v2,x3,x4,bd,cm=>if cm<(List.length x4:Int) then(if(0<=cm/\cm<(List.length x4:Int)) then((qQ.f v1.1 v1.2 (rd x4 cm)).bind λv17=>if(List.length bd+1<=1099511627776) then(jk.l0 yL v1 v2 x3 x4 (bd++[v17]) (aa (cm+1))) else none) else none) else((jD.f v2.1 bd).bind λfF=>if(0<=(List.length fF.1:Int)/\(List.length fF.1:Int)<=1099511627776) then(jk.l1 fuel x3 x4 fF (List.replicate (Int.toNat (List.length fF.1:Int)) (0:Int)) 0) else none)
def jk.f (m:dH) (bB:Int) (mG:bw):Option ph:=(iJ.f mG).bind λv1=>(lR.f mG bB).bind λv2=>((pO.f mG bB).bind λv7=>(jY.f mG bB).bind λv8=>some (v7,v8,([]:List Int))).bind λ(x3,x4,x5)=>jk.l0 fuel v1 v2 x3 x4 [] 0
def jk.R (r:ph) (u:Value) (G:List Hp):Prop:= ∃(a0:Option Addr) (n0:Nat) (H0:Hp) (a1:Option Addr) (n1:Nat) (H1:Hp),ak (Fl.int .i64) 3 r.nodes a0 n0 H0/\ak (Fl.int .i32) 21 r.aR a1 n1 H1/\u=(.agg #[(ii r.version),(ll a0 r.nodes n0),(ll a1 r.aR n1)])/\G=[H0,H1]
theorem jk.c (H:jk.f m bB mG=some r) (rJ:mw m iI kP mT) (lh:iE mG kP lp):
 QR 211 [(pp iI),(ii bB)] [mT,lp] [mT,lp] F (jk.R r):=by
 unfold jk.f at H;refine aB Tryz.func211 J J (λW=>rc T 2 (nc T J (λb3=>ro T 3 ?_)));obtain⟨a6,n6,H6,s6,kS⟩:=(λx=>x) rJ;refine bP 0 (congrArg some kS) (fz J (rc T 4 (lf T 3 J (k [0] J tI H (iJ.c · lh) (λv1 H=>ro T 12 (lf T 3 J (ro T 1 (kr lR.R [0] [0] J Sg H (lR.c · lh) (λv2 H=>?_)))))))));rintro _ _ ⟨a7,n7,H7,s7,rfl,rfl⟩;refine fz J (ro T 3 (nc T J (λb8=>sg T 6 J (ro T 3 (mq H [4,5,6,7] [0,0,4,2,0,1,0] (λz6 (⟨x3,x4,x5,b9,cy,n10,bX,du,n11,cB⟩:Int×List Int×List Int×Nat×Option Addr×Nat×Hp×Option Addr×Nat×Hp)=>((x3,x4,x5)=z6/\ak (Fl.int .i64) 3 x4 cy n10 bX/\ak (Fl.int .i32) 21 x5 du n11 cB,[(9,(pp b9))],[(cl b9 217 [(ii x3),(ll cy x4 n10),(ll du x5 n11)]),bX,cB])) J J (λz6 Z3 _=>?_) ?_)))))
 ·refine ks [0,1,4,5,6,7] J (fz J (rz [] mix (bO bN) (λhg pf=>ha T 12 [0,1,2] sz hg pf J (av 3 sz hg pf J (aw T J J J J (aF (j:=2) J J)) (ha T 7 [4,6,7,8] sz hg pf J (av 9 sz hg pf J (aw T J J J J (aF (j:=2) J J)) (ha T 5 [10] sz hg pf J (gy 5 13 ?_ ?_))))))))
  ·refine kh [5] J BP Z3 (pO.c · lh) (λv7 Z3=>an sz (gy 11 13 ?_ ?_))
   ·refine kR jY.R [5] [5] J Jf Z3 (jY.c · lh) (λv8 Z3=>?_);rintro _ _ ⟨a12,n12,dt,dw,rfl,rfl⟩;refine fz J (an (so [0,0,0,0,0,2,0]) (ha T 2 [12] (so [0,0,0,0,0,2,0]) hg pf J (ao 13 (nw T J (λY9=>an (so [0,0,0,0,0,2,0]) (ao 14 (sf T 8 J (an (so [0,0,0,0,0,2,0]) (ae (rx T 1 (bq (am (_,_,_,_,_,_,_,_,_,_) [0,0,3,2,0,2,0,1,0,0] ⟨oi Z3,dw,ak.nil⟩ J J))))))))))))
   refine nw T J (λIE=>an (so [0,0,0,0,0,0,0]) (ao 11 (kR jY.R [5] [5] J Jf Z3 (jY.c · lh) (λv9 Z3=>?_))));rintro _ _ ⟨jV,n15,dJ,dP,rfl,rfl⟩;refine fz J (an (so [0,0,0,0,0,3,0]) (ha T 1 [12] (so [0,0,0,0,0,3,0]) hg pf J (ao 14 (sf T 6 J (an (so [0,0,0,0,0,3,0]) (ae (rx T 1 (bq (am (_,_,_,_,_,_,_,_,_,_) [0,0,3,2,0,3,0,0,0,0] ⟨oi Z3,dP,ak.nil⟩ J J)))))))))
  refine nw T J (λqh=>an (so [0,0,0,0,0,0,0]) (ao 5 (kh [5] J BP Z3 (pO.c · lh) (λv10 Z3=>an (so [0,0,0,0,0,0,0]) (ao 11 (kR jY.R [5] [5] J Jf Z3 (jY.c · lh) (λv11 Z3=>?_)))))));rintro _ _ ⟨a17,n17,ek,fq,rfl,rfl⟩;refine fz J (an (so [0,0,0,0,0,3,0]) (ha T 1 [12] (so [0,0,0,0,0,3,0]) hg pf J (ao 14 (sf T 6 J (an (so [0,0,0,0,0,3,0]) (ae (rx T 1 (bq (am (_,_,_,_,_,_,_,_,_,_) [0,0,3,2,0,3,0,0,0,0] ⟨oi Z3,fq,ak.nil⟩ J J)))))))))
 rintro _ ⟨x3,x4,x5,b9,cy,n10,bX,du,n11,cB⟩ ⟨rfl,bS,cS⟩ H;refine rc T 9 (lf T 7 J (ro T 5 (bq (lq [4,5,6,7,9,48,49] [0,0,0,0,3,3,3,0,0,0] (λ(⟨yL,bd,cm,mc,n19,kJ⟩:Nat×List Int×Int×Option Addr×Nat×Hp)=>(jk.l0 yL v1 v2 x3 x4 bd cm=some r/\ak (Fl.int .i64) 3 bd mc n19 kJ,[(10,(ll mc bd n19)),(50,(ii cm))],[kJ])) J J (fuel,[],0,none,0,[]) [0,0,0,0,3,3,3,0,0,0,0] ⟨H,ak.nil⟩ J J ?_))));rintro yL ⟨bd,cm,mc,n19,kJ⟩ ⟨Z9,gT⟩;rw[jk.l0] at Z9;refine rc T 6 (cd J Z9 (λZ9=>?_) (λZ9=>?_))
 ·refine rc T 6 ?_;obtain⟨eh,Z9⟩:=az Z9;obtain⟨q20,o20,zY⟩:=bS.r.addr eh.1 eh.2;refine ix T J zY eh (le T 0 (oO bS 5) zY eh J J (ro T 8 (k [] J FM Z9 (qQ.c ·) (λv17 Z9=>aX (cV (k:=(Fl.int .i64)) T [v17] J J J J J J J J J (λa21 lj jQ=>?_))))));obtain⟨je,Z9⟩:=az Z9;refine aX (dR (k:=(Fl.int .i64)) (xs:=bd) T (g:=10) J J J J J J J J J J gT (oO jQ 11) je J (λa22 n22 mv iO=>ro T 9 (ar (_,_,_,_,_) [0,0,0,0,0,0,0,0,0,0,0] ⟨Z9,iO⟩ J J)))
 refine rc T 7 (lm T 2 J (ro T 1 (kr jD.R [] [] J acQ Z9 (jD.c · (oO s7 3) s7.bV (oO gT 10) gT.bV) (λfF Z9=>?_))));rintro _ _ ⟨a23,n23,jF,gU,rfl,rfl⟩;refine fz J (ro T 11 ?_);obtain⟨yh,Z9⟩:=az Z9;refine aX (x_ (k:=(Fl.int .i32)) T (0:Int) J J J J J J J J yh J (λa24 n24 qX lX=>ro T 1 (sg T 4 J (ro T 11 (lq [4,9,72,73] [0,0,3,8,4,4,4] (λ(⟨Gp,dh,bU,a26,n26,oz⟩:Nat×List Int×Int×Option Addr×Nat×Hp)=>(jk.l1 Gp x3 x4 fF dh bU=some r/\ak (Fl.int .i32) 21 dh a26 n26 oz,[(74,(ii bU))],[(cl b9 217 [(ii x3),(ll cy x4 n10),(ll a26 dh n26)]),oz])) J J (fuel,(List.replicate (Int.toNat (List.length fF.1:Int)) (0:Int)),0,a24,n24,qX) [0,0,3,8,4,4,4,2,4] ⟨Z9,lX⟩ J J ?_)))));rintro Gp ⟨dh,bU,a26,n26,oz⟩ ⟨pF,nI⟩;rw[jk.l1] at pF;refine rc T 6 (cd J pF (λpF=>?_) (λpF=>?_))
 ·refine rc T 7 ?_;obtain⟨lA,pF⟩:=az pF;obtain⟨GV,o27,BH⟩:=gU.r.addr lA.1 lA.2;refine ix T J BH lA (le T 0 (oO gU 3) BH lA J J (ro T 7 (lf T 7 J (ro T 1 ?_))));obtain⟨zM,pF⟩:=az pF;obtain⟨q28,o28,IL⟩:=nI.r.addr zM.1 zM.2;refine ix T J IL zM (aX (kK (k:=(Fl.int .i32)) T 8 0 (-1) J J J J J J nI IL zM J J J (λqY qH=>kg [4,9,15,16,72,73,74] [0,0,0,0,0,0,0,1] [0,0,0,0,0,0,0,1,0] [] [(cl b9 217 [(ii x3),(ll cy x4 n10),(ll a26 (List.set dh (Int.toNat bU) (-1)) n26)])] J J trivial (by first |rfl |(simp only[ll,List.length_set];rfl)) (ro T 8 ?_))))
  refine cb J pF (λpF=>?_) (λpF=>?_)
  ·refine rc T 2 (lf T 8 J (ro T 3 ?_));obtain⟨lN,pF⟩:=az pF;refine ix T J IL lN (aX (kK (k:=(Fl.int .i32)) T 7 0 (IntKind.i32.wrap (rd fF.1 bU)) J J J J J J qH IL lN J J J (λqZ pr=>kg [4,9,72,73,74] [0,0,0,0,0,0,0,0] [0,0,0,0,0,0,0,0,0] [] [(cl b9 217 [(ii x3),(ll cy x4 n10),(ll a26 (List.set (List.set dh (Int.toNat bU) (-1)) (Int.toNat bU) (IntKind.i32.wrap (rd fF.1 bU))) n26)])] J J trivial (by first |rfl |(simp only[ll,List.length_set];rfl)) (ro T 8 ?_))))
   exact ar (_,_,_,_,_) [0,0,0,0,0,0,0,1,0] ⟨pF,pr⟩ J J
  refine rc T 8 (ar (_,_,_,_,_) [0,0,0,0,0,0,0,1,0] ⟨pF,qH⟩ J J)
 refine rc T 7 (lm T 7 J (sg T 1 J (ro T 3 ?_)))
 cases pF;refine dj [4,5] J kS (pb T J (.cO (j:=1) [(ii x3),(ll cy x4 n10),(ll a26 dh n26)] J J J J J J J .nil) [2,5,5,3,0] ⟨(_,_),cy,n10,bX,a26,n26,oz,bS,nI,J,J⟩ J J)
def ny.l0:Nat->bw->(List Int)->dH->Int->Option (Int×dH)
 |0,_,_,_,_=>none
 |k6+1,mG,v1,x4,x5=>if x5<(List.length v1:Int) then(if(0<=x5/\x5<(List.length v1:Int)) then((jk.f x4 (rd v1 x5) mG).bind λv7=>if(0<=(rd v1 x5)/\(rd v1 x5)<(List.length x4.parts:Int)) then((rM.f x4.count 1).bind λv8=>ny.l0 k6 mG v1 (dH.mk (List.set x4.parts (Int.toNat (rd v1 x5)) v7) x4.clean v8) (aa (x5+1))) else none) else none) else((oW.f mG).bind λv9=>some ((List.length v1:Int),(dH.mk x4.parts v9 x4.count)))
def ny.f (m:dH) (mG:bw):Option (Int×dH):=(nu.f m mG).bind λv1=>ny.l0 fuel mG v1 m 0
def ny.R (ZS:Nat) (ae4:Nat) (r:(Int×dH)) (u:Value) (G:List Hp):Prop:= ∃(H0:Hp),mw r.2 ZS ae4 H0/\u=(ii r.1)/\G=[H0]
theorem ny.c (H:ny.f m mG=some r) (rJ:mw m iI kP mT) (lh:iE mG kP lp):
 QR 181 [(pp iI)] [mT,lp] [lp] F (ny.R iI kP r):=by
 unfold ny.f at H;refine aB Tryz.func181 J J (λW=>rc T 12 (eD J (rc T 5 (kr nu.R [0,0] [0,0] J adM H (nu.c · rJ lh) (λv1 H=>?_)))));rintro _ _ ⟨a3,n3,H3,s3,rfl,rfl⟩;refine fz J (ro T 12 (lq [0,3,10,11] [0,2,0] (λ(⟨k6,x4,x5,H5⟩:Nat×dH×Int×Hp)=>(ny.l0 k6 mG v1 x4 x5=some r/\mw x4 iI kP H5,[(12,(ii x5))],[H5])) J J (fuel,m,0,mT) [0,2,0,0] ⟨H,rJ⟩ J J ?_));rintro k6 ⟨x4,x5,H5⟩ ⟨Z2,s5⟩;rw[ny.l0] at Z2;refine rc T 6 (cd J Z2 (λZ2=>?_) (λZ2=>?_))
 ·refine rc T 6 ?_;obtain⟨c4,Z2⟩:=az Z2;obtain⟨q6,o6,e6⟩:=s3.r.addr c4.1 c4.2;refine ix T J e6 c4 (le T 0 (oO s3 2) e6 c4 J J (ro T 4 ?_));obtain⟨a9,n9,H9,s9,rp⟩:=(λx=>x) s5;refine bP 3 (congrArg some rp) (fz J (fz J (rz [9] mix (bO bN) (λhg pf=>ha T 7 [0,1,2] sz hg pf J (av 3 sz hg pf J (aw T J J J J (aF (j:=3) J J)) (ha T 3 [4,5,6] sz hg pf J (ao 7 ?_)))))));obtain⟨v7,V5,Z2⟩:=gj Z2;refine Fa (As:=[(cl iI 213 [(pp kP),(ll a9 x4.parts n9),(ii x4.clean),(uu x4.count)]),H9,lp]) (jk.R v7) [(cl iI 213 [(pp kP),(ll a9 x4.parts n9),(ii x4.clean),(uu x4.count)]),H9,lp] [3,3,1] J J J J acy J J (IK (A:=[H5,lp]) (A2:=[H5,lp]) (by simp only[rp,List.flatten_cons,List.flatten_append,List.flatten_nil,List.append_nil,List.append_assoc]) (by simp only[rp,List.flatten_cons,List.flatten_append,List.flatten_nil,List.append_nil,List.append_assoc]) (jk.c V5 s5 lh)) ?_
  rintro _ _ ⟨cy,n10,bX,du,n11,cB,bS,cS,rfl,rfl⟩;refine fz J (an (so [0,5,0,2,2]) ?_);obtain⟨c6,Z2⟩:=az Z2;obtain⟨vx,Og,si⟩:=s9.r.addr c6.1 c6.2;refine av 8 (so [0,5,0,2,2]) hg pf J (cn T J J J J J si c6.1 c6.2) (ao 9 (Lw (j:=5) J s9 c6 (λ_ _ dJ o15 dP=>?_)));obtain⟨dD,n13,ei,iG,n14,fG,cz,fp,rfl,rfl⟩:=o15;refine Lz (Lx T 5 0 [(ii v7.version),(ll cy v7.nodes n10),(ll du v7.aR n11)] J J J J J J dP si J J J J (λfX fR=>an sl (ae (gi [2,2] J (Lv (j:=3) (q:=7) v7 J fR J J ⟨cy,n10,bX,du,n11,cB,bS,cS,J,J⟩ (λfc ft=>kg [0,3,10,11,12] [0,0,1,1] [0,0,1,1,0] [] [(cl iI 213 [(pp kP),(ll a9 (List.set x4.parts (Int.toNat (rd v1 x5)) v7) n9),(ii x4.clean),(uu x4.count)])] J J trivial (by first |rfl |(simp only[ll,List.length_set];rfl)) (rx T 6 (lf T 4 J ?_))))))))
  refine k [] J Jc Z2 (rM.c ·) (λv8 Z2=>ro T 2 (sg T 4 J (ro T 8 (gi [4,2] J (ar (_,_,_) [0,1,0,0] ⟨Z2,(show mw (dH.mk (List.set x4.parts (Int.toNat (rd v1 x5)) v7) x4.clean v8) iI kP (List.flatten [(cl iI 213 [(pp kP),(ll a9 (List.set x4.parts (Int.toNat (rd v1 x5)) v7) n9),(ii x4.clean),(uu v8)]),fc]) from⟨a9,n9,fc,ft,J⟩)⟩ J J)))))
 refine rc T 6 ?_;obtain⟨a21,n21,lj,jQ,FE⟩:=(λx=>x) s5;refine bP 3 (congrArg some FE) (fz J (rc T 5 (lf T 3 J (k [1] J BO Z2 (oW.c · lh) (λv9 Z2=>ro T 2 (sg T 3 J (ro T 10 ?_)))))))
 cases Z2;refine gi [3,3] J (p1 T J [3,1,0] ⟨(List.flatten [(cl iI 213 [(pp kP),(ll a21 x4.parts n21),(ii v9),(uu x4.count)]),lj]),(show mw (dH.mk x4.parts v9 x4.count) iI kP (List.flatten [(cl iI 213 [(pp kP),(ll a21 x4.parts n21),(ii v9),(uu x4.count)]),lj]) from⟨a21,n21,lj,jQ,J⟩),J,J⟩ J)
def wZ.f (m:dH) (bB:Int) (mG:bw):Option (List Int):=(if bB<0 then(some true) else(some (decide (bB≥(List.length m.parts:Int))))).bind λx1=>if x1=true then(some []) else(if(0<=bB/\bB<(List.length m.parts:Int)) then((pZ.f ((rd m.parts bB).nodes)).bind λv3=>some v3) else none)
def wZ.R (r:(List Int)) (u:Value) (G:List Hp):Prop:= ∃(a0:Option Addr) (n0:Nat) (H0:Hp),ak (Fl.int .i64) 3 r a0 n0 H0/\u=(ll a0 r n0)/\G=[H0]
theorem wZ.c (H:wZ.f m bB mG=some r) (rJ:mw m iI kP mT) (lh:iE mG kP lp):
 QR 215 [(pp iI),(ii bB)] [mT,lp] [mT,lp] F (wZ.R r):=by
 unfold wZ.f at H;refine aB Tryz.func215 J J (λW=>rc T 6 (mq H [0,1] [2,0,0] (λz2 (x1:Bool)=>(x1=z2,[(19,(bb x1))],[])) J J (λz2 Z1 _=>?_) ?_))
 ·obtain⟨a5,n5,H5,s5,dp⟩:=(λx=>x) rJ;refine bP 0 (congrArg some dp) (fz J (rc T 8 (ad 11 J Z1 (λZ1=>?_) (λZ1=>?_))))
  ·refine ro T 10 (dj [2,2] J dp (am _ [1,1,0] (oi Z1) J J))
  refine ro T 4 (lf T 2 J (ro T 5 (dj [2,2] J dp (am _ [1,1,0] (oi Z1) J J))))
 rintro _ x1 rfl H;refine cb J H (λH=>?_) (λH=>?_)
 ·refine rc T 7 ?_
  cases H;refine bq (p1 T J [3,1,1,0] ⟨none,0,[],ak.nil,J,J⟩ J)
 refine rc T 3 ?_;obtain⟨a9,n9,H9,s9,rp⟩:=(λx=>x) rJ;refine bP 1 (congrArg some rp) (fz J (rc T 4 (lf T 2 J (ro T 1 ?_))));obtain⟨c4,H⟩:=az H;obtain⟨Kn,Ke,pK⟩:=s9.r.addr c4.1 c4.2;refine ix T J pK c4 (ro T 1 ?_);obtain⟨_,w13,⟨du,n11,a12,n12,⟨VL,m11⟩,⟨r12,m12⟩,rfl⟩⟩:=mW.view s9.r c4;refine lg T J (B5 (j:=3) J w13 pK 1 J) (kr pZ.R [] [] J MT H (pZ.c · (rO VL 3) m11) (λv3 H=>?_));rintro _ _ ⟨iG,n14,fG,fp,rfl,rfl⟩;refine fz J (ro T 4 ?_)
 cases H;refine dj [2,2] J rp (p1 T J [2,2,1,0] ⟨iG,n14,fG,fp,J,J⟩ J)
def D4.f (p:ph) (cell:Int):Option (Int×Bool):=(ot.f p.nodes cell).bind λv1=>some (v1.1,v1.2)
theorem D4.c (H:D4.f p cell=some r) (J0:Bf LH Oh [(ii p.version),(ll Ll p.nodes N'),(ll Lk p.aR N_)] F) (R7:aT (Fl.int .i64) p.nodes Ll F) (Qy:List.length p.nodes<=N') (MF:aT (Fl.int .i32) p.aR Lk F) (ZK:List.length p.aR<=N_):
 QU 272 [(.pointer (some ⟨LH,Oh+0,none⟩)),(ii cell)] [] F (.tuple #[(ii r.1),(bb r.2)]):=by
 unfold D4.f at H;refine aB Tryz.func272 J J (λW=>rc T 11 (lg T J (NO J0 (j:=0) J 1 J) (ro T 1 (k [] J ade H (ot.c · (rO R7 0) Qy) (λv1 H=>ro T 7 ?_)))))
 cases H;exact p0 T J [0] J
def sE.f (m:dH) (cell:Int) (mG:bw):Option ((Option Int)×Int×Bool):=(iJ.f mG).bind λv1=>(gG.f v1.1 v1.2 cell).bind λv2=>if v2<0 then(some (none,0,false)) else(if(0<=v2/\v2<(List.length m.parts:Int)) then((D4.f (rd m.parts v2) cell).bind λv3=>some ((some v2),v3.1,v3.2)) else none)
def sE.R (xa0:Option Addr) (xl0:Nat) (r:((Option Int)×Int×Bool)) (u:Value) (G:List Hp):Prop:= ∃(u0:Value),Xv r.1 xa0 xl0 3 u0/\u=(.tuple #[u0,(ii r.2.1),(bb r.2.2)])/\G=[]
theorem sE.c (H:sE.f m cell mG=some r) (Wb:gv Ot 217 m.parts Lh UF Px) (lh:iE mG kP lp):
 QR 243 [(pp iI),(ii cell)] [(cl iI 213 [(pp kP),(ll Lh m.parts UF),(ii m.clean),(uu m.count)]),Px,lp] [(cl iI 213 [(pp kP),(ll Lh m.parts UF),(ii m.clean),(uu m.count)]),Px,lp] F (sE.R Lh (List.length m.parts) r):=by
 unfold sE.f at H;refine aB Tryz.func243 J J (λW=>rc T 14 (eD J (rc T 7 (lf T 0 J (k [2] J tI H (iJ.c · lh) (λv1 H=>ro T 12 (k [] J ru H (gG.c ·) (λv2 H=>ro T 10 (cd J H (λH=>?_) (λH=>?_))))))))))
 ·refine rc T 9 ?_
  cases H;exact p1 T J [0,0,0,0] ⟨_,J,J,J⟩ J
 refine rc T 7 (lf T 0 J (ro T 1 ?_));obtain⟨c4,H⟩:=az H;obtain⟨q4,o4,e4⟩:=Wb.r.addr c4.1 c4.2;refine ix T J e4 c4 (ro T 7 ?_);obtain⟨_,w7,⟨a5,n5,a6,n6,⟨r5,m5⟩,⟨r6,m6⟩,rfl⟩⟩:=mW.view Wb.r c4;refine k [] J ac7 H (D4.c · (Qd w7 e4 (j:=1) J) (rO r5 1) m5 (rO r6 1) m6) (λv3 H=>ro T 18 ?_)
 cases H;exact p1 T J [0,0,0,0] ⟨_,⟨c4,q4,o4,e4,J⟩,J,J⟩ J
def Cg.f (p:ph) (i:Int) (j:Int):Option Int:=if(0<=(aa ((aa (i*(List.length p.nodes:Int)))+j))/\(aa ((aa (i*(List.length p.nodes:Int)))+j))<(List.length p.aR:Int)) then(if((rd p.aR (aa ((aa (i*(List.length p.nodes:Int)))+j)))!=(-1))=true then(some (aa (rd p.aR (aa ((aa (i*(List.length p.nodes:Int)))+j))))) else(some 1099511627776)) else none
theorem Cg.c (H:Cg.f p i j=some r) (J0:Bf LH Oh [(ii p.version),(ll Ll p.nodes N'),(ll Lk p.aR N_)] F) (R7:aT (Fl.int .i64) p.nodes Ll F) (Qy:List.length p.nodes<=N') (MF:aT (Fl.int .i32) p.aR Lk F) (ZK:List.length p.aR<=N_):
 QU 244 [(.pointer (some ⟨LH,Oh+0,none⟩)),(ii i),(ii j)] [] F (ii r):=by
 unfold Cg.f at H;refine aB Tryz.func244 J J (λW=>rc T 7 (dA mix ay (aj T J (aj T J (aj T J (aO J J J (aw T J J J J (NO J0 (j:=0) J 2 J)) ?_))))))
 iterate 4 refine aj T J ?_
 refine aO J J J (aw T J J J J (NO J0 (j:=0) J 1 J)) ?_
 iterate 4 refine aj T J ?_
 obtain⟨c1,H⟩:=az H;obtain⟨q1,o1,e1⟩:=MF.addr c1.1 c1.2;refine aO J J J (cn T J J J J J e1 c1.1 c1.2) (aO J J J (aw T J J J J (e_ (k:=(Fl.int .i32)) (rO MF 0) e1 c1 0 J)) (aj T J (cH (rx T 7 (cb J H (λH=>?_) (λH=>?_))))))
 ·refine rc T 9 ?_
  cases H;exact p0 T J [0] J
 refine rc T 8 ?_
 cases H;exact p0 T J [0] J
def gR.l1:Nat->dH->Int->bw->Int->(Int×Int)->List dU->Int->Option (List dU)
 |0,_,_,_,_,_,_,_=>none
 |lE+1,m,b,mG,eX,v10,aU,bd=>if bd<=3 then((l8.f v10.1 v10.2 b bd).bind λd_=>(sE.f m d_ mG).bind λv17=>dq v17.1 (if v17.2.2=true then((jf.f mG b).bind λfF=>if(List.length aU+1<=1099511627776) then(gR.l1 lE m b mG eX v10 (aU++[(dU.mk d_ fF)]) (aa (bd+1))) else none) else(gR.l1 lE m b mG eX v10 aU (aa (bd+1)))) (λWX=>if v17.2.2=true then(if(!(WX==eX))=true then((jf.f mG b).bind λnQ=>if(List.length aU+1<=1099511627776) then(gR.l1 lE m b mG eX v10 (aU++[(dU.mk d_ nQ)]) (aa (bd+1))) else none) else(gR.l1 lE m b mG eX v10 aU (aa (bd+1)))) else(gR.l1 lE m b mG eX v10 aU (aa (bd+1))))) else(some aU)
def gR.l0:Nat->dH->Int->bw->((Option Int)×Int×Bool)->Int->List dU->Int->Option (List dU)
 |0,_,_,_,_,_,_,_=>none
 |k6+1,m,b,mG,v1,eX,x4,x5=>if x5<(List.length ((rd m.parts eX).nodes):Int) then((if(0<=x5/\x5<(List.length ((rd m.parts eX).nodes):Int)) then((Cg.f (rd m.parts eX) x5 v1.2.1).bind λv9=>if((x5 !=v1.2.1)&&(v9 !=1099511627776))=true then(if(List.length x4+1<=1099511627776) then(some (x4++[(dU.mk (rd ((rd m.parts eX).nodes) x5) v9)])) else none) else(some x4)) else none).bind λx7=>gR.l0 k6 m b mG v1 eX x7 (aa (x5+1))) else((iJ.f mG).bind λv10=>gR.l1 fuel m b mG eX v10 x4 0)
def gR.f (m:dH) (b:Int) (mG:bw):Option (List dU):=(sE.f m b mG).bind λv1=>dq v1.1 (if(!v1.2.2)=true then(some []) else(none)) (λeX=>if(!v1.2.2)=true then(some []) else(if(0<=(0:Int)/\(0:Int)<=(aa ((List.length ((rd m.parts eX).nodes):Int)+1))/\(aa ((List.length ((rd m.parts eX).nodes):Int)+1))<=1099511627776) then(gR.l0 fuel m b mG v1 eX (List.replicate (Int.toNat 0) (default:dU)) 0) else none))
def gR.R (r:(List dU)) (u:Value) (G:List Hp):Prop:= ∃(a0:Option Addr) (n0:Nat) (H0:Hp),ak pe 283 r a0 n0 H0/\u=(ll a0 r n0)/\G=[H0]
theorem gR.c (H:gR.f m b mG=some r) (rJ:mw m iI kP mT) (lh:iE mG kP lp):
 QR 219 [(pp iI),(ii b)] [mT,lp] [mT,lp] F (gR.R r):=by
 unfold gR.f at H;refine aB Tryz.func219 J J (λW=>rc T 6 ?_);obtain⟨a5,n5,H5,s5,dp⟩:=(λx=>x) rJ;refine bP 0 (congrArg some dp) (fz J (rc T 3 (kr (sE.R a5 (List.length m.parts)) [2,2,0] [2,2,0] J SK H (sE.c · s5 lh) (λv1 H=>?_))));rintro _ _ ⟨_,X2,rfl,rfl⟩;refine fz J ?_;rcases JI:v1.1 with _ |eX
 ·replace H:=eT JI H;rw[JI] at X2;obtain rfl:=X2;refine ro T 16 (cb J H (λH=>?_) (λH=>?_))
  ·refine rc T 7 ?_
   cases H;refine dj [1,1] J dp (bq (p1 T J [3,2,1,0] ⟨none,0,[],ak.nil,J,J⟩ J))
  refine rc T 5 ?_
  cases H
 replace H:=eU JI H;rw[JI] at X2;obtain⟨Mw,q6,o6,e6,rfl⟩:=X2;refine ro T 16 (cb J H (λH=>?_) (λH=>?_))
 ·refine rc T 7 ?_
  cases H;refine dj [1,1] J dp (bq (p1 T J [3,2,1,0] ⟨none,0,[],ak.nil,J,J⟩ J))
 refine rc T 7 ?_;obtain⟨_,WR,⟨a9,n9,cy,n10,⟨r9,m9⟩,⟨Ou,m10⟩,rfl⟩⟩:=mW.view s5.r Mw;refine lg T J (B5 (j:=2) J WR e6 1 J) (ro T 2 ?_);obtain⟨c5,H⟩:=az H;refine aX (YE (k:=pe) T (default:dU) J J J J J J J J c5 J (λa12 n12 dt dw=>ro T 9 (lg T J (B5 (j:=2) J WR e6 1 J) (ro T 5 (lq [0,1,5,6,38,39] [0,0,1,0] (λ(⟨k6,x4,x5,iG,n14,fG⟩:Nat×List dU×Int×Option Addr×Nat×Hp)=>(gR.l0 k6 m b mG v1 eX x4 x5=some r/\ak pe 283 x4 iG n14 fG,[(8,(ll iG x4 n14)),(40,(ii x5))],[fG])) J J (fuel,(List.replicate (Int.toNat 0) (default:dU)),0,a12,n12,dt) [0,0,1,0,0] ⟨H,dw⟩ J J ?_)))));rintro k6 ⟨x4,x5,iG,n14,fG⟩ ⟨Z6,fp⟩;rw[gR.l0] at Z6;refine rc T 6 (cd J Z6 (λZ6=>?_) (λZ6=>?_))
 ·refine rc T 2 (mq Z6 [0,1,5,6,38,39,40] [0,0,0,0] (λz8 (⟨x7,jV,n15,dJ⟩:List dU×Option Addr×Nat×Hp)=>(x7=z8/\ak pe 283 x7 jV n15 dJ,[(8,(ll jV x7 n15))],[dJ])) J J (λz8 Z8 _=>?_) ?_)
  ·refine rc T 4 ?_;obtain⟨c9,Z8⟩:=az Z8;obtain⟨Vu,UQ,zW⟩:=r9.addr c9.1 c9.2;refine ix T J zW c9 (le T 0 (rO r9 3) zW c9 J J (ro T 9 ?_));obtain⟨_,w19,⟨a17,n17,jc,n18,⟨r17,m17⟩,⟨r18,m18⟩,rfl⟩⟩:=mW.view s5.r Mw;refine k [] J acU Z8 (Cg.c · (Qd w19 e6 (j:=3) J) (rO r17 3) m17 (rO r18 3) m18) (λv9 Z8=>ro T 9 (ga T [4,5,6] 52 [0,1,5,6,8,10,11,38,39,40] 55 J J J J J J J (ro T 2 (cb J Z8 (λZ8=>?_) (λZ8=>?_)))))
   ·refine rc T 5 (aX (cV (k:=pe) T [(dU.mk (rd ((rd m.parts eX).nodes) x5) v9)] J J J J J J J J J (λa20 nU lW=>?_)));obtain⟨gY,Z8⟩:=az Z8;refine aX (dR (k:=pe) (xs:=x4) T (g:=4) J J J J J J J J J J fp (oO lW 5) gY J (λa21 n21 lj jQ=>ro T 4 (am (_,_,_,_) [0,0,0,0,0] ⟨oi Z8,jQ⟩ J J)))
   refine rc T 3 (am (_,_,_,_) [0,0,0,0,0] ⟨oi Z8,fp⟩ J J)
  rintro _ ⟨x7,jV,n15,dJ⟩ ⟨rfl,dP⟩ Z6;refine rc T 5 (ar (_,_,_,_,_) [0,0,0,0,0] ⟨Z6,dP⟩ J J)
 refine rc T 10 (lf T 1 J (k [2] J tI Z6 (iJ.c · lh) (λv10 Z6=>ro T 14 (lq [0,1,5,12,13] [0,0,0,0] (λ(⟨lE,aU,bd,a23,n23,jF⟩:Nat×List dU×Int×Option Addr×Nat×Hp)=>(gR.l1 lE m b mG eX v10 aU bd=some r/\ak pe 283 aU a23 n23 jF,[(8,(ll a23 aU n23)),(14,(ii bd))],[jF])) J J (fuel,x4,0,iG,n14,fG) [0,0,0,0,0] ⟨Z6,fp⟩ J J ?_))));rintro lE ⟨aU,bd,a23,n23,jF⟩ ⟨cj,gU⟩;rw[gR.l1] at cj;refine rc T 7 (cd J cj (λcj=>?_) (λcj=>?_))
 ·refine rc T 10 (k [] J Ab cj (l8.c ·) (λd_ cj=>ro T 7 (kr (sE.R a5 (List.length m.parts)) [1,2,1] [1,2,1] J SK cj (sE.c · s5 lh) (λv17 cj=>?_))));rintro _ _ ⟨_,Io,rfl,rfl⟩;refine fz J ?_;rcases JK:v17.1 with _ |WX
  ·replace cj:=eT JK cj;rw[JK] at Io;obtain rfl:=Io;refine ro T 13 (ab 88 J cj (λcj=>?_) (λcj=>?_))
   ·refine ro T 2 (br J (abl T J J J J) (ro T 3 (mY J (rc T 6 (lf T 2 J (ro T 1 (k [4] J uZ cj (jf.c · lh) (λfF cj=>ro T 1 (aX (cV (k:=pe) T [(dU.mk d_ fF)] J J J J J J J J J (λa25 gW jA=>?_)))))))))));obtain⟨lN,cj⟩:=az cj;refine aX (dR (k:=pe) (xs:=aU) T (g:=1) J J J J J J J J J J gU (oO jA 5) lN J (λa26 n26 oz nI=>ro T 10 (ar (_,_,_,_,_) [0,1,2,1,0] ⟨cj,nI⟩ J J)))
   refine ro T 6 (eD J (rc T 9 (ar (_,_,_,_,_) [0,1,2,1,0] ⟨cj,gU⟩ J J)))
  replace cj:=eU JK cj;rw[JK] at Io;obtain⟨abz,q24,o24,e24,rfl⟩:=Io;refine ro T 13 (ab 88 J cj (λcj=>?_) (λcj=>?_))
  ·refine ro T 2 (br J (abm T J J J J J J e24 e6 abz.1 Mw.1) (ro T 3 (cb J cj (λcj=>?_) (λcj=>?_))))
   ·refine rc T 6 (lf T 2 J (ro T 1 (k [4] J uZ cj (jf.c · lh) (λnQ cj=>ro T 1 (aX (cV (k:=pe) T [(dU.mk d_ nQ)] J J J J J J J J J (λIp EJ vF=>?_)))))));obtain⟨Zx,cj⟩:=az cj;refine aX (dR (k:=pe) (xs:=aU) T (g:=1) J J J J J J J J J J gU (oO vF 5) Zx J (λa28 n28 um j7=>ro T 10 (ar (_,_,_,_,_) [0,1,2,1,0] ⟨cj,j7⟩ J J)))
   refine rc T 9 (ar (_,_,_,_,_) [0,1,2,1,0] ⟨cj,gU⟩ J J)
  refine ro T 6 (eD J (rc T 9 (ar (_,_,_,_,_) [0,1,2,1,0] ⟨cj,gU⟩ J J)))
 refine rc T 12 ?_
 cases cj;refine dj [1,2] J dp (p1 T J [2,2,1,0] ⟨a23,n23,jF,gU,J,J⟩ J)
end
end Go.Proofs.YthodkonhneebbaaGreatDoor
