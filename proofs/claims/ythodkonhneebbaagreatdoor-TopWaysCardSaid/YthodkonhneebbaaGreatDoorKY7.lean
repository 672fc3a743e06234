/- What the functions of some packages compute, each as a function of plain Lean, with its contract. No condition. -/
import Derived.Test.YthodkonhneebbaaGreatDoorKYT
import Derived.Test.YthodkonhneebbaaGreatDoorKY5
import Derived.Test.YthodkonhneebbaaGreatDoorKYSort
open Int renaming tmod->fJ,tdiv->dm,toNat->ax
open List renaming length->aa,set->aG,replicate->cy,flatten->bo,flatten_cons->wa,flatten_append->v_,flatten_nil->wb,append_nil->oq,append_assoc->pn,length_cons->kU,length_nil->tY
open BitVec renaming toNat->gi,ofInt->b_
open Nat renaming le_refl->l7
namespace Go.Hx
section
variable {W : World} {P : Program} {n : Nat} {F K : Act -> World -> Prop} {Q : Exit -> Act -> World -> Prop} {env : Env} {HL : List Hp} {ops : Array Oper} {i : Nat} {rest : List Nat}
def gqF (js:List Nat) (HL:List Hp):Option (List Hp):=fH (sR js HL++[(sA js HL).flatten])
theorem gq (js:List Nat) {kQ:List Hp} (hs:gqF js HL=some kQ) (h:aK W n F env kQ):aK W n F env HL:=gM js (BZ js HL) (by rw[C0 hs];exact h)
def S7 (js:List Nat) (HL:List Hp):Option (List Hp×List Hp):=match fH (sA js HL),fH (sR js HL) with
 |some A,some R=>some (A,R)
 |_,_=>none
theorem cq (js:List Nat) {As R:List Hp} {H:Hp} (hs:S7 js HL=some (As,R)) (hH:H=As.flatten) (h:aK W n F env (R++[H])):aK W n F env HL:=by
 unfold S7 at hs;split at hs
 ·rename_i A R' h1 h2;simp only[Option.some.injEq,Prod.mk.injEq] at hs;obtain⟨rfl,rfl⟩:=hs;exact dH js (by rw[BZ,C0 h1,C0 h2]) hH h
 ·cases hs
theorem aq {kQ:List Hp} (hs:fH (HL++[[]])=some kQ) (h:aK W n F env kQ):aK W n F env HL:=bC (by rw[C0 hs];exact h)
theorem rq (late js:List Nat) {id:Nat} {H0:List Hp} (h0:nH js HL=some H0) (hm:P.follows .mixedOrders=true) (jS:PF Q)
 (h:pz ops (EI ops)=true->PF Q->aK W n (gK P ops Q (SO W H0) late ops.size (Array.replicate ops.size false)) env HL) (hg:pz ops (EI ops)=true:=by kernel_rfl):
 aK W n ((Code.region id ops true).wp P Q) env HL:=rg late js hm jS (by rw[IJ h0];exact h) hg
def Mt (T:Ty P) (ops:Array Oper) (env:Env) (i j:Nat) (HL:List Hp):Option (Nat×Nat×List Hp):=match Ji T ops env i j HL with
 |some (a,b,L)=>match fH L with
  |some L'=>some (a,b,L')
  |none=>none
 |none=>none
theorem YQ {T:Ty P} {j:Nat} {a b:Nat} {kQ:List Hp} (h:Mt T ops env i j HL=some (a,b,kQ)):Ji T ops env i j HL=some (a,b,kQ):=by
 unfold Mt at h;split at h
 ·rename_i a' b' L h1;split at h
  ·rename_i L' h2;simp only[Option.some.injEq,Prod.mk.injEq] at h;obtain⟨rfl,rfl,rfl⟩:=h;rw[h1,C0 h2]
  ·cases h
 ·cases h
theorem jv (T:Ty P) {b:Nat} {kQ:List Hp} (j:Nat) (h1:Mt T ops env i j HL=some (b,b,kQ)) (h:aK W n K env kQ):aK W n (wpOp P ops Q i K) env HL:=sf T j (YQ h1) h
theorem ku (T:Ty P) {b:Nat} {kQ:List Hp} (j:Nat) (h1:Mt T ops env i j HL=some (b,b,kQ)) (h:aK W n (wpOps P ops Q rest) env kQ):aK W n (wpOps P ops Q (i::rest)) env HL:=sg T j (YQ h1) h
theorem agI {A B X:Hp} (h:X=bo [A,B]): ∃C:Hp,C=B/\X=bo [A,C]:=⟨_,J,h⟩
end
end Go.Hx
namespace Go.Proofs.YthodkonhneebbaaGreatDoor
open Go.Hx
set_option maxRecDepth 100000
set_option linter.unusedSimpArgs false
set_option linter.unusedVariables false
set_option maxHeartbeats 4000000
set_option autoImplicit true
set_option relaxedAutoImplicit true
noncomputable section
def Eg.f (t:aJ) (cell:Int) (side:Int):Option Bool:=if(¬t.W=0) then(if(¬t.W=0) then(if(side==0)=true then(some ((af (dm cell t.W))==0)) else(if(side==1)=true then(some ((fJ cell t.W)==(af (t.W-1)))) else(if(side==2)=true then(some ((af (dm cell t.W))==(af (t.H-1)))) else(if(side==3)=true then(some ((fJ cell t.W)==0)) else(some (side==4)))))) else none) else none
theorem Eg.c (H:Eg.f t cell side=some r) (eB:aU (Fl.int .u8) t.C iN F) (fI:aa t.C<=iR):
 QU 223 [(.agg #[(ii t.W),(ii t.H),(ll iN t.C iR)]),(ii cell),(ii side)] [] F (bb r):=by
 unfold Eg.f at H;refine aH Tryz.func223 J J (λW=>rc T 2 (nc T J (λb1=>ro T 4 (dy mix aA (au T J (au T J (cB T 1 J J J ?_)))))));obtain⟨c1,H⟩:=aF H;refine br J J J (vh J J J c1) (au T J (au T J (cB T 1 J J J ?_)));obtain⟨c2,H⟩:=aF H;refine br J J J (vg J J J c2) (au T J (au T J (cU (rx T 14 (cb J H (λH=>?_) (λH=>?_))))))
 ·refine rc T 10 ?_
  cases H;exact p0 T J [0] J
 refine rc T 6 (cb J H (λH=>?_) (λH=>?_))
 ·refine rc T 4 (lf T 1 J (ro T 8 ?_))
  cases H;exact p0 T J [0] J
 refine rc T 6 (cb J H (λH=>?_) (λH=>?_))
 ·refine rc T 4 (lf T 1 J (ro T 8 ?_))
  cases H;exact p0 T J [0] J
 refine rc T 6 (cb J H (λH=>?_) (λH=>?_))
 ·refine rc T 10 ?_
  cases H;exact p0 T J [0] J
 refine rc T 11 ?_
 cases H;exact p0 T J [0] J
def Ef.f (s:a_) (aj:aJ):Option Bool:=(if s.Cell<0 then(some true) else(if s.Cell≥(aa aj.C:Int) then(some true) else(if(0<=s.Cell/\s.Cell<(aa aj.C:Int)) then(if((rd aj.C s.Cell)==255)=true then(some true) else(if s.Key<0 then(some true) else(if s.Key>1073741824 then(some true) else((Eg.f aj s.Cell s.cY).bind λv3=>some (!v3))))) else none))).bind λx1=>some x1
theorem Ef.c (H:Ef.f s aj=some r) (Iz:(vc,Obj.cells #[(ii aj.W),(ii aj.H),(ll J5 aj.C L2)] 139 (0,0))∈F) (E9:aU (Fl.int .u8) aj.C J5 F) (SJ:aa aj.C<=L2):
 QU 222 [(.agg #[(ii s.Cell),(ii s.cY),(ii s.Key)]),(pp vc)] [] F (bb r):=by
 unfold Ef.f at H;refine aH Tryz.func222 J J (λW=>rc T 2 (nc T J (λb1=>ro T 3 (mq H [] [0] (λz2 (x1:Bool)=>(x1=z2,[(3,(bb x1))],[])) J J (λz2 Z1 _=>?_) ?_))))
 ·refine rc T 2 (lf T 1 J (ro T 2 (ad 7 J Z1 (λZ1=>?_) (λZ1=>?_))))
  ·refine ro T 38 (am _ [0] (oi Z1) J J)
  refine ro T 1 (lf T 1 J (ro T 1 (lg T J (oP (j:=0) Iz J J) (ro T 4 (ad 15 J Z1 (λZ1=>?_) (λZ1=>?_))))))
  ·refine ro T 30 (am _ [0] (oi Z1) J J)
  refine ro T 1 (lg T J (oP (j:=0) Iz J J) (ro T 1 (lf T 1 J ?_)));obtain⟨c4,Z1⟩:=aF Z1;obtain⟨q2,o2,e2⟩:=E9.addr c4.1 c4.2;refine ix T J e2 c4 (le T 0 (rO E9 0) e2 c4 J J (ro T 3 (ab 24 J Z1 (λZ1=>?_) (λZ1=>?_))))
  ·refine ro T 21 (am _ [0] (oi Z1) J J)
  refine ro T 1 (lf T 1 J (ro T 3 (ad 29 J Z1 (λZ1=>?_) (λZ1=>?_))))
  ·refine ro T 16 (am _ [0] (oi Z1) J J)
  refine ro T 1 (lf T 1 J (ro T 3 (ad 34 J Z1 (λZ1=>?_) (λZ1=>?_))))
  ·refine ro T 11 (am _ [0] (oi Z1) J J)
  refine bz J (gp T (cs:=[(ii aj.W),(ii aj.H),(ll J5 aj.C L2)]) J J J J J J (agr (j:=0) Iz J J)) (ro T 1 (lf T 1 J (ro T 1 (lf T 1 J (k [] J aeL Z1 (Eg.c · (rO E9 0) SJ) (λv3 Z1=>ro T 5 (am _ [0] (oi Z1) J J)))))))
 rintro _ x1 rfl H;refine rc T 1 ?_
 cases H;exact p0 T J [0] J
def sk.l0:Nat->(List a_)->aJ->Int->Option Int
 |0,_,_,_=>none
 |k3+1,s,fM,x2=>if x2<(aa s:Int) then(if(0<=x2/\x2<(aa s:Int)) then((Ef.f (rd s x2) fM).bind λv4=>if v4=true then(some x2) else(sk.l0 k3 s fM (af (x2+1)))) else none) else(some (-1))
def sk.f (s:(List a_)) (fM:aJ):Option Int:=sk.l0 fuel s fM 0
theorem sk.c (H:sk.f s fM=some r) (jQ:aU cW s jl F) (sQ:aa s<=jt) (DC:(CN,Obj.cells #[(ii fM.W),(ii fM.H),(ll CG fM.C DK)] 139 (0,0))∈F) (C4:aU (Fl.int .u8) fM.C CG F) (CT:aa fM.C<=DK):
 QU 246 [(ll jl s jt),(.func (.func 222) #[] #[(pp CN)])] [] F (ii r):=by
 unfold sk.f at H;refine aH Tryz.func246 J J (λW=>rc T 14 (lq [0,1,7] [0] (λ(⟨k3,x2⟩:Nat×Int)=>(sk.l0 k3 s fM x2=some r,[(8,(ii x2))],[])) J J (fuel,0) [0] H J J ?_));rintro k3 x2 Z1;replace Z1:sk.l0 (k3+1) s fM x2=some r:=Z1;rw[sk.l0] at Z1;refine rc T 6 (cd J Z1 (λZ1=>?_) (λZ1=>?_))
 ·refine rc T 15 ?_;obtain⟨c3,Z1⟩:=aF Z1;obtain⟨q1,o1,e1⟩:=jQ.addr c3.1 c3.2;refine ix T J e1 c3 (bz J (gp T (cs:=[(ii (rd s x2).Cell),(ii (rd s x2).cY),(ii (rd s x2).Key)]) J J J J J J (iI (k:=cW) (rO jQ 0) e1 c3 J)) (k [] J aeK Z1 (Ef.c · (qT DC (j:=0) J) (rO C4 0) CT) (λv4 Z1=>ro T 2 (cb J Z1 (λZ1=>?_) (λZ1=>?_)))))
  ·refine rc T 12 ?_
   cases Z1;exact p0 T J [0] J
  refine rc T 8 (ar _ [0] Z1 J J)
 refine rc T 11 ?_
 cases Z1;exact p0 T J [0] J
def F1.f (s:(List a_)) (fM:aJ):Option Bool:=(sk.f s fM).bind λv1=>some (decide (v1≥0))
theorem F1.c (H:F1.f s fM=some r) (jQ:aU cW s jl F) (sQ:aa s<=jt) (DC:(CN,Obj.cells #[(ii fM.W),(ii fM.H),(ll CG fM.C DK)] 139 (0,0))∈F) (C4:aU (Fl.int .u8) fM.C CG F) (CT:aa fM.C<=DK):
 QU 221 [(ll jl s jt),(.func (.func 222) #[] #[(pp CN)])] [] F (bb r):=by
 unfold F1.f at H;refine aH Tryz.func221 J J (λW=>rc T 9 (k [] J ae2 H (sk.c · (rO jQ 0) sQ (qT DC (j:=0) J) (rO C4 0) CT) (λv1 H=>ro T 5 ?_)))
 cases H;exact p0 T J [0] J
def AL.f (t:aJ) (l:(List a_)):Option Bool:=(uX.f t).bind λv1=>if(!v1)=true then(some false) else((F1.f l t).bind λv2=>some (!v2))
theorem AL.c (H:AL.f t l=some r) (eB:aU (Fl.int .u8) t.C iN F) (fI:aa t.C<=iR) (dt:aU cW l ig F) (gn:aa l<=g_):
 QU 183 [(.agg #[(ii t.W),(ii t.H),(ll iN t.C iR)]),(ll ig l g_)] [] F (bb r):=by
 unfold AL.f at H;refine aH Tryz.func183 J J (λW=>rc T 2 (nc T J (λb1=>ro T 6 (lm T 1 J (k [] J K4 H (uX.c · (rO eB 0) fI) (λv1 H=>ro T 3 (cb J H (λH=>?_) (λH=>?_))))))))
 ·refine rc T 7 ?_
  cases H;exact p0 T J [0] J
 refine rc T 6 (k [] J aeJ H (F1.c · (rO dt 0) gn (DE (j:=1) J) (rO eB 0) fI) (λv2 H=>ro T 5 ?_))
 cases H;exact p0 T J [0] J
def qu.f (a:a_) (b:a_):Option Int:=(uf.f a.Key b.Key).bind λv1=>(uf.f a.Cell b.Cell).bind λv2=>(uf.f a.cY b.cY).bind λv3=>(nM.f [v1,v2,v3]).bind λv4=>some v4
theorem qu.c (H:qu.f a b=some r):
 QU 209 [(.agg #[(ii a.Cell),(ii a.cY),(ii a.Key)]),(.agg #[(ii b.Cell),(ii b.cY),(ii b.Key)])] [] F (ii r):=by
 unfold qu.f at H;refine aH Tryz.func209 J J (λW=>rc T 2 (nc T J (λb1=>nc T J (λb2=>ro T 4 (ks [2,3] J (fz J (rg [] [0,0,0] mix (bU bT) (λhg pf=>ha T 17 [0] sz hg pf J (al T 1 1 sz hg pf J J J (ha T 15 [2] sz hg pf J (al T 3 2 sz hg pf J J J (ha T 13 [5] sz hg pf J (al T 6 1 sz hg pf J J J (ha T 11 [7] sz hg pf J (al T 8 2 sz hg pf J J J (ha T 9 [10] sz hg pf J (al T 11 1 sz hg pf J J J (ha T 7 [12] sz hg pf J (al T 13 2 sz hg pf J J J (ao 4 (kh [] J OQ H (uf.c ·) (λv1 H=>an sz (ao 9 (kh [] J OQ H (uf.c ·) (λv2 H=>an sz (ao 14 (kh [] J OQ H (uf.c ·) (λv3 H=>an sz (ao 15 (dp (k:=(Fl.int .i64)) T [v1,v2,v3] J J J J J J J J J (λa3 H3 s3=>an (so [0,0,0]) (ao 16 (kh [] J aeW H (nM.c · (oO s3 3) s3.ck) (λv4 H=>an (so [0,0,0]) (ha T 0 [17] (so [0,0,0]) hg pf J (ae (rx T 2 ?_)))))))))))))))))))))))))))))))))))))
 cases H;exact p0 T J [0] J
def Jf.f:Option Unit:=some ()
theorem Jf.c (H:Jf.f=some r):
 QU 255 [nl,(ii 0),(ii 0),(.func (.func 209) #[] #[])] [] F (.tuple #[]):=by
 unfold Jf.f at H;refine aH Tryz.func255 J J (λW=>rc T 8 (lu [0,1,2,3,8] [0] J J (rc T 8 (fj J (rc T 4 (jB ?_))))))
 cases H;exact p0 T J [0] J
def Jg.f (WT:Int):Option Unit:=(Jf.f).bind λv1=>some ()
theorem Jg.c (H:Jg.f WT=some r):
 QU 234 [nl,(ii 0),(ii 0),(ii WT),(.func (.func 209) #[] #[])] [] F (.tuple #[]):=by
 unfold Jg.f at H;refine aH Tryz.func234 J J (λW=>rc T 11 (lu [0,1,2,3,4,10,11] [0] J J (rc T 16 (oA J (rc T 6 (k [] J ae8 H (Jf.c ·) (λv1 H=>ro T 7 ?_)))))))
 cases H;exact p0 T J [0] J
def Mr.f:Option Unit:=(IA.f (fc 0)).bind λv1=>(Jg.f v1).bind λv2=>some ()
theorem Mr.c (H:Mr.f=some r):
 QU 208 [nl,(.func (.func 209) #[] #[])] [] F (.tuple #[]):=by
 unfold Mr.f at H;refine aH Tryz.func208 J J (λW=>rc T 12 (k [] J aeV H (IA.c ·) (λv1 H=>ro T 1 (k [] J aeU H (Jg.c ·) (λv2 H=>ro T 1 (jB ?_))))))
 cases H;exact p0 T J [0] J
def B1.f (s:(List a_)):Option (List a_):=if aa s<4611686018427387904 then some (qy (λa b=>Option.getD (qu.f a b) 0) s) else none
def B1.R (akV:Option Addr) (ak9:Nat) (ak7:Nat) (r:List a_):bm:=λu G=> ∃(H0:Hp),ak cW 285 r akV ak9 H0/\aa r=ak7/\u=(.tuple #[])/\G=[H0]
theorem SV (x y:Int):uf.f x y=some (if x<y then-1 else if x>y then 1 else 0):=by
 simp[uf.f,cmp_isNaN_int.f];split
 ·rfl
 ·split<;>rfl
theorem SX (a b c:Int):nM.f [a,b,c]=some (if a=0 then(if b=0 then c else b) else a):=by
 have e1:af (0+1)=1:=by decide
 have e2:af (1+1)=2:=by decide
 have e3:af (2+1)=3:=by decide
 unfold nM.f;rw[cI,nM.l0]
 by_cases ha:a=0
 ·subst ha;simp only[kU,tY,rd,e1];rw[nM.l0]
  by_cases hb:b=0
  ·subst hb;simp only[kU,tY,rd,e2];rw[nM.l0]
   by_cases hc:c=0
   ·subst hc;simp only[kU,tY,rd,e3];rw[nM.l0];simp
   ·simp[rd,hc]
  ·simp[rd,hb]
 ·simp[rd,ha]
theorem ajU (a b:a_): ∃v,qu.f a b=some v:=by
 unfold qu.f;simp only[SV,SX,Option.bind_some];exact⟨_,J⟩
theorem ajS (a b:a_):qu.f a b=some (Option.getD (qu.f a b) 0):=by
 obtain⟨v,h⟩:=ajU a b;rw[h];rfl
theorem ajR (a b:a_):Option.getD (qu.f a b) 0=(if(if a.Key<b.Key then(-1:Int) else if a.Key>b.Key then 1 else 0)=0 then(if(if a.Cell<b.Cell then(-1:Int) else if a.Cell>b.Cell then 1 else 0)=0 then(if a.cY<b.cY then(-1:Int) else if a.cY>b.cY then 1 else 0) else(if a.Cell<b.Cell then(-1:Int) else if a.Cell>b.Cell then 1 else 0)) else(if a.Key<b.Key then(-1:Int) else if a.Key>b.Key then 1 else 0)):=by
 unfold qu.f;simp only[SV,SX,Option.bind_some,Option.getD_some]
theorem QZ (a b:a_):Go.Proofs.ltOf (λa b=>Option.getD (qu.f a b) 0) a b=decide (a.Key<b.Key∨a.Key=b.Key/\(a.Cell<b.Cell∨a.Cell=b.Cell/\a.cY<b.cY)):=by
 unfold Go.Proofs.ltOf;simp only[ajR]
 congr 1
 apply propext;constructor
 ·intro h
  by_cases k1:a.Key<b.Key
  ·exact .inl k1
  ·by_cases k2:a.Key>b.Key
   ·simp[k1,k2] at h
   ·by_cases c1:a.Cell<b.Cell
    ·exact .inr ⟨by omega,.inl c1⟩
    ·by_cases c2:a.Cell>b.Cell
     ·simp[k1,k2,c1,c2] at h
     ·by_cases s1:a.cY<b.cY
      ·exact .inr ⟨by omega,.inr ⟨by omega,s1⟩⟩
      ·by_cases s2:a.cY>b.cY
       ·simp[k1,k2,c1,c2,s1,s2] at h
       ·simp[k1,k2,c1,c2,s1,s2] at h
 ·intro h
  by_cases k1:a.Key<b.Key
  ·simp[k1]
  ·by_cases k2:a.Key>b.Key
   ·exfalso;omega
   ·by_cases c1:a.Cell<b.Cell
    ·simp[k1,k2,c1]
    ·by_cases c2:a.Cell>b.Cell
     ·exfalso;omega
     ·have s1:a.cY<b.cY:=U;simp[k1,k2,c1,c2,s1]
theorem ajT:Go.Sort.SWO (Go.Proofs.ltOf (λa b=>Option.getD (qu.f a b) 0)) where
 irrefl x:=by rw[QZ];simp
 trans x y z h1 h2:=by rw[QZ] at*;simp only[decide_eq_true_eq] at*;omega
 ntrans x y z h1 h2:=by rw[QZ] at*;simp only[decide_eq_false_iff_not] at*;omega
theorem aj': ∀w,(isAgg 285).run Tryz.prog w= .ok true w:=λw=>by kernel_rfl
theorem akc: ∀w,(Go.sizeOf 285).run Tryz.prog w= .ok 3 w:=λw=>by kernel_rfl
theorem B1.c {jl:Option Addr} {jt:Nat} {eI:Hp} {s r:List a_} {F:Hp} (H:B1.f s=some r) (dg:ak cW 285 s jl jt eI):
 QR 208 [(ll jl s jt),(.func (.func 209) #[] #[])] [eI] [] F (B1.R jl jt (aa s) r):=by
 obtain⟨hl,H⟩:=aF H;obtain rfl:=Option.some.inj H;exact akd Go.Proofs.Tryz.aka cW aj' akc (λa b=>Option.getD (qu.f a b) 0) ajT 209 (Go.Proofs.enters_of Tryz.func209 aA J) (λx y F=>qu.c (F:=F) (ajS x y)) 285 (λF=>Mr.c (r:=()) (F:=F) aA) s F hl dg
def oc.f (l:(List a_)):Option (List a_):=(tI.f l).bind λv1=>(B1.f v1).bind λv2=>(jY.f v2).bind λv3=>some v3
def oc.R (r:(List a_)):bm:=λu G=> ∃a0 n0 H0,ak cW 285 r a0 n0 H0/\u=(ll a0 r n0)/\G=[H0]
theorem oc.c (H:oc.f l=some r) (dt:aU cW l ig F) (gn:aa l<=g_):
 QR 180 [(ll ig l g_)] [] [] F (oc.R r):=by
 unfold oc.f at H;refine aH Tryz.func180 J J (λW=>rc T 8 (kr tI.R [] [] J UW H (tI.c · (rO dt 0) gn) (λv1 H=>?_)));rintro _ _ ⟨a1,n1,H1,s1,rfl,rfl⟩;refine fz J (ro T 6 (kr (B1.R a1 n1 (aa v1)) [] [1] J aeC H (B1.c · s1) (λv2 H=>?_)));rintro _ _ ⟨H2,s2,l2,rfl,rfl⟩;refine fz J (kf [] [0,0] [(0,(ll a1 v2 n1))] J J ⟨(by first |rfl |(simp only[ll,l2];rfl)),trivial⟩ (ro T 5 ?_))
 refine kr jY.R [] [1] J aeD H (jY.c · s2) (λv3 H=>?_);rintro _ _ ⟨a3,n3,H3,s3,rfl,rfl⟩;refine fz J (ro T 2 (ks [2] J (rx T 2 ?_)))
 cases H;exact p1 T J [1,0] ⟨a3,n3,H3,s3,J,J⟩ J
def BX.f (a:(List a_)) (b:(List a_)):Option Bool:=(sj.f a b).bind λv1=>some v1
theorem BX.c (H:BX.f a b=some r) (E8:aU cW a Gz F) (NI:aa a<=IK) (iH:aU cW b kE F) (gN:aa b<=ki):
 QU 185 [(ll Gz a IK),(ll kE b ki)] [] F (bb r):=by
 unfold BX.f at H;refine aH Tryz.func185 J J (λW=>rc T 9 (k [] J aeN H (sj.c · (rO E8 0) NI (rO iH 0) gN) (λv1 H=>ro T 4 ?_)))
 cases H;exact p0 T J [0] J
def ly.l0:Nat->(List a_)->Int->Int->Int->Bool->Int->Option Int
 |0,_,_,_,_,_,_=>none
 |k7+1,l,cell,side,x4,x5,x6=>if x6<(aa l:Int) then(if(0<=x6/\x6<(aa l:Int)) then((if((rd l x6).Cell==cell)=true then(if((rd l x6).cY==side)=true then(if(!x5)=true then(some true) else(some (decide ((rd l x6).Key<x4)))) else(some false)) else(some false)).bind λx8=>if x8=true then(ly.l0 k7 l cell side ((rd l x6).Key) true (af (x6+1))) else(ly.l0 k7 l cell side x4 x5 (af (x6+1)))) else none) else(some x4)
def ly.f (l:(List a_)) (cell:Int) (side:Int):Option Int:=ly.l0 fuel l cell side 1099511627776 false 0
theorem ly.c (H:ly.f l cell side=some r) (dt:aU cW l ig F) (gn:aa l<=g_):
 QU 250 [(ll ig l g_),(ii cell),(ii side)] [] F (ii r):=by
 unfold ly.f at H;refine aH Tryz.func250 J J (λW=>rc T 20 (lq [1,2,11,12] [0] (λ(⟨k7,x4,x5,x6⟩:Nat×Int×Bool×Int)=>(ly.l0 k7 l cell side x4 x5 x6=some r,[(7,(ii x4)),(8,(bb x5)),(13,(ii x6))],[])) J J (fuel,1099511627776,false,0) [0] H J J ?_));rintro k7 ⟨x4,x5,x6⟩ Z1;replace Z1:ly.l0 (k7+1) l cell side x4 x5 x6=some r:=Z1;rw[ly.l0] at Z1;refine rc T 6 (cd J Z1 (λZ1=>?_) (λZ1=>?_))
 ·refine rc T 6 ?_;obtain⟨c3,Z1⟩:=aF Z1;obtain⟨q1,o1,e1⟩:=dt.addr c3.1 c3.2;refine ix T J e1 c3 (bz J (gp T (cs:=[(ii (rd l x6).Cell),(ii (rd l x6).cY),(ii (rd l x6).Key)]) J J J J J J (iI (k:=cW) (rO dt 0) e1 c3 J)) (nc T J (λb2=>sg T 1 J (ro T 2 (mq Z1 [1,2,7,8,10,11,12,13] [0,0] (λz9 (x8:Bool)=>(x8=z9,[(36,(bb x8))],[])) J J (λz9 Z4 _=>?_) ?_)))))
  ·refine rc T 2 (lf T 1 J (ro T 3 (ab 21 J Z4 (λZ4=>?_) (λZ4=>?_))))
   ·refine ro T 1 (lf T 1 J (ro T 4 (ab 27 J Z4 (λZ4=>?_) (λZ4=>?_))))
    ·refine ro T 3 (ab 30 J Z4 (λZ4=>?_) (λZ4=>?_))
     ·refine ro T 8 (am _ [0,0] (oi Z4) J J)
     refine ro T 1 (lf T 1 J (ro T 6 (am _ [0,0] (oi Z4) J J)))
    refine ro T 11 (am _ [0,0] (oi Z4) J J)
   refine ro T 17 (am _ [0,0] (oi Z4) J J)
  rintro _ x8 rfl Z1;refine cb J Z1 (λZ1=>?_) (λZ1=>?_)
  ·refine rc T 2 (lf T 1 J (ro T 10 (ar (_,_,_) [0] Z1 J J)))
  refine rc T 8 (ar (_,_,_) [0] Z1 J J)
 refine rc T 12 ?_
 cases Z1;exact p0 T J [0] J
end
noncomputable section
def kz.l0:Nat->dw->fa->List a_->Option dw
 |0,_,_,_=>none
 |qS+1,s,x9,aN=>(if(aa aN:Int)>0 then(if(0<=(0:Int)/\(0:Int)<(aa aN:Int)) then((uD.f x9 ((rd aN 0).Key) ((rd aN 0).Cell)).bind λdC=>some (dC.2,dC.1)) else none) else(some (x9,false))).bind λ(bA,aT)=>if aT=true then(if(0<=(1:Int)/\(1:Int)<=(aa aN:Int)/\(aa aN:Int)<=(aa aN:Int)) then(kz.l0 qS s bA (aB aN 1 (aa aN:Int))) else none) else(some (dw.mk s.t bA aN s.aR))
def kz.f (s:dw):Option dw:=((if(aa s.todo:Int)>0 then((xk.f s.wait).bind λv5=>some (v5==0)) else(some false)).bind λx3=>if x3=true then(if(0<=(0:Int)/\(0:Int)<(aa s.todo:Int)) then((yS.f s.wait ((rd s.todo 0).Key)).bind λv6=>some v6.2) else none) else(some s.wait)).bind λx1=>kz.l0 fuel s x1 s.todo
def kz.R (bk:Nat) (y0:Value) (CQ:List a_) (CO:Option Addr) (CP:Nat) (r:dw):bm:=λu G=> ∃(b0:Nat) (H0:Hp) (a1:Option Addr) (n1:Nat) (a2 n2 H2:_),kT r.wait b0 H0/\dJ cW CQ CO CP r.todo a1 n1/\aa r.todo<=n1/\ak (Fl.int .i64) 3 r.aR a2 n2 H2/\u=(.tuple #[])/\G=[(cl bk 369 [(ii r.t.W),(ii r.t.H),y0,(pp b0),(ll a1 r.todo n1),(ll a2 r.aR n2)]),H0,H2]
theorem kz.c (H:kz.f s=some r) (qP:aU (Fl.int .u8) s.t.C kW F) (ve:aa s.t.C<=lp) (xu:kT s.wait pT A6) (p7:aU cW s.todo nL F) (jP:aa s.todo<=nY) (uO:ak (Fl.int .i64) 3 s.aR wk w8 xM):
 QR 273 [(pp bk)] [(cl bk 369 [(ii s.t.W),(ii s.t.H),(ll kW s.t.C lp),(pp pT),(ll nL s.todo nY),(ll wk s.aR w8)]),A6,xM] [] F (kz.R bk (ll kW s.t.C lp) s.todo nL nY r):=by
 unfold kz.f at H;refine aH Tryz.func273 J J (λW=>mq H [0] [3,0,1] (λz2 (⟨x1,H4⟩:fa×Hp)=>(x1=z2/\kT x1 pT H4,[],[H4])) J J (λz2 Z1 _=>?_) ?_)
 ·refine mq Z1 [0] [3,0,0,0] (λz4 (x3:Bool)=>(x3=z4,[(15,(bb x3))],[])) J J (λz4 Z2 _=>?_) ?_
  ·refine rc T 4 (lf T 0 J (ro T 3 (ad 8 J Z2 (λZ2=>?_) (λZ2=>?_))))
   ·refine ro T 3 (lf T 0 J (k [1] J OU Z2 (xk.c · xu) (λv5 Z2=>ro T 4 (am _ [3,0,0,0] (oi Z2) J J))))
   refine ro T 9 (am _ [3,0,0,0] (oi Z2) J J)
  rintro _ x3 rfl Z1;refine cb J Z1 (λZ1=>?_) (λZ1=>?_)
  ·refine fz J (rz [11] mix (bU bT) (λhg pf=>ha T 9 [0,1,2] sz hg pf J (al T 3 1 sz hg pf J J J (ha T 5 [4,5,6] sz hg pf J (al T 7 1 sz hg pf J J J ?_)))));obtain⟨c6,Z1⟩:=aF Z1;obtain⟨q5,o5,e5⟩:=p7.addr c6.1 c6.2;refine av 8 sz hg pf J (cV T J J J J J e5 c6.1 c6.2) (ha T 2 [9] sz hg pf J (av 10 sz hg pf J (cS T J J J J (iu (k:=cW) (rO p7 0) e5 c6 2 J)) (ao 11 (kR (yS.R pT) [] [2] J afl Z1 (yS.c · xu) (λv6 Z1=>?_)))));rintro _ _ ⟨H6,s6,rfl,rfl⟩;refine fz J (an sl (ae (rx T 1 (am (_,_) [0,0,0,0] ⟨oi Z1,s6⟩ J J))))
  refine rc T 2 (am (_,_) [0,0,1,0] ⟨oi Z1,xu⟩ J J)
 rintro _ ⟨x1,H4⟩ ⟨rfl,s4⟩ H;refine rc T 1 (lq [0] [0,1] (λ(⟨qS,x9,aN,H9,cK,n10⟩:Nat×fa×List a_×Hp×Option Addr×Nat)=>(kz.l0 qS s x9 aN=some r/\kT x9 pT H9/\dJ cW s.todo nL nY aN cK n10/\aa aN<=n10,[],[(cl bk 369 [(ii s.t.W),(ii s.t.H),(ll kW s.t.C lp),(pp pT),(ll cK aN n10),(ll wk s.aR w8)]),H9])) J J (fuel,x1,s.todo,H4,nL,nY) [0,1,0,0] ⟨H,s4,dJ.self,jP⟩ J J ?_);rintro qS ⟨x9,aN,H9,cK,n10⟩ ⟨Z8,s9,CJ,GV⟩;rw[kz.l0] at Z8;refine rc T 1 (mq Z8 [0] [0,1,0] (λCl (⟨bA,aT,cM⟩:fa×Bool×Hp)=>((bA,aT)=Cl/\kT bA pT cM,[(54,(bb aT))],[cM])) J J (λCl Z9 _=>?_) ?_)
 ·refine fz J (rz [25] mix (bU bT) (λhg pf=>ha T 24 [0,1,2] sz hg pf J (al T 3 2 sz hg pf J J J (ha T 20 [4,5,6] sz hg pf J (ad 34 J Z9 (λZ9=>?_) (λZ9=>?_))))))
  ·refine ha T 17 [7,8,9] sz hg pf J (al T 10 2 sz hg pf J J J (ha T 13 [11,12,13] sz hg pf J (al T 14 2 sz hg pf J J J ?_)));obtain⟨eQ,Z9⟩:=aF Z9;obtain⟨xd,Qj,uh⟩:=(dJ.r CJ p7 jP).addr eQ.1 eQ.2;refine av 15 sz hg pf J (cV T J J J J J uh eQ.1 eQ.2) (ha T 10 [16] sz hg pf J (av 17 sz hg pf J (cS T J J J J (iu (k:=cW) (px CJ (rO p7 0) jP) uh eQ 2 J)) (ha T 6 [18,19,20] sz hg pf J (al T 21 2 sz hg pf J J J (av 22 sz hg pf J (cV T J J J J J uh eQ.1 eQ.2) (ha T 3 [23] sz hg pf J (av 24 sz hg pf J (cS T J J J J (iu (k:=cW) (px CJ (rO p7 0) jP) uh eQ 0 J)) (ao 25 (kR (uD.R pT) [] [3] J Vf Z9 (uD.c · s9) (λdC Z9=>?_))))))))));rintro _ _ ⟨fe,dF,rfl,rfl⟩;refine fz J (an sl (hb T 26 sl hg pf J (ae (rx T 1 (am (_,_,_) [0,1,0,0] ⟨oi Z9,dF⟩ J J)))))
  refine ha T 2 [7,8,9,10,11,12,13,14,15,16,17,18,19,20,21,22,23,24] sz hg pf J (ao 25 (abq J (an sl (hb T 26 sl hg pf J (ae (rx T 1 (am (_,_,_) [0,1,0,0] ⟨oi Z9,s9⟩ J J)))))))
 rintro _ ⟨bA,aT,cM⟩ ⟨rfl,dr⟩ Z8;refine cb J Z8 (λZ8=>?_) (λZ8=>?_)
 ·refine rc T 8 (lf T 1 J ?_);obtain⟨mv,Z8⟩:=aF Z8;refine bz J (lb T J J J J J J mv GV) (ro T 2 (sg T 1 J (ro T 3 (ar (_,_,_,_,_) [0,1,0,0] ⟨Z8,dr,(dJ.sub CJ jP mv),(nC mv GV)⟩ J J))))
 refine rc T 4 (jB ?_)
 cases Z8;exact p1 T J [1,2,1,0] ⟨pT,cM,cK,n10,wk,w8,xM,dr,CJ,GV,uO,J,J⟩ J
def lA.f (s:dw) (aj:Int) (key:Int):Option dw:=(if(0<=aj/\aj<(aa s.t.C:Int)) then(if((rd s.t.C aj)!=255)=true then(if(0<=aj/\aj<(aa s.aR:Int)) then(some ((rd s.aR aj)==1099511627776)) else none) else(some false)) else none).bind λx1=>if x1=true then((uD.f s.wait key aj).bind λv3=>some (dw.mk s.t v3.2 s.todo s.aR)) else(some s)
def lA.R (bk:Nat) (y0:Value) (CQ:List a_) (CO:Option Addr) (CP:Nat) (r:dw):bm:=λu G=> ∃(b0:Nat) (H0:Hp) (a1:Option Addr) (n1:Nat) (a2 n2 H2:_),kT r.wait b0 H0/\dJ cW CQ CO CP r.todo a1 n1/\aa r.todo<=n1/\ak (Fl.int .i64) 3 r.aR a2 n2 H2/\u=(.tuple #[])/\G=[(cl bk 369 [(ii r.t.W),(ii r.t.H),y0,(pp b0),(ll a1 r.todo n1),(ll a2 r.aR n2)]),H0,H2]
theorem lA.c (H:lA.f s aj key=some r) (qP:aU (Fl.int .u8) s.t.C kW F) (ve:aa s.t.C<=lp) (xu:kT s.wait pT A6) (p7:aU cW s.todo nL F) (jP:aa s.todo<=nY) (uO:ak (Fl.int .i64) 3 s.aR wk w8 xM):
 QR 294 [(pp bk),(ii aj),(ii key)] [(cl bk 369 [(ii s.t.W),(ii s.t.H),(ll kW s.t.C lp),(pp pT),(ll nL s.todo nY),(ll wk s.aR w8)]),A6,xM] [] F (lA.R bk (ll kW s.t.C lp) s.todo nL nY r):=by
 unfold lA.f at H;refine aH Tryz.func294 J J (λW=>mq H [0,1,2] [3,0,0,0] (λz2 (x1:Bool)=>(x1=z2,[(24,(bb x1))],[])) J J (λz2 Z1 _=>?_) ?_)
 ·refine rc T 5 (lf T 0 J (ro T 1 ?_));obtain⟨c2,Z1⟩:=aF Z1;obtain⟨q4,o4,e4⟩:=qP.addr c2.1 c2.2;refine ix T J e4 c2 (le T 0 (rO qP 3) e4 c2 J J (ro T 2 (ab 15 J Z1 (λZ1=>?_) (λZ1=>?_))))
  ·refine ro T 3 (lf T 0 J (ro T 1 ?_));obtain⟨c4,Z1⟩:=aF Z1;obtain⟨q5,o5,e5⟩:=uO.r.addr c4.1 c4.2;refine ix T J e5 c4 (le T 0 (oO uO 2) e5 c4 J J (ro T 4 (am _ [3,0,0,0] (oi Z1) J J)))
  refine ro T 11 (am _ [3,0,0,0] (oi Z1) J J)
 rintro _ x1 rfl H;refine cb J H (λH=>?_) (λH=>?_)
 ·refine rc T 4 (lf T 1 J (ro T 2 (kr (uD.R pT) [] [2] J Vf H (uD.c · xu) (λv3 H=>?_))));rintro _ _ ⟨H6,s6,rfl,rfl⟩;refine fz J (ro T 1 (jB ?_))
  cases H;exact p1 T J [1,2,1,0] ⟨pT,H6,nL,nY,wk,w8,xM,s6,dJ.self,jP,uO,J,J⟩ J
 refine rc T 1 (jB ?_)
 cases H;exact p1 T J [1,1,1,0] ⟨pT,A6,nL,nY,wk,w8,xM,xu,dJ.self,jP,uO,J,J⟩ J
def y_.f (s:dw) (aj:Int):Option dw:=if(0<=aj/\aj<(aa s.aR:Int)) then(if(0<=aj/\aj<(aa s.t.C:Int)) then(if(¬s.t.W=0) then(if(¬s.t.W=0) then((if(af (dm aj s.t.W))>0 then((lA.f s (af (aj-s.t.W)) (af ((rd s.aR aj)+(af (rd s.t.C aj))))).bind λv7=>some (v7.t.W,v7.t.H,v7.wait,v7.todo,v7.aR)) else(some (s.t.W,s.t.H,s.wait,s.todo,s.aR))).bind λ(x1,x2,x3,x4,x5)=>(if(fJ aj s.t.W)<(af (x1-1)) then((lA.f (dw.mk (aJ.mk x1 x2 s.t.C) x3 x4 x5) (af (aj+1)) (af ((rd s.aR aj)+(af (rd s.t.C aj))))).bind λeN=>some (eN.t.W,eN.t.H,eN.wait,eN.todo,eN.aR)) else(some (x1,x2,x3,x4,x5))).bind λ(x8,x9,aN,bj,bA)=>if(af (dm aj s.t.W))<(af (x9-1)) then((lA.f (dw.mk (aJ.mk x8 x9 s.t.C) aN bj bA) (af (aj+x8)) (af ((rd s.aR aj)+(af (rd s.t.C aj))))).bind λdC=>if(fJ aj s.t.W)>0 then((lA.f (dw.mk (aJ.mk dC.t.W dC.t.H s.t.C) dC.wait dC.todo dC.aR) (af (aj-1)) (af ((rd s.aR aj)+(af (rd s.t.C aj))))).bind λcP=>some (dw.mk (aJ.mk cP.t.W cP.t.H s.t.C) cP.wait cP.todo cP.aR)) else(some (dw.mk (aJ.mk dC.t.W dC.t.H s.t.C) dC.wait dC.todo dC.aR))) else(if(fJ aj s.t.W)>0 then((lA.f (dw.mk (aJ.mk x8 x9 s.t.C) aN bj bA) (af (aj-1)) (af ((rd s.aR aj)+(af (rd s.t.C aj))))).bind λv17=>some (dw.mk (aJ.mk v17.t.W v17.t.H s.t.C) v17.wait v17.todo v17.aR)) else(some (dw.mk (aJ.mk x8 x9 s.t.C) aN bj bA)))) else none) else none) else none) else none
def y_.R (bk:Nat) (y0:Value) (CQ:List a_) (CO:Option Addr) (CP:Nat) (r:dw):bm:=λu G=> ∃(b0:Nat) (H0:Hp) (a1:Option Addr) (n1:Nat) (a2 n2 H2:_),kT r.wait b0 H0/\dJ cW CQ CO CP r.todo a1 n1/\aa r.todo<=n1/\ak (Fl.int .i64) 3 r.aR a2 n2 H2/\u=(.tuple #[])/\G=[(cl bk 369 [(ii r.t.W),(ii r.t.H),y0,(pp b0),(ll a1 r.todo n1),(ll a2 r.aR n2)]),H0,H2]
theorem y_.c (H:y_.f s aj=some r) (qP:aU (Fl.int .u8) s.t.C kW F) (ve:aa s.t.C<=lp) (xu:kT s.wait pT A6) (p7:aU cW s.todo nL F) (jP:aa s.todo<=nY) (uO:ak (Fl.int .i64) 3 s.aR wk w8 xM):
 QR 276 [(pp bk),(ii aj)] [(cl bk 369 [(ii s.t.W),(ii s.t.H),(ll kW s.t.C lp),(pp pT),(ll nL s.todo nY),(ll wk s.aR w8)]),A6,xM] [] F (y_.R bk (ll kW s.t.C lp) s.todo nL nY r):=by
 unfold y_.f at H;refine aH Tryz.func276 J J (λW=>rc T 1 (dy mix aA (au T J (au T J (au T J (cB T 0 J J J (au T J ?_)))))));obtain⟨c1,H⟩:=aF H;obtain⟨q4,o4,e4⟩:=uO.r.addr c1.1 c1.2;refine br J J J (cV T J J J J J e4 c1.1 c1.2) (br J J J (cS T J J J J (iu (k:=(Fl.int .i64)) (oO uO 2) e4 c1 0 J)) ?_)
 iterate 4 refine au T J ?_
 refine cB T 0 J J J (au T J ?_);obtain⟨c2,H⟩:=aF H;obtain⟨q5,o5,e5⟩:=qP.addr c2.1 c2.2;refine br J J J (cV T J J J J J e5 c2.1 c2.2) (br J J J (cS T J J J J (iu (k:=(Fl.int .u8)) (rO qP 3) e5 c2 0 J)) (au T J (au T J (au T J (cU (rx T 2 (dy mix aA ?_)))))))
 iterate 5 refine au T J ?_
 refine cB T 0 J J J ?_;obtain⟨c3,H⟩:=aF H;refine br J J J (vh J J J c3) ?_
 iterate 5 refine au T J ?_
 refine cB T 0 J J J ?_;obtain⟨c4,H⟩:=aF H;refine br J J J (vg J J J c4) (au T J (au T J (cU (rx T 1 (mq H [0,1,4,5,6] [3] (λz6 (⟨x1,x2,x3,x4,x5,b6,H6,a7,n7,a8,n8,H8⟩:Int×Int×fa×List a_×List Int×Nat×Hp×Option Addr×Nat×Option Addr×Nat×Hp)=>((x1,x2,x3,x4,x5)=z6/\kT x3 b6 H6/\dJ cW s.todo nL nY x4 a7 n7/\aa x4<=n7/\ak (Fl.int .i64) 3 x5 a8 n8 H8,[],[(cl bk 369 [(ii x1),(ii x2),(ll kW s.t.C lp),(pp b6),(ll a7 x4 n7),(ll a8 x5 n8)]),H6,H8])) J J (λz6 Z5 _=>?_) ?_)))))
 ·refine rc T 6 (cd J Z5 (λZ5=>?_) (λZ5=>?_))
  ·refine rc T 7 (lf T 0 J (ro T 2 (kr (lA.R bk (ll kW s.t.C lp) s.todo nL nY) [] [0,0,0] J HA Z5 (lA.c · (rO qP 0) ve xu (rO p7 0) jP uO) (λv7 Z5=>?_))));rintro _ _ ⟨b9,H9,cK,n10,dG,n11,cM,s9,CJ,GV,dr,rfl,rfl⟩;refine fz J (ro T 2 (am (_,_,_,_,_,_,_,_,_,_,_,_) [0,0,0,0] ⟨oi Z5,s9,CJ,GV,dr⟩ J J))
  refine rc T 2 (am (_,_,_,_,_,_,_,_,_,_,_,_) [3,0,0,0] ⟨oi Z5,xu,dJ.self,jP,uO⟩ J J)
 rintro _ ⟨x1,x2,x3,x4,x5,b6,H6,a7,n7,a8,n8,H8⟩ ⟨rfl,s6,Ny,SH,s8⟩ H;refine mq H [0,1,4,5,6] [0] (λJG (⟨x8,x9,aN,bj,bA,lE,dL,dQ,n13,jk,n14,gf⟩:Int×Int×fa×List a_×List Int×Nat×Hp×Option Addr×Nat×Option Addr×Nat×Hp)=>((x8,x9,aN,bj,bA)=JG/\kT aN lE dL/\dJ cW s.todo nL nY bj dQ n13/\aa bj<=n13/\ak (Fl.int .i64) 3 bA jk n14 gf,[],[(cl bk 369 [(ii x8),(ii x9),(ll kW s.t.C lp),(pp lE),(ll dQ bj n13),(ll jk bA n14)]),dL,gf])) J J (λJG Z8 _=>?_) ?_
 ·refine rc T 7 (lf T 1 J (ro T 4 (cd J Z8 (λZ8=>?_) (λZ8=>?_))))
  ·refine rc T 5 (kr (lA.R bk (ll kW s.t.C lp) x4 a7 n7) [] [1,1,1] J HA Z8 (lA.c (s:=(dw.mk (aJ.mk x1 x2 s.t.C) x3 x4 x5)) · (rO qP 0) ve s6 (px Ny (rO p7 0) jP) SH s8) (λeN Z8=>?_));rintro _ _ ⟨pw,dT,kD,n16,a17,n17,eZ,eG,abE,abR,fO,rfl,rfl⟩;refine fz J (ro T 2 (am (_,_,_,_,_,_,_,_,_,_,_,_) [0,0,0,0] ⟨oi Z8,eG,(dJ.trans Ny jP abE),abR,fO⟩ J J))
  refine rc T 2 (am (_,_,_,_,_,_,_,_,_,_,_,_) [0,0,0,0] ⟨oi Z8,s6,Ny,SH,s8⟩ J J)
 rintro _ ⟨x8,x9,aN,bj,bA,lE,dL,dQ,n13,jk,n14,gf⟩ ⟨rfl,dS,CK,Kj,gQ⟩ H;refine rc T 8 (lf T 1 J (ro T 4 (cd J H (λH=>?_) (λH=>?_))))
 ·refine rc T 7 (lf T 1 J (ro T 2 (kr (lA.R bk (ll kW s.t.C lp) bj dQ n13) [] [1,1,1] J HA H (lA.c (s:=(dw.mk (aJ.mk x8 x9 s.t.C) aN bj bA)) · (rO qP 0) ve dS (px CK (rO p7 0) jP) Kj gQ) (λdC H=>?_))));rintro _ _ ⟨rF,fE,mY,n19,a20,n20,pk,fP,Nw,SD,mJ,rfl,rfl⟩;refine fz J (ro T 8 (cd J H (λH=>?_) (λH=>?_)))
  ·refine rc T 5 (kr (lA.R bk (ll kW s.t.C lp) dC.todo mY n19) [] [1,1,1] J HA H (lA.c (s:=(dw.mk (aJ.mk dC.t.W dC.t.H s.t.C) dC.wait dC.todo dC.aR)) · (rO qP 0) ve fP (px Nw (px CK (rO p7 0) jP) Kj) SD mJ) (λcP H=>?_));rintro _ _ ⟨CM,lY,a22,n22,a23,n23,j5,kt,abG,abU,iA,rfl,rfl⟩;refine fz J (ro T 1 (jB ?_))
   cases H;exact p1 T J [1,1,1,0] ⟨CM,lY,a22,n22,a23,n23,j5,kt,(dJ.trans (dJ.trans CK jP Nw) jP abG),abU,iA,J,J⟩ J
  refine rc T 1 (jB ?_)
  cases H;exact p1 T J [1,1,1,0] ⟨rF,fE,mY,n19,a20,n20,pk,fP,(dJ.trans CK jP Nw),SD,mJ,J,J⟩ J
 refine rc T 8 (cd J H (λH=>?_) (λH=>?_))
 ·refine rc T 5 (kr (lA.R bk (ll kW s.t.C lp) bj dQ n13) [] [1,1,1] J HA H (lA.c (s:=(dw.mk (aJ.mk x8 x9 s.t.C) aN bj bA)) · (rO qP 0) ve dS (px CK (rO p7 0) jP) Kj gQ) (λv17 H=>?_));rintro _ _ ⟨GQ,sF,a25,n25,a26,n26,pM,mL,abH,abV,oX,rfl,rfl⟩;refine fz J (ro T 1 (jB ?_))
  cases H;exact p1 T J [1,1,1,0] ⟨GQ,sF,a25,n25,a26,n26,pM,mL,(dJ.trans CK jP abH),abV,oX,J,J⟩ J
 refine rc T 1 (jB ?_)
 cases H;exact p1 T J [1,1,1,0] ⟨lE,dL,dQ,n13,jk,n14,gf,dS,CK,Kj,gQ,J,J⟩ J
def pc.l0:Nat->dw->Int->Int->fa->List a_->List Int->Option dw
 |0,_,_,_,_,_,_=>none
 |Ik+1,s,x7,x8,x9,aN,bj=>(xk.f x9).bind λiB=>if iB>0 then((pH.f x9).bind λeN=>if(0<=eN.2.1/\eN.2.1<(aa bj:Int)) then(if((rd bj eN.2.1)==1099511627776)=true then((y_.f (dw.mk (aJ.mk x7 x8 s.t.C) eN.2.2.2 aN (aG bj (ax eN.2.1) eN.1)) eN.2.1).bind λdC=>(kz.f (dw.mk (aJ.mk dC.t.W dC.t.H s.t.C) dC.wait dC.todo dC.aR)).bind λcP=>pc.l0 Ik s cP.t.W cP.t.H cP.wait cP.todo cP.aR) else((kz.f (dw.mk (aJ.mk x7 x8 s.t.C) eN.2.2.2 aN bj)).bind λv17=>pc.l0 Ik s v17.t.W v17.t.H v17.wait v17.todo v17.aR)) else none) else(some (dw.mk (aJ.mk x7 x8 s.t.C) x9 aN bj))
def pc.f (s:dw):Option dw:=(kz.f s).bind λv1=>pc.l0 fuel s v1.t.W v1.t.H v1.wait v1.todo v1.aR
def pc.R (bk:Nat) (y0:Value) (CQ:List a_) (CO:Option Addr) (CP:Nat) (r:dw):bm:=λu G=> ∃(b0:Nat) (H0:Hp) (a1:Option Addr) (n1:Nat) (a2 n2 H2:_),kT r.wait b0 H0/\dJ cW CQ CO CP r.todo a1 n1/\aa r.todo<=n1/\ak (Fl.int .i64) 3 r.aR a2 n2 H2/\u=(.tuple #[])/\G=[(cl bk 369 [(ii r.t.W),(ii r.t.H),y0,(pp b0),(ll a1 r.todo n1),(ll a2 r.aR n2)]),H0,H2]
theorem pc.c (H:pc.f s=some r) (qP:aU (Fl.int .u8) s.t.C kW F) (ve:aa s.t.C<=lp) (xu:kT s.wait pT A6) (p7:aU cW s.todo nL F) (jP:aa s.todo<=nY) (uO:ak (Fl.int .i64) 3 s.aR wk w8 xM):
 QR 249 [(pp bk)] [(cl bk 369 [(ii s.t.W),(ii s.t.H),(ll kW s.t.C lp),(pp pT),(ll nL s.todo nY),(ll wk s.aR w8)]),A6,xM] [] F (pc.R bk (ll kW s.t.C lp) s.todo nL nY r):=by
 unfold pc.f at H;refine aH Tryz.func249 J J (λW=>rc T 3 (kr (kz.R bk (ll kW s.t.C lp) s.todo nL nY) [] [0,0,0] J OT H (kz.c · (rO qP 0) ve xu (rO p7 0) jP uO) (λv1 H=>?_)));rintro _ _ ⟨b4,H4,a5,n5,a6,n6,H6,s4,GS,SG,s6,rfl,rfl⟩;refine fz J (ro T 3 (lq [0] [0] (λ(⟨Ik,x7,x8,x9,aN,bj,gm,cu,dG,n11,a12,n12,dL⟩:Nat×Int×Int×fa×List a_×List Int×Nat×Hp×Option Addr×Nat×Option Addr×Nat×Hp)=>(pc.l0 Ik s x7 x8 x9 aN bj=some r/\kT x9 gm cu/\dJ cW s.todo nL nY aN dG n11/\aa aN<=n11/\ak (Fl.int .i64) 3 bj a12 n12 dL,[],[(cl bk 369 [(ii x7),(ii x8),(ll kW s.t.C lp),(pp gm),(ll dG aN n11),(ll a12 bj n12)]),cu,dL])) J J (fuel,v1.t.W,v1.t.H,v1.wait,v1.todo,v1.aR,b4,H4,a5,n5,a6,n6,H6) [0,0,0,0] ⟨H,s4,GS,SG,s6⟩ J J ?_));rintro Ik ⟨x7,x8,x9,aN,bj,gm,cu,dG,n11,a12,n12,dL⟩ ⟨Z2,bX,zF,Bd,dS⟩;rw[pc.l0] at Z2;refine rc T 6 (lf T 1 J (k [2] J OU Z2 (xk.c · bX) (λiB Z2=>ro T 3 (cd J Z2 (λZ2=>?_) (λZ2=>?_)))))
 ·refine rc T 9 (lf T 1 J (kr (pH.R gm) [] [2] J afd Z2 (pH.c · bX) (λeN Z2=>?_)));rintro _ _ ⟨fe,dF,rfl,rfl⟩;refine fz J (ro T 14 (lf T 1 J (ro T 1 ?_)));obtain⟨c6,Z2⟩:=aF Z2;obtain⟨q14,o14,CW⟩:=dS.r.addr c6.1 c6.2;refine ix T J CW c6 (le T 0 (oO dS 2) CW c6 J J (ro T 3 (cb J Z2 (λZ2=>?_) (λZ2=>?_))))
  ·refine rc T 5 (lf T 1 J (ro T 2 (ix T J CW c6 (ba (lD (k:=(Fl.int .i64)) T 2 0 eN.1 J J J J J J dS CW c6 J J J (λdT eG=>kg [0,3] [0,1,1] [0,1,1,0] [] [(cl bk 369 [(ii x7),(ii x8),(ll kW s.t.C lp),(pp gm),(ll dG aN n11),(ll a12 (aG bj (ax eN.2.1) eN.1) n12)])] J J trivial dP (ro T 5 (kr (y_.R bk (ll kW s.t.C lp) aN dG n11) [] [3,2,1] J afe Z2 (y_.c (s:=(dw.mk (aJ.mk x7 x8 s.t.C) eN.2.2.2 aN (aG bj (ax eN.2.1) eN.1))) · (rO qP 0) ve dF (px zF (rO p7 0) jP) Bd eG) (λdC Z2=>?_)))))))));rintro _ _ ⟨rE,gB,a17,n17,jA,n18,fE,gw,St,abS,fP,rfl,rfl⟩;refine fz J (ro T 1 (ks [0] J (rx T 4 (kr (kz.R bk (ll kW s.t.C lp) dC.todo a17 n17) [] [1,1,1] J OT Z2 (kz.c (s:=(dw.mk (aJ.mk dC.t.W dC.t.H s.t.C) dC.wait dC.todo dC.aR)) · (rO qP 0) ve gw (px St (px zF (rO p7 0) jP) Bd) abS fP) (λcP Z2=>?_)))));rintro _ _ ⟨b19,lB,a20,n20,a21,n21,lY,iz,abF,abT,kt,rfl,rfl⟩;refine fz J (ro T 2 (ar (_,_,_,_,_,_,_,_,_,_,_,_) [0,0,0,0] ⟨Z2,iz,(dJ.trans (dJ.trans zF jP St) jP abF),abT,kt⟩ J J))
  refine rc T 5 (kr (kz.R bk (ll kW s.t.C lp) aN dG n11) [] [1,2,1] J OT Z2 (kz.c (s:=(dw.mk (aJ.mk x7 x8 s.t.C) eN.2.2.2 aN bj)) · (rO qP 0) ve dF (px zF (rO p7 0) jP) Bd dS) (λv17 Z2=>?_));rintro _ _ ⟨lF,nI,a23,n23,a24,n24,sF,jd,Su,SF,mL,rfl,rfl⟩;refine fz J (ro T 2 (ar (_,_,_,_,_,_,_,_,_,_,_,_) [0,0,0,0] ⟨Z2,jd,(dJ.trans zF jP Su),SF,mL⟩ J J))
 refine rc T 4 (jB ?_)
 cases Z2;exact p1 T J [1,1,1,0] ⟨gm,cu,dG,n11,a12,n12,dL,bX,zF,Bd,dS,J,J⟩ J
def uV.f (t:aJ) (l:(List a_)):Option ((List Int)×Int):=(AL.f t l).bind λv1=>if(!v1)=true then(some ([],1)) else(((xj.f 0).bind λv9=>dA v9 (none) (λZp=>(oc.f l).bind λv10=>(kN.f [1099511627776] (aa t.C:Int)).bind λv11=>some (t.W,t.H,t.C,Zp,v10,v11))).bind λ(x2,x3,x4,x5,x6,x7)=>(pc.f (dw.mk (aJ.mk x2 x3 x4) x5 x6 x7)).bind λv17=>some (v17.aR,0))
def uV.R (r:((List Int)×Int)):bm:=λu G=> ∃a0 n0 H0,ak (Fl.int .i64) 3 r.1 a0 n0 H0/\u=(.tuple #[(ll a0 r.1 n0),(ii r.2)])/\G=[H0]
theorem uV.c (H:uV.f t l=some r) (eB:aU (Fl.int .u8) t.C iN F) (fI:aa t.C<=iR) (dt:aU cW l ig F) (gn:aa l<=g_):
 QR 228 [(.agg #[(ii t.W),(ii t.H),(ll iN t.C iR)]),(ll ig l g_)] [] [] F (uV.R r):=by
 unfold uV.f at H;refine aH Tryz.func228 J J (λW=>rc T 2 (nc T J (λb1=>ro T 7 (lm T 1 J (ro T 1 (k [] J UT H (AL.c · (rO eB 0) fI (rO dt 0) gn) (λv1 H=>ro T 3 (cb J H (λH=>?_) (λH=>?_)))))))))
 ·refine rc T 8 ?_
  cases H;refine bC (p1 T J [2,0] ⟨none,0,[],ak.nil,J,J⟩ J)
 refine rc T 2 (mq H [] [0] (λz8 (⟨x2,x3,x4,x5,x6,x7,b3,a4,n4,b5,H5,a6,n6,H6,a7,n7,H7⟩:Int×Int×List Int×fa×List a_×List Int×Nat×Option Addr×Nat×Nat×Hp×Option Addr×Nat×Hp×Option Addr×Nat×Hp)=>((x2,x3,x4,x5,x6,x7)=z8/\dJ (Fl.int .u8) t.C iN iR x4 a4 n4/\aa x4<=n4/\kT x5 b5 H5/\ak cW 285 x6 a6 n6 H6/\ak (Fl.int .i64) 3 x7 a7 n7 H7,[(6,(pp b3))],[(cl b3 369 [(ii x2),(ii x3),(ll a4 x4 n4),(pp b5),(ll a6 x6 n6),(ll a7 x7 n7)]),H5,H6,H7])) J J (λz8 Z3 _=>?_) ?_)
 ·refine ks [1,2] J (fz J (rz [] mix (bU bT) (λhg pf=>av 0 sz hg pf J (gA T 1 J J J J J J J) (ha T 9 [2,5] sz hg pf J (al T 6 1 sz hg pf J J J (ha T 7 [7] sz hg pf J (gV 1 4 ?_ ?_)))))))
  ·refine kR xj.R [] [] J U' Z3 (xj.c ·) (λv9 Z3=>?_);rintro _ _ ⟨_,_,O5,rfl,rfl⟩;rcases v9 with _ |Zp
   ·replace Z3:=fx J Z3
    cases Z3
   replace Z3:=fy J Z3;obtain⟨b8,H8,s8,rfl,rfl⟩:=O5;refine an (so [0,0]) (gV 3 4 ?_ ?_)
   ·refine kR oc.R [] [] J Hz Z3 (oc.c · (rO dt 0) gn) (λv10 Z3=>?_);rintro _ _ ⟨a9,n9,H9,s9,rfl,rfl⟩;refine fz J (an (so [0,0]) (ao 4 (dp (k:=(Fl.int .i64)) T [1099511627776] J J J J J J J J J (λcK cu bX=>an (so [0,0]) (ao 8 (kR kN.R [] [] J OS Z3 (kN.c · (oO bX 4) bX.ck) (λv11 Z3=>?_)))))));rintro _ _ ⟨dG,n11,cM,dr,rfl,rfl⟩;refine fz J (an (so [0,0]) (ha T 2 [9] (so [0,0]) hg pf J (ao 10 (nw T J (λlE=>an (so [0,0]) (ha T 0 [11] (so [0,0]) hg pf J (ae (rx T 1 (am (_,_,_,_,_,_,_,_,_,_,_,_,_,_,_,_,_) [0,5,1,1,2] ⟨oi Z3,dJ.self,fI,s8,s9,dr⟩ J J)))))))))
   refine dp (k:=(Fl.int .i64)) T [1099511627776] J J J J J J J J J (λdQ fe dF=>an (so [0,0]) (ao 3 (kR oc.R [] [] J Hz Z3 (oc.c · (rO dt 0) gn) (λv12 Z3=>?_))));rintro _ _ ⟨jk,n14,gf,gQ,rfl,rfl⟩;refine fz J (an (so [0,0]) (ao 8 (kR kN.R [] [] J OS Z3 (kN.c · (oO dF 3) dF.ck) (λiB Z3=>?_))));rintro _ _ ⟨kC,n15,dT,eG,rfl,rfl⟩;refine fz J (an (so [0,0]) (ha T 2 [9] (so [0,0]) hg pf J (ao 10 (nw T J (λrE=>an (so [0,0]) (ha T 0 [11] (so [0,0]) hg pf J (ae (rx T 1 (am (_,_,_,_,_,_,_,_,_,_,_,_,_,_,_,_,_) [0,5,1,2,2] ⟨oi Z3,dJ.self,fI,s8,gQ,eG⟩ J J)))))))))
  refine dp (k:=(Fl.int .i64)) T [1099511627776] J J J J J J J J J (λa17 eZ fO=>an (so [0,0]) (ao 1 (kR xj.R [] [] J U' Z3 (xj.c ·) (λeN Z3=>?_))));rintro _ _ ⟨_,_,ZC,rfl,rfl⟩;rcases eN with _ |alU
  ·replace Z3:=fx J Z3
   cases Z3
  replace Z3:=fy J Z3;obtain⟨rF,fE,fP,rfl,rfl⟩:=ZC;refine an (so [0,0]) (ao 3 (kR oc.R [] [] J Hz Z3 (oc.c · (rO dt 0) gn) (λdC Z3=>?_)));rintro _ _ ⟨mY,n19,lB,iz,rfl,rfl⟩;refine fz J (an (so [0,0]) (ao 8 (kR kN.R [] [] J OS Z3 (kN.c · (oO fO 2) fO.ck) (λcP Z3=>?_))));rintro _ _ ⟨a20,n20,pk,mJ,rfl,rfl⟩;refine fz J (an (so [0,0]) (ha T 2 [9] (so [0,0]) hg pf J (ao 10 (nw T J (λCM=>an (so [0,0]) (ha T 0 [11] (so [0,0]) hg pf J (ae (rx T 1 (am (_,_,_,_,_,_,_,_,_,_,_,_,_,_,_,_,_) [0,5,2,2,2] ⟨oi Z3,dJ.self,fI,fP,iz,mJ⟩ J J)))))))))
 rintro _ ⟨x2,x3,x4,x5,x6,x7,b3,a4,n4,b5,H5,a6,n6,H6,a7,n7,H7⟩ ⟨rfl,b4_,c4_,s5,s6,s7⟩ H;refine rc T 3 (kr (pc.R b3 (ll a4 x4 n4) x6 a6 n6) [] [1,1,2] J ae3 H (pc.c (s:=(dw.mk (aJ.mk x2 x3 x4) x5 x6 x7)) · (px b4_ (rO eB 0) fI) c4_ s5 (oO s6 1) s6.ck s7) (λv17 H=>?_));rintro _ _ ⟨lF,nI,a23,n23,a24,n24,sF,jd,Su,SF,mL,rfl,rfl⟩;refine fz J (ro T 7 (lf T 2 J (ro T 5 ?_)))
 cases H;exact p1 T J [4,0] ⟨a24,n24,sF,mL,J,J⟩ J
end
noncomputable section
def rl.l0:Nat->aJ->(List Int)->Int->Option Bool
 |0,_,_,_=>none
 |k3+1,t,l,x2=>if x2<(aa l:Int) then(if(0<=x2/\x2<(aa l:Int)) then((B_.f t (rd l x2)).bind λv4=>(if((v4==0)||(v4==255))=true then(some true) else(if x2>0 then(if(0<=(af (x2-1))/\(af (x2-1))<(aa l:Int)) then(some (decide ((rd l x2)<=(rd l (af (x2-1)))))) else none) else(some false))).bind λx5=>if x5=true then(some false) else(rl.l0 k3 t l (af (x2+1)))) else none) else((uX.f t).bind λv7=>some v7)
def rl.f (t:aJ) (l:(List Int)):Option Bool:=rl.l0 fuel t l 0
theorem rl.c (H:rl.f t l=some r) (eB:aU (Fl.int .u8) t.C iN F) (fI:aa t.C<=iR) (dt:aU (Fl.int .i64) l ig F) (gn:aa l<=g_):
 QU 266 [(.agg #[(ii t.W),(ii t.H),(ll iN t.C iR)]),(ll ig l g_)] [] F (bb r):=by
 unfold rl.f at H;refine aH Tryz.func266 J J (λW=>rc T 2 (nc T J (λb1=>ro T 12 (lq [1,2,8,9] [0,0] (λ(⟨k3,x2⟩:Nat×Int)=>(rl.l0 k3 t l x2=some r,[(10,(ii x2))],[])) J J (fuel,0) [0,0] H J J ?_))));rintro k3 x2 Z1;replace Z1:rl.l0 (k3+1) t l x2=some r:=Z1;rw[rl.l0] at Z1;refine rc T 6 (cd J Z1 (λZ1=>?_) (λZ1=>?_))
 ·refine rc T 7 ?_;obtain⟨c3,Z1⟩:=aF Z1;obtain⟨q2,o2,e2⟩:=dt.addr c3.1 c3.2;refine ix T J e2 c3 (le T 0 (rO dt 0) e2 c3 J J (ro T 6 (lm T 1 J (ro T 1 (k [] J afi Z1 (B_.c · (rO eB 0) fI) (λv4 Z1=>ro T 3 (mq Z1 [1,2,8,9,10] [0,0] (λz6 (x5:Bool)=>(x5=z6,[(36,(bb x5))],[])) J J (λz6 Z5 _=>?_) ?_)))))))
  ·refine rc T 4 (go T [3,4,5] 20 [1,2,5,6,8,9,10] 23 J J J J J J J (ro T 1 (ab 24 J Z5 (λZ5=>?_) (λZ5=>?_))))
   ·refine ro T 14 (am _ [0,0] (oi Z5) J J)
   refine ro T 3 (ad 27 J Z5 (λZ5=>?_) (λZ5=>?_))
   ·refine ro T 4 ?_;obtain⟨c8,Z5⟩:=aF Z5;refine ix T J e2 c8 (le T 0 (rO dt 0) e2 c8 J J (ro T 5 (am _ [0,0] (oi Z5) J J)))
   refine ro T 11 (am _ [0,0] (oi Z5) J J)
  rintro _ x5 rfl Z1;refine cb J Z1 (λZ1=>?_) (λZ1=>?_)
  ·refine rc T 11 ?_
   cases Z1;exact p0 T J [0] J
  refine rc T 8 (ar _ [0,0] Z1 J J)
 refine rc T 7 (lm T 1 J (k [] J K4 Z1 (uX.c · (rO eB 0) fI) (λv7 Z1=>ro T 4 ?_)))
 cases Z1;exact p0 T J [0] J
def za.f (t:aJ) (aj:Int):Option ((List Int)×Int):=(uV.f t [(a_.mk aj 4 0)]).bind λv1=>some (v1.1,v1.2)
def za.R (r:((List Int)×Int)):bm:=λu G=> ∃a0 n0 H0,ak (Fl.int .i64) 3 r.1 a0 n0 H0/\u=(.tuple #[(ll a0 r.1 n0),(ii r.2)])/\G=[H0]
theorem za.c (H:za.f t aj=some r) (eB:aU (Fl.int .u8) t.C iN F) (fI:aa t.C<=iR):
 QR 267 [(.agg #[(ii t.W),(ii t.H),(ll iN t.C iR)]),(ii aj)] [] [] F (za.R r):=by
 unfold za.f at H;refine aH Tryz.func267 J J (λW=>rc T 2 (nc T J (λb1=>ro T 6 (lm T 1 J (ro T 2 (ba (dp (k:=cW) T [(a_.mk aj 4 0)] J J J J J J J J J (λa2 H2 s2=>kr uV.R [] [] J U8 H (uV.c (l:=[(a_.mk aj 4 0)]) · (rO eB 0) fI (oO s2 2) s2.ck) (λv1 H=>?_)))))))));rintro _ _ ⟨a3,n3,H3,s3,rfl,rfl⟩;refine fz J (ro T 7 ?_)
 cases H;exact p1 T J [3,0] ⟨a3,n3,H3,s3,J,J⟩ J
def j3.l1:Nat->(List Int)->Int->((List Int)×Int)->List Int->Int->Option (List Int)
 |0,_,_,_,_,_=>none
 |yz+1,l,x5,v9,bA,aT=>if aT<(aa l:Int) then(if(0<=aT/\aT<(aa l:Int)) then(if(0<=(rd l aT)/\(rd l aT)<(aa v9.1:Int)) then(if(0<=(af ((af (aT*(aa l:Int)))+x5))/\(af ((af (aT*(aa l:Int)))+x5))<(aa bA:Int)) then(j3.l1 yz l x5 v9 (aG bA (ax (af ((af (aT*(aa l:Int)))+x5))) (rd v9.1 (rd l aT))) (af (aT+1))) else none) else none) else none) else(some bA)
def j3.l0:Nat->aJ->(List Int)->List Int->Int->Option ((List Int)×Int)
 |0,_,_,_,_=>none
 |k6+1,t,l,x4,x5=>if x5<(aa l:Int) then((if(0<=x5/\x5<(aa l:Int)) then((za.f t (rd l x5)).bind λv9=>j3.l1 fuel l x5 v9 x4 0) else none).bind λx7=>j3.l0 k6 t l x7 (af (x5+1))) else(some (x4,0))
def j3.f (t:aJ) (l:(List Int)):Option ((List Int)×Int):=(rl.f t l).bind λv1=>if(!v1)=true then(some ([],1)) else(if(0<=(af ((aa l:Int)*(aa l:Int)))/\(af ((aa l:Int)*(aa l:Int)))<=1099511627776) then(j3.l0 fuel t l (cy (ax (af ((aa l:Int)*(aa l:Int)))) (0:Int)) 0) else none)
def j3.R (r:((List Int)×Int)):bm:=λu G=> ∃a0 n0 H0,ak (Fl.int .i64) 3 r.1 a0 n0 H0/\u=(.tuple #[(ll a0 r.1 n0),(ii r.2)])/\G=[H0]
theorem j3.c (H:j3.f t l=some r) (eB:aU (Fl.int .u8) t.C iN F) (fI:aa t.C<=iR) (dt:aU (Fl.int .i64) l ig F) (gn:aa l<=g_):
 QR 238 [(.agg #[(ii t.W),(ii t.H),(ll iN t.C iR)]),(ll ig l g_)] [] [] F (j3.R r):=by
 unfold j3.f at H;refine aH Tryz.func238 J J (λW=>rc T 2 (nc T J (λb1=>ro T 7 (lm T 1 J (ro T 1 (k [] J ae_ H (rl.c · (rO eB 0) fI (rO dt 0) gn) (λv1 H=>ro T 3 (cb J H (λH=>?_) (λH=>?_)))))))))
 ·refine rc T 8 ?_
  cases H;refine bC (p1 T J [2,0] ⟨none,0,[],ak.nil,J,J⟩ J)
 refine rc T 14 ?_;obtain⟨c3,H⟩:=aF H;refine ba (zB (k:=(Fl.int .i64)) T (0:Int) J J J J J J J J c3 J (λa3 n3 H3 s3=>ro T 12 (lq [1,2,6,24,25] [0,0] (λ(⟨k6,x4,x5,a5,n5,H5⟩:Nat×List Int×Int×Option Addr×Nat×Hp)=>(j3.l0 k6 t l x4 x5=some r/\ak (Fl.int .i64) 3 x4 a5 n5 H5,[(7,(ll a5 x4 n5)),(26,(ii x5))],[H5])) J J (fuel,(cy (ax (af ((aa l:Int)*(aa l:Int)))) (0:Int)),0,a3,n3,H3) [0,0,0] ⟨H,s3⟩ J J ?_)));rintro k6 ⟨x4,x5,a5,n5,H5⟩ ⟨Z4,s5⟩;rw[j3.l0] at Z4;refine rc T 6 (cd J Z4 (λZ4=>?_) (λZ4=>?_))
 ·refine rc T 2 (mq Z4 [1,2,6,24,25,26] [0,0] (λz8 (⟨x7,a6,n6,H6⟩:List Int×Option Addr×Nat×Hp)=>(x7=z8/\ak (Fl.int .i64) 3 x7 a6 n6 H6,[(7,(ll a6 x7 n6))],[H6])) J J (λz8 Z6 _=>?_) ?_)
  ·refine rc T 4 ?_;obtain⟨c7,Z6⟩:=aF Z6;obtain⟨q7,o7,e7⟩:=dt.addr c7.1 c7.2;refine ix T J e7 c7 (le T 0 (rO dt 0) e7 c7 J J (ro T 6 (lm T 1 J (ro T 1 (kr za.R [] [] J ae' Z6 (za.c · (rO eB 0) fI) (λv9 Z6=>?_))))));rintro _ _ ⟨a8,n8,H8,s8,rfl,rfl⟩;refine fz J (ro T 15 (lq [1,2,6,8,10,24,25,26,37,38] [0,0,1] (λ(⟨yz,bA,aT,cK,n10,cu⟩:Nat×List Int×Int×Option Addr×Nat×Hp)=>(j3.l1 yz l x5 v9 bA aT=some z8/\ak (Fl.int .i64) 3 bA cK n10 cu,[(7,(ll cK bA n10)),(39,(ii aT))],[cu])) J J (fuel,x4,0,a5,n5,H5) [0,0,1,0] ⟨Z6,s5⟩ J J ?_));rintro yz ⟨bA,aT,cK,n10,cu⟩ ⟨Z9,bX⟩;rw[j3.l1] at Z9;refine rc T 6 (cd J Z9 (λZ9=>?_) (λZ9=>?_))
   ·refine rc T 7 ?_;obtain⟨eQ,Z9⟩:=aF Z9;obtain⟨q11,o11,zL⟩:=dt.addr eQ.1 eQ.2;refine ix T J zL eQ (le T 0 (rO dt 0) zL eQ J J (ro T 13 ?_));obtain⟨iF,Z9⟩:=aF Z9;obtain⟨xd,Qj,uh⟩:=s8.r.addr iF.1 iF.2;refine ix T J uh iF (le T 0 (oO s8 2) uh iF J J ?_);obtain⟨jC,Z9⟩:=aF Z9;obtain⟨XJ,Xm,yb⟩:=bX.r.addr jC.1 jC.2;refine ix T J yb jC (ba (lD (k:=(Fl.int .i64)) T 3 0 (rd v9.1 (rd l aT)) J J J J J J bX yb jC J J J (λgf gQ=>kf [1,2,6,8,10,24,25,26,37,38,39] [0,0,0,0] [(7,(ll cK (aG bA (ax (af ((af (aT*(aa l:Int)))+x5))) (rd v9.1 (rd l aT))) n10))] J J ⟨dP,trivial⟩ (ro T 8 (ar (_,_,_,_,_) [0,0,0,0] ⟨Z9,gQ⟩ J J)))))
   refine rc T 6 (am (_,_,_,_) [0,0,1] ⟨oi Z9,bX⟩ J J)
  rintro _ ⟨x7,a6,n6,H6⟩ ⟨rfl,s6⟩ Z4;refine rc T 5 (ar (_,_,_,_,_) [0,0,0] ⟨Z4,s6⟩ J J)
 refine rc T 13 ?_
 cases Z4;exact p1 T J [2,0] ⟨a5,n5,H5,s5,J,J⟩ J
end
noncomputable section
def mN.f (s:gD):Option (List Int):=some [s.bK,s.bL,s.bH,s.bG,s.bR,s.bM]
theorem mN.c (H:mN.f s=some r):
 QU 62 [(.agg #[(uu s.bK),(uu s.bL),(uu s.bH),(uu s.bG),(uu s.bR),(uu s.bM)])] [] F (.agg #[(uu (rd r 0)),(uu (rd r 1)),(uu (rd r 2)),(uu (rd r 3)),(uu (rd r 4)),(uu (rd r 5))]):=by
 unfold mN.f at H;refine aH Tryz.func62 J J (λW=>rc T 2 (nc T J (λb1=>nc T J (λb2=>ro T 5 (lf T 1 J (ro T 1 (lf T 1 J (ro T 1 (lf T 1 J (ro T 1 (lf T 1 J (ro T 1 (lf T 1 J (ro T 1 (lf T 1 J (bz J (KD T J J J J J J) (sg T 2 J (ro T 3 ?_))))))))))))))))))
 cases H;exact pb T J (.c_ (j:=2) [(uu s.bK),(uu s.bL),(uu s.bH),(uu s.bG),(uu s.bR),(uu s.bM)] J J J J J J J .nil) [0] () J J
def tM.f (a:Int) (b:Int):Option Int:=if a>(fc (18446744073709551615-b)) then(some 18446744073709551615) else(some (fc (a+b)))
theorem tM.c (H:tM.f a b=some r):
 QU 106 [(uu a),(uu b)] [] F (uu r):=by
 unfold tM.f at H;refine aH Tryz.func106 J J (λW=>rc T 14 (cd J H (λH=>?_) (λH=>?_)))
 ·refine rc T 7 ?_
  cases H;exact p0 T J [0] J
 refine rc T 11 ?_
 cases H;exact p0 T J [0] J
def nD.l0:Nat->Int->Int->Int->Int->Int->Int->Int->Int->Int->Int->Int->Int->Int->Option gD
 |0,_,_,_,_,_,_,_,_,_,_,_,_,_=>none
 |yA+1,x7,x8,x9,aN,bj,bA,jf,gL,iC,jg,fQ,jh,iJ=>if iJ<6 then(if(0<=iJ/\iJ<6) then(if(0<=iJ/\iJ<6) then((tM.f (rd [jf,gL,iC,jg,fQ,jh] iJ) (rd [x7,x8,x9,aN,bj,bA] iJ)).bind λrn=>if(0<=iJ/\iJ<6) then(nD.l0 yA x7 x8 x9 aN bj bA (rd (aG [jf,gL,iC,jg,fQ,jh] (ax iJ) rn) 0) (rd (aG [jf,gL,iC,jg,fQ,jh] (ax iJ) rn) 1) (rd (aG [jf,gL,iC,jg,fQ,jh] (ax iJ) rn) 2) (rd (aG [jf,gL,iC,jg,fQ,jh] (ax iJ) rn) 3) (rd (aG [jf,gL,iC,jg,fQ,jh] (ax iJ) rn) 4) (rd (aG [jf,gL,iC,jg,fQ,jh] (ax iJ) rn) 5) (af (iJ+1))) else none) else none) else none) else(some (gD.mk jf gL iC jg fQ jh))
def nD.f (a:gD) (b:gD):Option gD:=((mN.f a).bind λeN=>(mN.f b).bind λdC=>some ((rd eN 0),(rd eN 1),(rd eN 2),(rd eN 3),(rd eN 4),(rd eN 5),(rd dC 0),(rd dC 1),(rd dC 2),(rd dC 3),(rd dC 4),(rd dC 5))).bind λ(x1,x2,x3,x4,x5,x6,x7,x8,x9,aN,bj,bA)=>nD.l0 fuel x7 x8 x9 aN bj bA x1 x2 x3 x4 x5 x6 0
theorem nD.c (H:nD.f a b=some r):
 QU 78 [(.agg #[(uu a.bK),(uu a.bL),(uu a.bH),(uu a.bG),(uu a.bR),(uu a.bM)]),(.agg #[(uu b.bK),(uu b.bL),(uu b.bH),(uu b.bG),(uu b.bR),(uu b.bM)])] [] F (.agg #[(uu r.bK),(uu r.bL),(uu r.bH),(uu r.bG),(uu r.bR),(uu r.bM)]):=by
 unfold nD.f at H;refine aH Tryz.func78 J J (λW=>rc T 2 (nc T J (λb1=>nc T J (λb2=>nc T J (λb3=>ro T 2 (mq H [4] [0,2] (λJG (⟨x1,x2,x3,x4,x5,x6,x7,x8,x9,aN,bj,bA,b4,b5⟩:Int×Int×Int×Int×Int×Int×Int×Int×Int×Int×Int×Int×Nat×Nat)=>((x1,x2,x3,x4,x5,x6,x7,x8,x9,aN,bj,bA)=JG,[(5,(pp b4)),(6,(pp b5))],[(cl b4 123 [(uu x1),(uu x2),(uu x3),(uu x4),(uu x5),(uu x6)]),(cl b5 123 [(uu x7),(uu x8),(uu x9),(uu aN),(uu bj),(uu bA)])])) J J (λJG Z1 _=>?_) ?_))))))
 ·refine ks [2,3,4] J (fz J (rz [] mix (bU bT) (λhg pf=>av 0 sz hg pf J (gA T 1 J J J J J J J) (av 2 sz hg pf J (gA T 2 J J J J J J J) (R7 1 4 5 ?_ ?_ ?_)))))
  ·refine kh [] J qQ Z1 (mN.c ·) (λeN Z1=>an sz (R7 3 4 5 ?_ ?_ ?_))
   ·refine kh [] J qQ Z1 (mN.c ·) (λdC Z1=>an sz (gV 4 5 ?_ ?_))
    ·refine nw T J (λb6=>an (so [0,0,0,0]) (ao 5 (nw T J (λb7=>an (so [0,0,0,0]) (ao 6 (sf T 4 J (an (so [0,0,0,0]) (ao 7 (sf T 5 J (an (so [0,0,0,0]) (ae (rx T 1 (am (_,_,_,_,_,_,_,_,_,_,_,_,_,_) [0,2,2,2] (oi Z1) J J)))))))))))))
    refine nw T J (λb8=>an (so [0,0,0,0]) (ao 4 (nw T J (λb9=>an (so [0,0,0,0]) (ao 6 (sf T 5 J (an (so [0,0,0,0]) (ao 7 (sf T 4 J (an (so [0,0,0,0]) (ae (rx T 1 (am (_,_,_,_,_,_,_,_,_,_,_,_,_,_) [0,2,3,2] (oi Z1) J J)))))))))))))
   ·refine nw T J (λgm=>an (so [0,0,0,0]) (gV 3 5 ?_ ?_))
    ·refine kh [] J qQ Z1 (mN.c ·) (λcP Z1=>an (so [0,0,0,0]) (ao 5 (nw T J (λj7=>an (so [0,0,0,0]) (ao 6 (sf T 4 J (an (so [0,0,0,0]) (ao 7 (sf T 5 J (an (so [0,0,0,0]) (ae (rx T 1 (am (_,_,_,_,_,_,_,_,_,_,_,_,_,_) [0,2,2,2] (oi Z1) J J)))))))))))))
    refine nw T J (λlE=>an (so [0,0,0,0]) (ao 3 (kh [] J qQ Z1 (mN.c ·) (λv17 Z1=>an (so [0,0,0,0]) (ao 6 (sf T 4 J (an (so [0,0,0,0]) (ao 7 (sf T 5 J (an (so [0,0,0,0]) (ae (rx T 1 (am (_,_,_,_,_,_,_,_,_,_,_,_,_,_) [0,2,2,2] (oi Z1) J J)))))))))))))
   refine nw T J (λb13=>an (so [0,0,0,0]) (gV 3 4 ?_ ?_))
   ·refine kh [] J qQ Z1 (mN.c ·) (λfq Z1=>an (so [0,0,0,0]) (ao 4 (nw T J (λKg=>an (so [0,0,0,0]) (ao 6 (sf T 5 J (an (so [0,0,0,0]) (ao 7 (sf T 4 J (an (so [0,0,0,0]) (ae (rx T 1 (am (_,_,_,_,_,_,_,_,_,_,_,_,_,_) [0,2,3,2] (oi Z1) J J)))))))))))))
   refine nw T J (λpw=>an (so [0,0,0,0]) (ao 3 (kh [] J qQ Z1 (mN.c ·) (λpg Z1=>an (so [0,0,0,0]) (ao 6 (sf T 5 J (an (so [0,0,0,0]) (ao 7 (sf T 4 J (an (so [0,0,0,0]) (ae (rx T 1 (am (_,_,_,_,_,_,_,_,_,_,_,_,_,_) [0,2,3,2] (oi Z1) J J)))))))))))))
  ·refine nw T J (λrE=>an (so [0,0,0,0]) (gV 1 5 ?_ ?_))
   ·refine kh [] J qQ Z1 (mN.c ·) (λv20 Z1=>an (so [0,0,0,0]) (gV 3 5 ?_ ?_))
    ·refine kh [] J qQ Z1 (mN.c ·) (λv21 Z1=>an (so [0,0,0,0]) (ao 5 (nw T J (λCL=>an (so [0,0,0,0]) (ao 6 (sf T 4 J (an (so [0,0,0,0]) (ao 7 (sf T 5 J (an (so [0,0,0,0]) (ae (rx T 1 (am (_,_,_,_,_,_,_,_,_,_,_,_,_,_) [0,2,2,2] (oi Z1) J J)))))))))))))
    refine nw T J (λrF=>an (so [0,0,0,0]) (ao 3 (kh [] J qQ Z1 (mN.c ·) (λv22 Z1=>an (so [0,0,0,0]) (ao 6 (sf T 4 J (an (so [0,0,0,0]) (ao 7 (sf T 5 J (an (so [0,0,0,0]) (ae (rx T 1 (am (_,_,_,_,_,_,_,_,_,_,_,_,_,_) [0,2,2,2] (oi Z1) J J)))))))))))))
   refine nw T J (λb19=>an (so [0,0,0,0]) (ao 1 (kh [] J qQ Z1 (mN.c ·) (λv23 Z1=>an (so [0,0,0,0]) (ao 3 (kh [] J qQ Z1 (mN.c ·) (λv24 Z1=>an (so [0,0,0,0]) (ao 6 (sf T 4 J (an (so [0,0,0,0]) (ao 7 (sf T 5 J (an (so [0,0,0,0]) (ae (rx T 1 (am (_,_,_,_,_,_,_,_,_,_,_,_,_,_) [0,2,2,2] (oi Z1) J J))))))))))))))))
  refine nw T J (λKh=>an (so [0,0,0,0]) (gV 1 4 ?_ ?_))
  ·refine kh [] J qQ Z1 (mN.c ·) (λv25 Z1=>an (so [0,0,0,0]) (gV 3 4 ?_ ?_))
   ·refine kh [] J qQ Z1 (mN.c ·) (λv26 Z1=>an (so [0,0,0,0]) (ao 4 (nw T J (λCM=>an (so [0,0,0,0]) (ao 6 (sf T 5 J (an (so [0,0,0,0]) (ao 7 (sf T 4 J (an (so [0,0,0,0]) (ae (rx T 1 (am (_,_,_,_,_,_,_,_,_,_,_,_,_,_) [0,2,3,2] (oi Z1) J J)))))))))))))
   refine nw T J (λlF=>an (so [0,0,0,0]) (ao 3 (kh [] J qQ Z1 (mN.c ·) (λRf Z1=>an (so [0,0,0,0]) (ao 6 (sf T 5 J (an (so [0,0,0,0]) (ao 7 (sf T 4 J (an (so [0,0,0,0]) (ae (rx T 1 (am (_,_,_,_,_,_,_,_,_,_,_,_,_,_) [0,2,3,2] (oi Z1) J J)))))))))))))
  refine nw T J (λb23=>an (so [0,0,0,0]) (ao 1 (kh [] J qQ Z1 (mN.c ·) (λv28 Z1=>an (so [0,0,0,0]) (ao 3 (kh [] J qQ Z1 (mN.c ·) (λrm Z1=>an (so [0,0,0,0]) (ao 6 (sf T 5 J (an (so [0,0,0,0]) (ao 7 (sf T 4 J (an (so [0,0,0,0]) (ae (rx T 1 (am (_,_,_,_,_,_,_,_,_,_,_,_,_,_) [0,2,3,2] (oi Z1) J J))))))))))))))))
 rintro _ ⟨x1,x2,x3,x4,x5,x6,x7,x8,x9,aN,bj,bA,b4,b5⟩ rfl H;refine rc T 7 (lq [4,5,6] [0,0,1] (λ(⟨yA,jf,gL,iC,jg,fQ,jh,iJ⟩:Nat×Int×Int×Int×Int×Int×Int×Int)=>(nD.l0 yA x7 x8 x9 aN bj bA jf gL iC jg fQ jh iJ=some r,[(12,(ii iJ))],[(cl b4 123 [(uu jf),(uu gL),(uu iC),(uu jg),(uu fQ),(uu jh)])])) J J (fuel,x1,x2,x3,x4,x5,x6,0) [0,0,1,0] H J J ?_);rintro yA ⟨jf,gL,iC,jg,fQ,jh,iJ⟩ lC;replace lC:nD.l0 (yA+1) x7 x8 x9 aN bj bA jf gL iC jg fQ jh iJ=some r:=lC;rw[nD.l0] at lC;refine rc T 6 (cd J lC (λlC=>?_) (λlC=>?_))
 ·refine rc T 10 (fz J (rz [9] mix (bU bT) (λhg pf=>ha T 8 [0,1] sz hg pf J ?_)));obtain⟨uc,lC⟩:=aF lC;refine av 2 sz hg pf J (zQ T J J J J J uc) (av 3 sz hg pf J (cS T J J J J (Wq (kk:= .u64) (xs:=[jf,gL,iC,jg,fQ,jh]) (j:=3) J J uc)) (ha T 5 [4] sz hg pf J ?_));obtain⟨pU,lC⟩:=aF lC;refine av 5 sz hg pf J (zQ T J J J J J pU) (av 6 sz hg pf J (cS T J J J J (Wq (kk:= .u64) (xs:=[x7,x8,x9,aN,bj,bA]) (j:=2) J J pU)) (ao 7 (kh [] J KX lC (tM.c ·) (λrn lC=>an sz ?_))));obtain⟨SE,lC⟩:=aF lC;refine av 8 sz hg pf J (zQ T J J J J J SE) (ao 9 (abl (kk:= .u64) (xs:=[jf,gL,iC,jg,fQ,jh]) T 3 [(uu (rd (aG [jf,gL,iC,jg,fQ,jh] (ax iJ) rn) 0)),(uu (rd (aG [jf,gL,iC,jg,fQ,jh] (ax iJ) rn) 1)),(uu (rd (aG [jf,gL,iC,jg,fQ,jh] (ax iJ) rn) 2)),(uu (rd (aG [jf,gL,iC,jg,fQ,jh] (ax iJ) rn) 3)),(uu (rd (aG [jf,gL,iC,jg,fQ,jh] (ax iJ) rn) 4)),(uu (rd (aG [jf,gL,iC,jg,fQ,jh] (ax iJ) rn) 5))] J J J J J J J SE J (an sl (ae (rx T 7 (ar (_,_,_,_,_,_,_) [0,0,0,0] lC J J))))))
 refine rc T 7 (bz J (zQ T J J J J J (by decide)) (lf T 3 J (bz J (zQ T J J J J J (by decide)) (lf T 3 J (bz J (zQ T J J J J J (by decide)) (lf T 3 J (bz J (zQ T J J J J J (by decide)) (lf T 3 J (bz J (zQ T J J J J J (by decide)) (lf T 3 J (bz J (zQ T J J J J J (by decide)) (lf T 3 J (ro T 1 (sg T 1 J (ro T 1 (rx T 2 ?_))))))))))))))))
 cases lC;exact pb T J (.c_ (j:=1) [(uu jf),(uu gL),(uu iC),(uu jg),(uu fQ),(uu jh)] J J J J J J J .nil) [0] () J J
end
noncomputable section
def ID.f:Option Int:=some 0
theorem ID.c (H:ID.f=some r):
 QU 107 [(.pointer none)] [] F (uu r):=by
 unfold ID.f at H;refine aH Tryz.func107 J J (λW=>rc T 12 (oA J (rc T 7 ?_)))
 cases H;exact p0 T J [0] J
def IE.f (m:dO) (mG:bx):Option Int:=some m.count
theorem IE.c (H:IE.f m mG=some r) (tF:nJ m iW lI oo) (lV:iU mG lI l6):
 QU 107 [(pp iW)] [oo,l6] F (uu r):=by
 unfold IE.f at H;refine aH Tryz.func107 J J (λW=>rc T 12 (fj J (rc T 3 ?_)));obtain⟨a5,n5,H5,s5,dI⟩:=(λx=>x) tF;refine bY 0 (congrArg some dI) (fz J (rc T 4 (lf T 2 J (ro T 4 ?_))))
 cases H;refine dH [2,2] J dI (p0 T J [2,0,0] J)
def tq.f (g:bx):Option (Option dO):=(iY.f g).bind λv1=>(rp.f v1.1 v1.2).bind λv2=>if(0<=(af (v2.1*v2.2))/\(af (v2.1*v2.2))<=1099511627776) then(some (some (dO.mk (cy (ax (af (v2.1*v2.2))) (default:qf)) 0 0))) else none
def tq.R (w0:Nat) (r:(Option dO)):bm:=λu G=> ∃(u0:Value) (G0:List Hp),ZM w0 r u0 G0/\u=u0/\G=G0
theorem tq.c (H:tq.f g=some r) (fW:iU g fD gC):
 QR 150 [(pp fD)] [gC] [gC] F (tq.R fD r):=by
 unfold tq.f at H;refine aH Tryz.func150 J J (λW=>rc T 12 (fj J (rc T 5 (k [0] J vk H (iY.c · fW) (λv1 H=>ro T 2 (k [] J HB H (rp.c ·) (λv2 H=>ro T 13 ?_)))))));obtain⟨c3,H⟩:=aF H;refine ba (aa2 (kd:=Qw) (E:=217) T (default:qf) J J J J J J J ⟨none,0,[],none,0,[],(ak.nil (k:=(Fl.int .i64)) (E:=3)),(ak.nil (k:=(Fl.int .i32)) (E:=21)),J,J⟩ c3 J (λa2 n2 H2 s2=>ro T 1 (nc T J (λb3=>ro T 4 ?_))))
 cases H;refine gM [3,2] J (p1 T J [2,0,0] ⟨_,_,⟨b3,(bo [(cl b3 213 [(pp fD),(ll a2 (cy (ax (af (v2.1*v2.2))) (default:qf)) n2),(ii 0),(uu 0)]),H2]),(show nJ (dO.mk (cy (ax (af (v2.1*v2.2))) (default:qf)) 0 0) b3 fD (bo [(cl b3 213 [(pp fD),(ll a2 (cy (ax (af (v2.1*v2.2))) (default:qf)) n2),(ii 0),(uu 0)]),H2]) from⟨a2,n2,H2,s2,J⟩),J,J⟩,J,J⟩ J)
def oQ.l0:Nat->dO->bx->List Int->Int->Option (List Int)
 |0,_,_,_,_=>none
 |k6+1,m,mG,x4,x5=>if x5<(aa m.parts:Int) then(if(0<=x5/\x5<(aa m.parts:Int)) then((qO.f mG x5).bind λv7=>if((rd m.parts x5).version !=v7)=true then(if(aa x4+1<=1099511627776) then(oQ.l0 k6 m mG (x4++[x5]) (af (x5+1))) else none) else(oQ.l0 k6 m mG x4 (af (x5+1)))) else none) else(some x4)
def oQ.f (m:dO) (mG:bx):Option (List Int):=(pY.f mG).bind λv1=>if(m.clean==v1)=true then(some []) else(oQ.l0 fuel m mG [] 0)
def oQ.R (r:(List Int)):bm:=λu G=> ∃a0 n0 H0,ak (Fl.int .i64) 3 r a0 n0 H0/\u=(ll a0 r n0)/\G=[H0]
theorem oQ.c (H:oQ.f m mG=some r) (tF:nJ m iW lI oo) (lV:iU mG lI l6):
 QR 97 [(pp iW)] [oo,l6] [oo,l6] F (oQ.R r):=by
 unfold oQ.f at H;refine aH Tryz.func97 J J (λW=>rc T 7 ?_);obtain⟨a5,n5,H5,s5,dI⟩:=(λx=>x) tF;refine bY 0 (congrArg some dI) (fz J (dy mix aA ?_))
 iterate 6 refine au T J ?_
 refine cB T 2 J J J (au T J (au T J (au T J (cB T 2 J J J ?_))));obtain⟨v1,V1,H⟩:=fY H;refine xS [0] J J J J J J C7 J (pY.c V1 lV) (au T J (au T J (cU (rx T 1 (cb J H (λH=>?_) (λH=>?_))))))
 ·refine rc T 7 ?_
  cases H;refine dH [2,2] J dI (bC (p1 T J [3,2,0,0] ⟨none,0,[],ak.nil,J,J⟩ J))
 refine rc T 13 (lf T 2 J (ro T 5 (bC (lq [0,23] [1,1,0,0] (λ(⟨k6,x4,x5,a8,n8,H8⟩:Nat×List Int×Int×Option Addr×Nat×Hp)=>(oQ.l0 k6 m mG x4 x5=some r/\ak (Fl.int .i64) 3 x4 a8 n8 H8,[(3,(ll a8 x4 n8)),(24,(ii x5))],[H8])) J J (fuel,[],0,none,0,[]) [1,1,0,0,0] ⟨H,ak.nil⟩ J J ?_))));rintro k6 ⟨x4,x5,a8,n8,H8⟩ ⟨Z3,s8⟩;rw[oQ.l0] at Z3;refine rc T 6 (cd J Z3 (λZ3=>?_) (λZ3=>?_))
 ·refine rc T 11 (dy mix aA (au T J (au T J (au T J (cB T 1 J J J (au T J ?_))))));obtain⟨c5,Z3⟩:=aF Z3;obtain⟨q9,o9,e9⟩:=s5.r.addr c5.1 c5.2;refine br J J J (cV T J J J J J e9 c5.1 c5.2) (au T J ?_);obtain⟨_,w12,⟨cK,n10,dG,n11,⟨Qx,m10⟩,⟨Yc,m11⟩,rfl⟩⟩:=ov.view s5.r c5;refine br J J J (cS T J J J J (Ds (j:=3) J w12 e9 0 J)) (au T J (au T J (au T J (cB T 1 J J J (au T J ?_)))));obtain⟨v7,V6,Z3⟩:=fY Z3;refine xS [2] J J J J J J C8 J (qO.c V6 lV) (au T J (cU (rx T 1 (cb J Z3 (λZ3=>?_) (λZ3=>?_)))))
  ·refine rc T 3 (ba (dp (k:=(Fl.int .i64)) T [x5] J J J J J J J J J (λdQ fe dF=>?_)));obtain⟨c8,Z3⟩:=aF Z3;refine ba (eP (k:=(Fl.int .i64)) (xs:=x4) T (g:=4) J J J J J J J J J J s8 (oO dF 5) c8 J (λjk n14 gf gQ=>ro T 9 (ar (_,_,_,_,_) [0,0,0,0,0] ⟨Z3,gQ⟩ J J)))
  refine rc T 8 (ar (_,_,_,_,_) [0,0,0,0,0] ⟨Z3,s8⟩ J J)
 refine rc T 12 ?_
 cases Z3;refine dH [1,2] J dI (p1 T J [2,2,1,0] ⟨a8,n8,H8,s8,J,J⟩ J)
def jH.l1:Nat->Int->List Int->((List Int)×Int)->List Int->Int->Option qf
 |0,_,_,_,_,_=>none
 |Im+1,x3,x4,fq,eX,cg=>if cg<(aa fq.1:Int) then(if(0<=cg/\cg<(aa fq.1:Int)) then(if(0<=cg/\cg<(aa eX:Int)) then(if((rd fq.1 cg)!=1099511627776)=true then(if(0<=cg/\cg<(aa (aG eX (ax cg) (-1)):Int)) then(jH.l1 Im x3 x4 fq (aG (aG eX (ax cg) (-1)) (ax cg) (IntKind.i32.wrap (rd fq.1 cg))) (af (cg+1))) else none) else(jH.l1 Im x3 x4 fq (aG eX (ax cg) (-1)) (af (cg+1)))) else none) else none) else(some (qf.mk x3 x4 eX))
def jH.l0:Nat->(Int×Int)->(aJ×Bool)->Int->List Int->List Int->Int->Option qf
 |0,_,_,_,_,_,_=>none
 |Ai+1,v1,v2,x3,x4,bd,cE=>if cE<(aa x4:Int) then(if(0<=cE/\cE<(aa x4:Int)) then((sx.f v1.1 v1.2 (rd x4 cE)).bind λv17=>if(aa bd+1<=1099511627776) then(jH.l0 Ai v1 v2 x3 x4 (bd++[v17]) (af (cE+1))) else none) else none) else((j3.f v2.1 bd).bind λfq=>if(0<=(aa fq.1:Int)/\(aa fq.1:Int)<=1099511627776) then(jH.l1 fuel x3 x4 fq (cy (ax (aa fq.1:Int)) (0:Int)) 0) else none)
def jH.f (m:dO) (bI:Int) (mG:bx):Option qf:=(iY.f mG).bind λv1=>(mB.f mG bI).bind λv2=>((qO.f mG bI).bind λv7=>(kF.f mG bI).bind λv8=>some (v7,v8,([]:List Int))).bind λ(x3,x4,x5)=>jH.l0 fuel v1 v2 x3 x4 [] 0
def jH.R (r:qf):bm:=λu G=> ∃a0 n0 H0 a1 n1 H1,ak (Fl.int .i64) 3 r.nodes a0 n0 H0/\ak (Fl.int .i32) 21 r.aR a1 n1 H1/\u=(.agg #[(ii r.version),(ll a0 r.nodes n0),(ll a1 r.aR n1)])/\G=[H0,H1]
theorem jH.c (H:jH.f m bI mG=some r) (tF:nJ m iW lI oo) (lV:iU mG lI l6):
 QR 211 [(pp iW),(ii bI)] [oo,l6] [oo,l6] F (jH.R r):=by
 unfold jH.f at H;refine aH Tryz.func211 J J (λW=>rc T 2 (nc T J (λb3=>ro T 3 ?_)));obtain⟨a6,n6,H6,s6,lK⟩:=(λx=>x) tF;refine bY 0 (congrArg some lK) (fz J (rc T 4 (lf T 3 J (k [0] J vk H (iY.c · lV) (λv1 H=>ro T 12 (lf T 3 J (ro T 1 (kr mB.R [0] [0] J UE H (mB.c · lV) (λv2 H=>?_)))))))));rintro _ _ ⟨a7,n7,H7,s7,rfl,rfl⟩;refine fz J (ro T 3 (nc T J (λb8=>sg T 6 J (ro T 3 (mq H [4,5,6,7] [0,0,4,2,0,1,0] (λz6 (⟨x3,x4,x5,b9,cK,n10,cu,dG,n11,cM⟩:Int×List Int×List Int×Nat×Option Addr×Nat×Hp×Option Addr×Nat×Hp)=>((x3,x4,x5)=z6/\ak (Fl.int .i64) 3 x4 cK n10 cu/\ak (Fl.int .i32) 21 x5 dG n11 cM,[(9,(pp b9))],[(cl b9 217 [(ii x3),(ll cK x4 n10),(ll dG x5 n11)]),cu,cM])) J J (λz6 Z3 _=>?_) ?_)))))
 ·refine ks [0,1,4,5,6,7] J (fz J (rz [] mix (bU bT) (λhg pf=>ha T 12 [0,1,2] sz hg pf J (al T 3 2 sz hg pf J J J (ha T 7 [4,6,7,8] sz hg pf J (al T 9 2 sz hg pf J J J (ha T 5 [10] sz hg pf J (gV 5 13 ?_ ?_))))))))
  ·refine kh [5] J C8 Z3 (qO.c · lV) (λv7 Z3=>an sz (gV 11 13 ?_ ?_))
   ·refine kR kF.R [5] [5] J K0 Z3 (kF.c · lV) (λv8 Z3=>?_);rintro _ _ ⟨a12,n12,dL,dS,rfl,rfl⟩;refine fz J (an (so [0,0,0,0,0,2,0]) (ha T 2 [12] (so [0,0,0,0,0,2,0]) hg pf J (ao 13 (nw T J (λb13=>an (so [0,0,0,0,0,2,0]) (ao 14 (sf T 8 J (an (so [0,0,0,0,0,2,0]) (ae (rx T 1 (bC (am (_,_,_,_,_,_,_,_,_,_) [0,0,3,2,0,2,0,1,0,0] ⟨oi Z3,dS,ak.nil⟩ J J))))))))))))
   refine nw T J (λKg=>an (so [0,0,0,0,0,0,0]) (ao 11 (kR kF.R [5] [5] J K0 Z3 (kF.c · lV) (λv9 Z3=>?_))));rintro _ _ ⟨kC,n15,dT,eG,rfl,rfl⟩;refine fz J (an (so [0,0,0,0,0,3,0]) (ha T 1 [12] (so [0,0,0,0,0,3,0]) hg pf J (ao 14 (sf T 6 J (an (so [0,0,0,0,0,3,0]) (ae (rx T 1 (bC (am (_,_,_,_,_,_,_,_,_,_) [0,0,3,2,0,3,0,0,0,0] ⟨oi Z3,eG,ak.nil⟩ J J)))))))))
  refine nw T J (λrE=>an (so [0,0,0,0,0,0,0]) (ao 5 (kh [5] J C8 Z3 (qO.c · lV) (λv10 Z3=>an (so [0,0,0,0,0,0,0]) (ao 11 (kR kF.R [5] [5] J K0 Z3 (kF.c · lV) (λv11 Z3=>?_)))))));rintro _ _ ⟨a17,n17,eZ,fO,rfl,rfl⟩;refine fz J (an (so [0,0,0,0,0,3,0]) (ha T 1 [12] (so [0,0,0,0,0,3,0]) hg pf J (ao 14 (sf T 6 J (an (so [0,0,0,0,0,3,0]) (ae (rx T 1 (bC (am (_,_,_,_,_,_,_,_,_,_) [0,0,3,2,0,3,0,0,0,0] ⟨oi Z3,fO,ak.nil⟩ J J)))))))))
 rintro _ ⟨x3,x4,x5,b9,cK,n10,cu,dG,n11,cM⟩ ⟨rfl,bX,dr⟩ H;refine rc T 9 (lf T 7 J (ro T 5 (bC (lq [4,5,6,7,9,48,49] [0,0,0,0,3,3,3,0,0,0] (λ(⟨Ai,bd,cE,mY,n19,lB⟩:Nat×List Int×Int×Option Addr×Nat×Hp)=>(jH.l0 Ai v1 v2 x3 x4 bd cE=some r/\ak (Fl.int .i64) 3 bd mY n19 lB,[(10,(ll mY bd n19)),(50,(ii cE))],[lB])) J J (fuel,[],0,none,0,[]) [0,0,0,0,3,3,3,0,0,0,0] ⟨H,ak.nil⟩ J J ?_))));rintro Ai ⟨bd,cE,mY,n19,lB⟩ ⟨Z9,iz⟩;rw[jH.l0] at Z9;refine rc T 6 (cd J Z9 (λZ9=>?_) (λZ9=>?_))
 ·refine rc T 6 ?_;obtain⟨eQ,Z9⟩:=aF Z9;obtain⟨q20,o20,Bn⟩:=bX.r.addr eQ.1 eQ.2;refine ix T J Bn eQ (le T 0 (oO bX 5) Bn eQ J J (ro T 8 (k [] J Hv Z9 (sx.c ·) (λv17 Z9=>ba (dp (k:=(Fl.int .i64)) T [v17] J J J J J J J J J (λa21 lY kt=>?_))))));obtain⟨jC,Z9⟩:=aF Z9;refine ba (eP (k:=(Fl.int .i64)) (xs:=bd) T (g:=10) J J J J J J J J J J iz (oO kt 11) jC J (λa22 n22 nI jd=>ro T 9 (ar (_,_,_,_,_) [0,0,0,0,0,0,0,0,0,0,0] ⟨Z9,jd⟩ J J)))
 refine rc T 7 (lm T 2 J (ro T 1 (kr j3.R [] [] J aeX Z9 (j3.c · (oO s7 3) s7.ck (oO iz 10) iz.ck) (λfq Z9=>?_))));rintro _ _ ⟨a23,n23,j5,iA,rfl,rfl⟩;refine fz J (ro T 11 ?_);obtain⟨zK,Z9⟩:=aF Z9;refine ba (zB (k:=(Fl.int .i32)) T (0:Int) J J J J J J J J zK J (λa24 n24 sF mL=>ro T 1 (sg T 4 J (ro T 11 (lq [4,9,72,73] [0,0,3,8,4,4,4] (λ(⟨Im,eX,cg,a26,n26,pM⟩:Nat×List Int×Int×Option Addr×Nat×Hp)=>(jH.l1 Im x3 x4 fq eX cg=some r/\ak (Fl.int .i32) 21 eX a26 n26 pM,[(74,(ii cg))],[(cl b9 217 [(ii x3),(ll cK x4 n10),(ll a26 eX n26)]),pM])) J J (fuel,(cy (ax (aa fq.1:Int)) (0:Int)),0,a24,n24,sF) [0,0,3,8,4,4,4,2,4] ⟨Z9,mL⟩ J J ?_)))));rintro Im ⟨eX,cg,a26,n26,pM⟩ ⟨kB,oX⟩;rw[jH.l1] at kB;refine rc T 6 (cd J kB (λkB=>?_) (λkB=>?_))
 ·refine rc T 7 ?_;obtain⟨l_,kB⟩:=aF kB;obtain⟨IY,o27,CX⟩:=iA.r.addr l_.1 l_.2;refine ix T J CX l_ (le T 0 (oO iA 3) CX l_ J J (ro T 7 (lf T 7 J (ro T 1 ?_))));obtain⟨Be,kB⟩:=aF kB;obtain⟨q28,o28,Ko⟩:=oX.r.addr Be.1 Be.2;refine ix T J Ko Be (ba (lD (k:=(Fl.int .i32)) T 8 0 (-1) J J J J J J oX Ko Be J J J (λsG sb=>kg [4,9,15,16,72,73,74] [0,0,0,0,0,0,0,1] [0,0,0,0,0,0,0,1,0] [] [(cl b9 217 [(ii x3),(ll cK x4 n10),(ll a26 (aG eX (ax cg) (-1)) n26)])] J J trivial dP (ro T 8 (cb J kB (λkB=>?_) (λkB=>?_))))))
  ·refine rc T 2 (lf T 8 J (ro T 3 ?_));obtain⟨pU,kB⟩:=aF kB;refine ix T J Ko pU (ba (lD (k:=(Fl.int .i32)) T 7 0 (IntKind.i32.wrap (rd fq.1 cg)) J J J J J J sb Ko pU J J J (λsH qo=>kg [4,9,72,73,74] [0,0,0,0,0,0,0,0] [0,0,0,0,0,0,0,0,0] [] [(cl b9 217 [(ii x3),(ll cK x4 n10),(ll a26 (aG (aG eX (ax cg) (-1)) (ax cg) (IntKind.i32.wrap (rd fq.1 cg))) n26)])] J J trivial dP (ro T 8 (ar (_,_,_,_,_) [0,0,0,0,0,0,0,1,0] ⟨kB,qo⟩ J J)))))
  refine rc T 8 (ar (_,_,_,_,_) [0,0,0,0,0,0,0,1,0] ⟨kB,sb⟩ J J)
 refine rc T 7 (lm T 7 J (sg T 1 J (ro T 3 ?_)))
 cases kB;refine dH [4,5] J lK (pb T J (.c_ (j:=1) [(ii x3),(ll cK x4 n10),(ll a26 eX n26)] J J J J J J J .nil) [2,5,5,3,0] ⟨(_,_),cK,n10,cu,a26,n26,pM,bX,oX,J,J⟩ J J)
def oR.l0:Nat->bx->(List Int)->dO->Int->Option (Int×dO)
 |0,_,_,_,_=>none
 |k6+1,mG,v1,x4,x5=>if x5<(aa v1:Int) then(if(0<=x5/\x5<(aa v1:Int)) then((jH.f x4 (rd v1 x5) mG).bind λv7=>if(0<=(rd v1 x5)/\(rd v1 x5)<(aa x4.parts:Int)) then((tM.f x4.count 1).bind λv8=>oR.l0 k6 mG v1 (dO.mk (aG x4.parts (ax (rd v1 x5)) v7) x4.clean v8) (af (x5+1))) else none) else none) else((pY.f mG).bind λv9=>some ((aa v1:Int),(dO.mk x4.parts v9 x4.count)))
def oR.f (m:dO) (mG:bx):Option (Int×dO):=(oQ.f m mG).bind λv1=>oR.l0 fuel mG v1 m 0
def oR.R (ab9:Nat) (ag7:Nat) (r:(Int×dO)):bm:=λu G=> ∃(H0:Hp),nJ r.2 ab9 ag7 H0/\u=(ii r.1)/\G=[H0]
theorem oR.c (H:oR.f m mG=some r) (tF:nJ m iW lI oo) (lV:iU mG lI l6):
 QR 181 [(pp iW)] [oo,l6] [l6] F (oR.R iW lI r):=by
 unfold oR.f at H;refine aH Tryz.func181 J J (λW=>rc T 12 (fj J (rc T 5 (kr oQ.R [0,0] [0,0] J afS H (oQ.c · tF lV) (λv1 H=>?_)))));rintro _ _ ⟨a3,n3,H3,s3,rfl,rfl⟩;refine fz J (ro T 12 (lq [0,3,10,11] [0,2,0] (λ(⟨k6,x4,x5,H5⟩:Nat×dO×Int×Hp)=>(oR.l0 k6 mG v1 x4 x5=some r/\nJ x4 iW lI H5,[(12,(ii x5))],[H5])) J J (fuel,m,0,oo) [0,2,0,0] ⟨H,tF⟩ J J ?_));rintro k6 ⟨x4,x5,H5⟩ ⟨Z2,s5⟩;rw[oR.l0] at Z2;refine rc T 6 (cd J Z2 (λZ2=>?_) (λZ2=>?_))
 ·refine rc T 6 ?_;obtain⟨c4,Z2⟩:=aF Z2;obtain⟨q6,o6,e6⟩:=s3.r.addr c4.1 c4.2;refine ix T J e6 c4 (le T 0 (oO s3 2) e6 c4 J J (ro T 4 ?_));obtain⟨a9,n9,H9,s9,s_⟩:=(λx=>x) s5;refine bY 3 (congrArg some s_) (fz J (fz J (rz [9] mix (bU bT) (λhg pf=>ha T 7 [0,1,2] sz hg pf J (al T 3 3 sz hg pf J J J (ha T 3 [4,5,6] sz hg pf J (ao 7 ?_)))))));obtain⟨v7,V5,Z2⟩:=fY Z2;refine GL (As:=[(cl iW 213 [(pp lI),(ll a9 x4.parts n9),(ii x4.clean),(uu x4.count)]),H9,l6]) (jH.R v7) [(cl iW 213 [(pp lI),(ll a9 x4.parts n9),(ii x4.clean),(uu x4.count)]),H9,l6] [3,3,1] J J J J aeE J J (Kn (A:=[H5,l6]) (A2:=[H5,l6]) (by simp only[s_,wa,v_,wb,oq,pn]) (by simp only[s_,wa,v_,wb,oq,pn]) (jH.c V5 s5 lV)) ?_
  rintro _ _ ⟨cK,n10,cu,dG,n11,cM,bX,dr,rfl,rfl⟩;refine fz J (an (so [0,5,0,2,2]) ?_);obtain⟨c6,Z2⟩:=aF Z2;obtain⟨xd,Qj,uh⟩:=s9.r.addr c6.1 c6.2;refine av 8 (so [0,5,0,2,2]) hg pf J (cV T J J J J J uh c6.1 c6.2) (ao 9 (Nq (j:=5) J s9 c6 (λ_ _ dT o15 eG=>?_)));obtain⟨dQ,n13,fe,jk,n14,gf,dF,gQ,rfl,rfl⟩:=o15;refine Nt (Nr T 5 0 [(ii v7.version),(ll cK v7.nodes n10),(ll dG v7.aR n11)] J J J J J J eG uh J J J J (λgB gw=>an sl (ae (gM [2,2] J (Np (j:=3) (q:=7) v7 J gw J J ⟨cK,n10,cu,dG,n11,cM,bX,dr,J,J⟩ (λfE fP=>kg [0,3,10,11,12] [0,0,1,1] [0,0,1,1,0] [] [(cl iW 213 [(pp lI),(ll a9 (aG x4.parts (ax (rd v1 x5)) v7) n9),(ii x4.clean),(uu x4.count)])] J J trivial dP (rx T 6 (lf T 4 J (k [] J KX Z2 (tM.c ·) (λv8 Z2=>ro T 2 (sg T 4 J (ro T 8 (gM [4,2] J (ar (_,_,_) [0,1,0,0] ⟨Z2,(show nJ (dO.mk (aG x4.parts (ax (rd v1 x5)) v7) x4.clean v8) iW lI (bo [(cl iW 213 [(pp lI),(ll a9 (aG x4.parts (ax (rd v1 x5)) v7) n9),(ii x4.clean),(uu v8)]),fE]) from⟨a9,n9,fE,fP,J⟩)⟩ J J))))))))))))))
 refine rc T 6 ?_;obtain⟨a21,n21,lY,kt,Hg⟩:=(λx=>x) s5;refine bY 3 (congrArg some Hg) (fz J (rc T 5 (lf T 3 J (k [1] J C7 Z2 (pY.c · lV) (λv9 Z2=>ro T 2 (sg T 3 J (ro T 10 ?_)))))))
 cases Z2;refine gM [3,3] J (p1 T J [3,1,0] ⟨(bo [(cl iW 213 [(pp lI),(ll a21 x4.parts n21),(ii v9),(uu x4.count)]),lY]),(show nJ (dO.mk x4.parts v9 x4.count) iW lI (bo [(cl iW 213 [(pp lI),(ll a21 x4.parts n21),(ii v9),(uu x4.count)]),lY]) from⟨a21,n21,lY,kt,J⟩),J,J⟩ J)
def yE.f (m:dO) (bI:Int) (mG:bx):Option (List Int):=(if bI<0 then(some true) else(some (decide (bI≥(aa m.parts:Int))))).bind λx1=>if x1=true then(some []) else(if(0<=bI/\bI<(aa m.parts:Int)) then((ri.f ((rd m.parts bI).nodes)).bind λv3=>some v3) else none)
def yE.R (r:(List Int)):bm:=λu G=> ∃a0 n0 H0,ak (Fl.int .i64) 3 r a0 n0 H0/\u=(ll a0 r n0)/\G=[H0]
theorem yE.c (H:yE.f m bI mG=some r) (tF:nJ m iW lI oo) (lV:iU mG lI l6):
 QR 215 [(pp iW),(ii bI)] [oo,l6] [oo,l6] F (yE.R r):=by
 unfold yE.f at H;refine aH Tryz.func215 J J (λW=>rc T 6 (mq H [0,1] [2,0,0] (λz2 (x1:Bool)=>(x1=z2,[(19,(bb x1))],[])) J J (λz2 Z1 _=>?_) ?_))
 ·obtain⟨a5,n5,H5,s5,dI⟩:=(λx=>x) tF;refine bY 0 (congrArg some dI) (fz J (rc T 8 (ad 11 J Z1 (λZ1=>?_) (λZ1=>?_))))
  ·refine ro T 10 (dH [2,2] J dI (am _ [1,1,0] (oi Z1) J J))
  refine ro T 4 (lf T 2 J (ro T 5 (dH [2,2] J dI (am _ [1,1,0] (oi Z1) J J))))
 rintro _ x1 rfl H;refine cb J H (λH=>?_) (λH=>?_)
 ·refine rc T 7 ?_
  cases H;refine bC (p1 T J [3,1,1,0] ⟨none,0,[],ak.nil,J,J⟩ J)
 refine rc T 3 ?_;obtain⟨a9,n9,H9,s9,s_⟩:=(λx=>x) tF;refine bY 1 (congrArg some s_) (fz J (rc T 4 (lf T 2 J (ro T 1 ?_))));obtain⟨c4,H⟩:=aF H;obtain⟨Mf,L9,qK⟩:=s9.r.addr c4.1 c4.2;refine ix T J qK c4 (ro T 1 ?_);obtain⟨_,w13,⟨dG,n11,a12,n12,⟨Yc,m11⟩,⟨r12,m12⟩,rfl⟩⟩:=ov.view s9.r c4;refine lg T J (Ds (j:=3) J w13 qK 1 J) (kr ri.R [] [] J OP H (ri.c · (rO Yc 3) m11) (λv3 H=>?_));rintro _ _ ⟨jk,n14,gf,gQ,rfl,rfl⟩;refine fz J (ro T 4 ?_)
 cases H;refine dH [2,2] J s_ (p1 T J [2,2,1,0] ⟨jk,n14,gf,gQ,J,J⟩ J)
def Fx.f (p:qf) (cell:Int):Option (Int×Bool):=(pI.f p.nodes cell).bind λv1=>some (v1.1,v1.2)
theorem Fx.c (H:Fx.f p cell=some r) (LS:Cn NA Qk [(ii p.version),(ll Nc p.nodes Qb),(ll Na p.aR Qa)] F) (Us:aU (Fl.int .i64) p.nodes Nc F) (SK:aa p.nodes<=Qb) (Oz:aU (Fl.int .i32) p.aR Na F) (ab1:aa p.aR<=Qa):
 QU 272 [(.pointer (some ⟨NA,Qk+0,none⟩)),(ii cell)] [] F (.tuple #[(ii r.1),(bb r.2)]):=by
 unfold Fx.f at H;refine aH Tryz.func272 J J (λW=>rc T 11 (lg T J (PR LS (j:=0) J 1 J) (ro T 1 (k [] J afj H (pI.c · (rO Us 0) SK) (λv1 H=>ro T 7 ?_)))))
 cases H;exact p0 T J [0] J
def uw.f (m:dO) (cell:Int) (mG:bx):Option ((Option Int)×Int×Bool):=(iY.f mG).bind λv1=>(gJ.f v1.1 v1.2 cell).bind λv2=>if v2<0 then(some (none,0,false)) else(if(0<=v2/\v2<(aa m.parts:Int)) then((Fx.f (rd m.parts v2) cell).bind λv3=>some ((some v2),v3.1,v3.2)) else none)
def uw.R (xa0:Option Addr) (xl0:Nat) (r:((Option Int)×Int×Bool)):bm:=λu G=> ∃(u0:Value),ZU r.1 xa0 xl0 3 u0/\u=(.tuple #[u0,(ii r.2.1),(bb r.2.2)])/\G=[]
theorem uw.c (H:uw.f m cell mG=some r) (Yv:gT Qw 217 m.parts M_ W6 RA) (lV:iU mG lI l6):
 QR 243 [(pp iW),(ii cell)] [(cl iW 213 [(pp lI),(ll M_ m.parts W6),(ii m.clean),(uu m.count)]),RA,l6] [(cl iW 213 [(pp lI),(ll M_ m.parts W6),(ii m.clean),(uu m.count)]),RA,l6] F (uw.R M_ (aa m.parts) r):=by
 unfold uw.f at H;refine aH Tryz.func243 J J (λW=>rc T 14 (fj J (rc T 7 (lf T 0 J (k [2] J vk H (iY.c · lV) (λv1 H=>ro T 12 (k [] J tf H (gJ.c ·) (λv2 H=>ro T 10 (cd J H (λH=>?_) (λH=>?_))))))))))
 ·refine rc T 9 ?_
  cases H;exact p1 T J [0,0,0,0] ⟨_,J,J,J⟩ J
 refine rc T 7 (lf T 0 J (ro T 1 ?_));obtain⟨c4,H⟩:=aF H;obtain⟨q4,o4,e4⟩:=Yv.r.addr c4.1 c4.2;refine ix T J e4 c4 (ro T 7 ?_);obtain⟨_,w7,⟨a5,n5,a6,n6,⟨r5,m5⟩,⟨r6,m6⟩,rfl⟩⟩:=ov.view Yv.r c4;refine k [] J afc H (Fx.c · (Sl w7 e4 (j:=1) J) (rO r5 1) m5 (rO r6 1) m6) (λv3 H=>ro T 18 ?_)
 cases H;exact p1 T J [0,0,0,0] ⟨_,⟨c4,q4,o4,e4,J⟩,J,J⟩ J
def DF.f (p:qf) (i:Int) (j:Int):Option Int:=if(0<=(af ((af (i*(aa p.nodes:Int)))+j))/\(af ((af (i*(aa p.nodes:Int)))+j))<(aa p.aR:Int)) then(if((rd p.aR (af ((af (i*(aa p.nodes:Int)))+j)))!=(-1))=true then(some (af (rd p.aR (af ((af (i*(aa p.nodes:Int)))+j))))) else(some 1099511627776)) else none
theorem DF.c (H:DF.f p i j=some r) (LS:Cn NA Qk [(ii p.version),(ll Nc p.nodes Qb),(ll Na p.aR Qa)] F) (Us:aU (Fl.int .i64) p.nodes Nc F) (SK:aa p.nodes<=Qb) (Oz:aU (Fl.int .i32) p.aR Na F) (ab1:aa p.aR<=Qa):
 QU 244 [(.pointer (some ⟨NA,Qk+0,none⟩)),(ii i),(ii j)] [] F (ii r):=by
 unfold DF.f at H;refine aH Tryz.func244 J J (λW=>rc T 7 (dy mix aA (au T J (au T J (au T J (br J J J (cS T J J J J (PR LS (j:=0) J 2 J)) ?_))))))
 iterate 4 refine au T J ?_
 refine br J J J (cS T J J J J (PR LS (j:=0) J 1 J)) ?_
 iterate 4 refine au T J ?_
 obtain⟨c1,H⟩:=aF H;obtain⟨q1,o1,e1⟩:=Oz.addr c1.1 c1.2;refine br J J J (cV T J J J J J e1 c1.1 c1.2) (br J J J (cS T J J J J (iu (k:=(Fl.int .i32)) (rO Oz 0) e1 c1 0 J)) (au T J (cU (rx T 7 (cb J H (λH=>?_) (λH=>?_))))))
 ·refine rc T 9 ?_
  cases H;exact p0 T J [0] J
 refine rc T 8 ?_
 cases H;exact p0 T J [0] J
def iw.l1:Nat->dO->Int->bx->Int->(Int×Int)->List eJ->Int->Option (List eJ)
 |0,_,_,_,_,_,_,_=>none
 |ma+1,m,b,mG,eY,v10,aT,bd=>if bd<=3 then((mP.f v10.1 v10.2 b bd).bind λcP=>(uw.f m cP mG).bind λv17=>dA v17.1 (if v17.2.2=true then((jq.f mG b).bind λfq=>if(aa aT+1<=1099511627776) then(iw.l1 ma m b mG eY v10 (aT++[(eJ.mk cP fq)]) (af (bd+1))) else none) else(iw.l1 ma m b mG eY v10 aT (af (bd+1)))) (λZo=>if v17.2.2=true then(if(!(Zo==eY))=true then((jq.f mG b).bind λpg=>if(aa aT+1<=1099511627776) then(iw.l1 ma m b mG eY v10 (aT++[(eJ.mk cP pg)]) (af (bd+1))) else none) else(iw.l1 ma m b mG eY v10 aT (af (bd+1)))) else(iw.l1 ma m b mG eY v10 aT (af (bd+1))))) else(some aT)
def iw.l0:Nat->dO->Int->bx->((Option Int)×Int×Bool)->Int->List eJ->Int->Option (List eJ)
 |0,_,_,_,_,_,_,_=>none
 |k6+1,m,b,mG,v1,eY,x4,x5=>if x5<(aa ((rd m.parts eY).nodes):Int) then((if(0<=x5/\x5<(aa ((rd m.parts eY).nodes):Int)) then((DF.f (rd m.parts eY) x5 v1.2.1).bind λv9=>if((x5 !=v1.2.1)&&(v9 !=1099511627776))=true then(if(aa x4+1<=1099511627776) then(some (x4++[(eJ.mk (rd ((rd m.parts eY).nodes) x5) v9)])) else none) else(some x4)) else none).bind λx7=>iw.l0 k6 m b mG v1 eY x7 (af (x5+1))) else((iY.f mG).bind λv10=>iw.l1 fuel m b mG eY v10 x4 0)
def iw.f (m:dO) (b:Int) (mG:bx):Option (List eJ):=(uw.f m b mG).bind λv1=>dA v1.1 (if(!v1.2.2)=true then(some []) else(none)) (λeY=>if(!v1.2.2)=true then(some []) else(if(0<=(0:Int)/\(0:Int)<=(af ((aa ((rd m.parts eY).nodes):Int)+1))/\(af ((aa ((rd m.parts eY).nodes):Int)+1))<=1099511627776) then(iw.l0 fuel m b mG v1 eY (cy (ax 0) (default:eJ)) 0) else none))
def iw.R (r:(List eJ)):bm:=λu G=> ∃a0 n0 H0,ak qc 283 r a0 n0 H0/\u=(ll a0 r n0)/\G=[H0]
theorem iw.c (H:iw.f m b mG=some r) (tF:nJ m iW lI oo) (lV:iU mG lI l6):
 QR 219 [(pp iW),(ii b)] [oo,l6] [oo,l6] F (iw.R r):=by
 unfold iw.f at H;refine aH Tryz.func219 J J (λW=>rc T 6 ?_);obtain⟨a5,n5,H5,s5,dI⟩:=(λx=>x) tF;refine bY 0 (congrArg some dI) (fz J (rc T 3 (kr (uw.R a5 (aa m.parts)) [2,2,0] [2,2,0] J U9 H (uw.c · s5 lV) (λv1 H=>?_))));rintro _ _ ⟨_,X2,rfl,rfl⟩;refine fz J ?_;rcases Lx:v1.1 with _ |eY
 ·replace H:=fx Lx H;rw[Lx] at X2;obtain rfl:=X2;refine ro T 16 (cb J H (λH=>?_) (λH=>?_))
  ·refine rc T 7 ?_
   cases H;refine dH [1,1] J dI (bC (p1 T J [3,2,1,0] ⟨none,0,[],ak.nil,J,J⟩ J))
  refine rc T 5 ?_
  cases H
 replace H:=fy Lx H;rw[Lx] at X2;obtain⟨On,q6,o6,e6,rfl⟩:=X2;refine ro T 16 (cb J H (λH=>?_) (λH=>?_))
 ·refine rc T 7 ?_
  cases H;refine dH [1,1] J dI (bC (p1 T J [3,2,1,0] ⟨none,0,[],ak.nil,J,J⟩ J))
 refine rc T 7 ?_;obtain⟨_,Zf,⟨a9,n9,cK,n10,⟨r9,m9⟩,⟨Qx,m10⟩,rfl⟩⟩:=ov.view s5.r On;refine lg T J (Ds (j:=2) J Zf e6 1 J) (ro T 2 ?_);obtain⟨c5,H⟩:=aF H;refine ba (aa' (k:=qc) T (default:eJ) J J J J J J J J c5 J (λa12 n12 dL dS=>ro T 9 (lg T J (Ds (j:=2) J Zf e6 1 J) (ro T 5 (lq [0,1,5,6,38,39] [0,0,1,0] (λ(⟨k6,x4,x5,jk,n14,gf⟩:Nat×List eJ×Int×Option Addr×Nat×Hp)=>(iw.l0 k6 m b mG v1 eY x4 x5=some r/\ak qc 283 x4 jk n14 gf,[(8,(ll jk x4 n14)),(40,(ii x5))],[gf])) J J (fuel,(cy (ax 0) (default:eJ)),0,a12,n12,dL) [0,0,1,0,0] ⟨H,dS⟩ J J ?_)))));rintro k6 ⟨x4,x5,jk,n14,gf⟩ ⟨Z6,gQ⟩;rw[iw.l0] at Z6;refine rc T 6 (cd J Z6 (λZ6=>?_) (λZ6=>?_))
 ·refine rc T 2 (mq Z6 [0,1,5,6,38,39,40] [0,0,0,0] (λz8 (⟨x7,kC,n15,dT⟩:List eJ×Option Addr×Nat×Hp)=>(x7=z8/\ak qc 283 x7 kC n15 dT,[(8,(ll kC x7 n15))],[dT])) J J (λz8 Z8 _=>?_) ?_)
  ·refine rc T 4 ?_;obtain⟨c9,Z8⟩:=aF Z8;obtain⟨q16,o16,G3⟩:=r9.addr c9.1 c9.2;refine ix T J G3 c9 (le T 0 (rO r9 3) G3 c9 J J (ro T 9 ?_));obtain⟨_,w19,⟨a17,n17,jA,n18,⟨r17,m17⟩,⟨r18,m18⟩,rfl⟩⟩:=ov.view s5.r On;refine k [] J ae1 Z8 (DF.c · (Sl w19 e6 (j:=3) J) (rO r17 3) m17 (rO r18 3) m18) (λv9 Z8=>ro T 9 (ga T [4,5,6] 52 [0,1,5,6,8,10,11,38,39,40] 55 J J J J J J J (ro T 2 (cb J Z8 (λZ8=>?_) (λZ8=>?_)))))
   ·refine rc T 5 (ba (dp (k:=qc) T [(eJ.mk (rd ((rd m.parts eY).nodes) x5) v9)] J J J J J J J J J (λa20 pk mJ=>?_)));obtain⟨iF,Z8⟩:=aF Z8;refine ba (eP (k:=qc) (xs:=x4) T (g:=4) J J J J J J J J J J gQ (oO mJ 5) iF J (λa21 n21 lY kt=>ro T 4 (am (_,_,_,_) [0,0,0,0,0] ⟨oi Z8,kt⟩ J J)))
   refine rc T 3 (am (_,_,_,_) [0,0,0,0,0] ⟨oi Z8,gQ⟩ J J)
  rintro _ ⟨x7,kC,n15,dT⟩ ⟨rfl,eG⟩ Z6;refine rc T 5 (ar (_,_,_,_,_) [0,0,0,0,0] ⟨Z6,eG⟩ J J)
 refine rc T 10 (lf T 1 J (k [2] J vk Z6 (iY.c · lV) (λv10 Z6=>ro T 14 (lq [0,1,5,12,13] [0,0,0,0] (λ(⟨ma,aT,bd,a23,n23,j5⟩:Nat×List eJ×Int×Option Addr×Nat×Hp)=>(iw.l1 ma m b mG eY v10 aT bd=some r/\ak qc 283 aT a23 n23 j5,[(8,(ll a23 aT n23)),(14,(ii bd))],[j5])) J J (fuel,x4,0,jk,n14,gf) [0,0,0,0,0] ⟨Z6,gQ⟩ J J ?_))));rintro ma ⟨aT,bd,a23,n23,j5⟩ ⟨cj,iA⟩;rw[iw.l1] at cj;refine rc T 7 (cd J cj (λcj=>?_) (λcj=>?_))
 ·refine rc T 10 (k [] J Bq cj (mP.c ·) (λcP cj=>ro T 7 (kr (uw.R a5 (aa m.parts)) [1,2,1] [1,2,1] J U9 cj (uw.c · s5 lV) (λv17 cj=>?_))));rintro _ _ ⟨_,J0,rfl,rfl⟩;refine fz J ?_;rcases Lz:v17.1 with _ |Zo
  ·replace cj:=fx Lz cj;rw[Lz] at J0;obtain rfl:=J0;refine ro T 13 (ab 88 J cj (λcj=>?_) (λcj=>?_))
   ·refine ro T 2 (bz J (adv T J J J J) (ro T 3 (oA J (rc T 6 (lf T 2 J (ro T 1 (k [4] J wI cj (jq.c · lV) (λfq cj=>ro T 1 (ba (dp (k:=qc) T [(eJ.mk cP fq)] J J J J J J J J J (λa25 iD jW=>?_)))))))))));obtain⟨pU,cj⟩:=aF cj;refine ba (eP (k:=qc) (xs:=aT) T (g:=1) J J J J J J J J J J iA (oO jW 5) pU J (λa26 n26 pM oX=>ro T 10 (ar (_,_,_,_,_) [0,1,2,1,0] ⟨cj,oX⟩ J J)))
   refine ro T 6 (fj J (rc T 9 (ar (_,_,_,_,_) [0,1,2,1,0] ⟨cj,iA⟩ J J)))
  replace cj:=fy Lz cj;rw[Lz] at J0;obtain⟨adJ,q24,o24,e24,rfl⟩:=J0;refine ro T 13 (ab 88 J cj (λcj=>?_) (λcj=>?_))
  ·refine ro T 2 (bz J (adw T J J J J J J e24 e6 adJ.1 On.1) (ro T 3 (cb J cj (λcj=>?_) (λcj=>?_))))
   ·refine rc T 6 (lf T 2 J (ro T 1 (k [4] J wI cj (jq.c · lV) (λpg cj=>ro T 1 (ba (dp (k:=qc) T [(eJ.mk cP pg)] J J J J J J J J J (λJ1 Gg xm=>?_)))))));obtain⟨c25,cj⟩:=aF cj;refine ba (eP (k:=qc) (xs:=aT) T (g:=1) J J J J J J J J J J iA (oO xm 5) c25 J (λa28 n28 vS kL=>ro T 10 (ar (_,_,_,_,_) [0,1,2,1,0] ⟨cj,kL⟩ J J)))
   refine rc T 9 (ar (_,_,_,_,_) [0,1,2,1,0] ⟨cj,iA⟩ J J)
  refine ro T 6 (fj J (rc T 9 (ar (_,_,_,_,_) [0,1,2,1,0] ⟨cj,iA⟩ J J)))
 refine rc T 12 ?_
 cases cj;refine dH [1,2] J dI (p1 T J [2,2,1,0] ⟨a23,n23,j5,iA,J,J⟩ J)
end
noncomputable section
def I1.f:Option Int:=some 0
theorem I1.c (H:I1.f=some r):
 QU 108 [(.pointer none)] [] F (uu r):=by
 unfold I1.f at H;refine aH Tryz.func108 J J (λW=>rc T 12 (oA J (rc T 7 ?_)))
 cases H;exact p0 T J [0] J
def I2.f (ai:ko) (kj:dO) (fA:bx):Option Int:=some ai.count
theorem I2.c (H:I2.f ai kj fA=some r) (cZ:u9 ai aY mu j8 dx) (AH:nJ kj mu j8 pN) (qt:iU fA j8 mT):
 QU 108 [(pp aY)] [dx,pN,mT] F (uu r):=by
 unfold I2.f at H;refine aH Tryz.func108 J J (λW=>rc T 12 (fj J (rc T 3 ?_)));obtain⟨Cg,H7,s7,lK⟩:=(λx=>x) cZ;refine bY 0 (congrArg some lK) (fz J (rc T 4 (lf T 3 J (ro T 4 ?_))))
 cases H;refine dH [3,3] J lK (p0 T J [3,0,0,0] J)
def uF.f (m:dO) (g:bx):Option (Option ko):=some (some (ko.mk none 0))
def uF.R (w0:Nat) (w1:Nat) (r:(Option ko)):bm:=λu G=> ∃(u0:Value) (G0:List Hp),ZP w0 w1 r u0 G0/\u=u0/\G=G0
theorem uF.c (H:uF.f m g=some r) (tF:nJ m iW fD oo) (fW:iU g fD gC):
 QR 151 [(pp iW),(pp fD)] [oo,gC] [oo,gC] F (uF.R iW fD r):=by
 unfold uF.f at H;refine aH Tryz.func151 J J (λW=>rc T 16 (fj J (rc T 7 (nc T J (λb3=>ro T 4 ?_)))))
 cases H;refine bC (gM [3,3] J (p1 T J [3,0,0,0] ⟨_,_,⟨b3,(bo [(cl b3 233 [(pp iW),(pp fD),(.pointer none),(uu 0)]),[]]),(show u9 (ko.mk none 0) b3 iW fD (bo [(cl b3 233 [(pp iW),(pp fD),(.pointer none),(uu 0)]),[]]) from⟨(.pointer none),[],(show M0 none iW fD (.pointer none) [] from⟨J,J⟩),J⟩),J,J⟩,J,J⟩ J))
def I3.f:Option Unit:=some ()
theorem I3.c (H:I3.f=some r):
 QU 118 [(.pointer none)] [] F (.tuple #[]):=by
 unfold I3.f at H;refine aH Tryz.func118 J J (λW=>rc T 6 (fj J (rc T 1 (jB ?_))))
 cases H;exact p0 T J [0] J
def BO.f (ai:ko) (kj:dO) (fA:bx):Option ko:=some (ko.mk none ai.count)
def BO.R (oD:Nat) (PY:Nat) (PZ:Nat) (r:ko):bm:=λu G=> ∃(H0:Hp),u9 r oD PY PZ H0/\u=(.tuple #[])/\G=[H0]
theorem BO.c (H:BO.f ai kj fA=some r) (cZ:u9 ai aY mu j8 dx) (AH:nJ kj mu j8 pN) (qt:iU fA j8 mT):
 QR 118 [(pp aY)] [dx,pN,mT] [pN,mT] F (BO.R aY mu j8 r):=by
 unfold BO.f at H;refine aH Tryz.func118 J J (λW=>rc T 6 (oA J ?_));obtain⟨Cg,H7,s7,lK⟩:=(λx=>x) cZ;refine bY 0 (congrArg some lK) (fz J (rc T 4 (sg T 3 J (ro T 1 (jB ?_)))))
 cases H;refine bC (gM [3,4] J (p1 T J [4,0,0,0] ⟨(bo [(cl aY 233 [(pp mu),(pp j8),(.pointer none),(uu ai.count)]),[]]),(show u9 (ko.mk none ai.count) aY mu j8 (bo [(cl aY 233 [(pp mu),(pp j8),(.pointer none),(uu ai.count)]),[]]) from⟨(.pointer none),[],(show M0 none mu j8 (.pointer none) [] from⟨J,J⟩),J⟩),J,J⟩ J))
def f_.l1:Nat->Int->bx->(Int×Int)->(List (Int×Int))->Int->Int->List cT->Int->Option ((List (Int×Int))×(List cT))
 |0,_,_,_,_,_,_,_,_=>none
 |qa+1,goal,fA,v1,bj,bd,aT,cg,eO=>if eO<=3 then((mP.f v1.1 v1.2 bd eO).bind λv25=>(if v25<0 then(some true) else((gJ.f v1.1 v1.2 v25).bind λv28=>(gJ.f v1.1 v1.2 goal).bind λrm=>if(v28 !=rm)=true then(some true) else((jq.f fA v25).bind λv30=>some (v30==255)))).bind λkA=>if kA=true then(f_.l1 qa goal fA v1 bj bd aT cg (af (eO+1))) else((jq.f fA bd).bind λv31=>(nh.f (eW.mk cg) (af (aT+v31)) v25).bind λv32=>f_.l1 qa goal fA v1 bj bd aT v32.l (af (eO+1)))) else(some ((cF bj bd aT),cg))
def f_.l0:Nat->Int->bx->(Int×Int)->(List (Int×Int))->List cT->Int->Int->Bool->Option (List (Int×Int))
 |0,_,_,_,_,_,_,_,_=>none
 |Ai+1,goal,fA,v1,bj,bA,aT,bd,cE=>if cE=true then((if(bt bj bd)=true then(some (bj,bA)) else(f_.l1 fuel goal fA v1 bj bd aT bA 0)).bind λ(du,eH)=>(ng.f (eW.mk eH)).bind λv33=>f_.l0 Ai goal fA v1 du v33.2.2.2.l v33.1 v33.2.1 v33.2.2.1) else(some bj)
def f_.f (ai:ko) (goal:Int) (kj:dO) (fA:bx):Option (List (Int×Int)):=(iY.f fA).bind λv1=>(jq.f fA goal).bind λv2=>if(v2==255)=true then(some ([]:(List (Int×Int)))) else((wN.f).bind λv3=>dA v3 (none) (λA1=>(nh.f A1 0 goal).bind λv4=>(ng.f v4).bind λv5=>f_.l0 fuel goal fA v1 ([]:(List (Int×Int))) v5.2.2.2.l v5.1 v5.2.1 v5.2.2.1))
def f_.R (r:(List (Int×Int))):bm:=λu G=> ∃(a0:Nat) (H0:Hp),de (Ky.int .i64 u3) (λx:Int=>Value.int .i64 x) r a0 H0/\u=(.map (some a0))/\G=[H0]
theorem f_.c (H:f_.f ai goal kj fA=some r) (cZ:u9 ai aY mu j8 dx) (AH:nJ kj mu j8 pN) (qt:iU fA j8 mT):
 QR 214 [(pp aY),(ii goal)] [dx,pN,mT] [dx,pN,mT] F (f_.R r):=by
 unfold f_.f at H;refine aH Tryz.func214 J J (λW=>rc T 6 ?_);obtain⟨Cg,H7,s7,lK⟩:=(λx=>x) cZ;refine bY 0 (congrArg some lK) (fz J (rc T 4 (lf T 3 J (k [1] J vk H (iY.c · qt) (λv1 H=>ro T 9 (ba (wo T (Ky.int .i64 u3) (λx:Int=>Value.int .i64 x) J J J trivial (λa8 H8 s8=>ro T 9 (lf T 3 J (ro T 1 (k [1] J wI H (jq.c · qt) (λv2 H=>ro T 3 (cb J H (λH=>?_) (λH=>?_))))))))))))))
 ·refine rc T 8 ?_
  cases H;refine dH [3,3] J lK (p1 T J [3,3,0,0,0] ⟨a8,H8,s8,J,J⟩ J)
 refine rc T 4 (kr wN.R [] [] J U4 H (wN.c ·) (λv3 H=>?_));rintro _ _ ⟨_,_,O5,rfl,rfl⟩;rcases v3 with _ |A1
 ·replace H:=fx J H
  cases H
 replace H:=fy J H;obtain⟨b9,cK,n10,cu,bX,rfl,rfl⟩:=O5;refine ro T 7 (kr (nh.R b9) [] [6,6] J K2 H (nh.c · bX) (λv4 H=>?_));rintro _ _ ⟨dG,n11,cM,dr,rfl,rfl⟩;refine fz J (ro T 1 (ks [0,1,5,6,7,8] J (rx T 5 (kr (ng.R b9) [] [6,6] J K3 H (ng.c · dr) (λv5 H=>?_)))));rintro _ _ ⟨a12,n12,dL,dS,rfl,rfl⟩;refine fz J (ro T 10 (lq [0,1,5,6,8] [2,2,2,0,0] (λ(⟨Ai,bj,bA,aT,bd,cE,kC,dT,kD,n16,gB⟩:Nat×(List (Int×Int))×List cT×Int×Int×Bool×Nat×Hp×Option Addr×Nat×Hp)=>(f_.l0 Ai goal fA v1 bj bA aT bd cE=some r/\de (Ky.int .i64 u3) (λx:Int=>Value.int .i64 x) bj kC dT/\ak fV 359 bA kD n16 gB,[(7,(.map (some kC))),(9,(ii aT)),(10,(ii bd)),(11,(bb cE))],[dT,(cl b9 357 [(ll kD bA n16)]),gB])) J J (fuel,([]:(List (Int×Int))),v5.2.2.2.l,v5.1,v5.2.1,v5.2.2.1,a8,H8,a12,n12,dL) [2,2,2,0,0,0,0,0] ⟨H,s8,dS⟩ J J ?_));rintro Ai ⟨bj,bA,aT,bd,cE,kC,dT,kD,n16,gB⟩ ⟨Z8,eG,gw⟩;rw[f_.l0] at Z8;refine rc T 6 (cb J Z8 (λZ8=>?_) (λZ8=>?_))
 ·refine rc T 2 (mq Z8 [0,1,5,6,8] [0,0,0,0,0] (λRs (⟨du,eH,a17,eZ,jA,n18,fE⟩:(List (Int×Int))×List cT×Nat×Hp×Option Addr×Nat×Hp)=>((du,eH)=Rs/\de (Ky.int .i64 u3) (λx:Int=>Value.int .i64 x) du a17 eZ/\ak fV 359 eH jA n18 fE,[(7,(.map (some a17)))],[eZ,(cl b9 357 [(ll jA eH n18)]),fE])) J J (λRs jM _=>?_) ?_)
  ·refine rc T 6 (bz J (qN (k:=bd) T (Ky.int .i64 u3) (λx:Int=>Value.int .i64 x) J J J J J (pF eG (j:=5) J)) (ro T 12 (cb J jM (λjM=>?_) (λjM=>?_))))
   ·refine rc T 4 (am (_,_,_,_,_,_,_) [0,0,0,0,0,0,0,0] ⟨oi jM,eG,gw⟩ J J)
   refine rc T 7 (ba (qG (g:=5) (m:=bj) (k:=bd) (v:=aT) T (Ky.int .i64 u3) (λx:Int=>Value.int .i64 x) J J J J J J J eG (λlB iz=>ro T 8 (lq [0,1,5,6,7,8,9,10] [0,0,0,0,0,0] (λ(⟨qa,cg,eO,a21,n21,lY⟩:Nat×List cT×Int×Option Addr×Nat×Hp)=>(f_.l1 qa goal fA v1 bj bd aT cg eO=some Rs/\ak fV 359 cg a21 n21 lY,[(14,(ii eO))],[(cl b9 357 [(ll a21 cg n21)]),lY])) J J (fuel,bA,0,kD,n16,gB) [0,0,0,0,0,0,0,0] ⟨jM,gw⟩ J J ?_))));rintro qa ⟨cg,eO,a21,n21,lY⟩ ⟨bp,kt⟩;rw[f_.l1] at bp;refine rc T 7 (cd J bp (λbp=>?_) (λbp=>?_))
   ·refine rc T 10 (k [] J Bq bp (mP.c ·) (λv25 bp=>ro T 4 (mq bp [0,1,5,6,7,8,9,10,14,15] [0,0,0,0,0,0,0,0] (λZq (kA:Bool)=>(kA=Zq,[(90,(bb kA))],[])) J J (λZq dD _=>?_) ?_)))
    ·refine rc T 4 (ad 71 J dD (λdD=>?_) (λdD=>?_))
     ·refine ro T 21 (am _ [0,0,0,0,0,0,0,0] (oi dD) J J)
     refine ro T 3 (k [] J tf dD (gJ.c ·) (λv28 dD=>ro T 3 (k [] J tf dD (gJ.c ·) (λrm dD=>ro T 3 (ab 82 J dD (λdD=>?_) (λdD=>?_))))))
     ·refine ro T 10 (am _ [0,0,0,0,0,0,0,0] (oi dD) J J)
     refine ro T 3 (lf T 1 J (ro T 1 (k [4] J wI dD (jq.c · qt) (λv30 dD=>ro T 4 (am _ [0,0,0,0,0,0,0,0] (oi dD) J J)))))
    rintro _ kA rfl bp;refine cb J bp (λbp=>?_) (λbp=>?_)
    ·refine rc T 10 (ar (_,_,_,_,_) [0,0,0,0,0,0,0,0] ⟨bp,kt⟩ J J)
    refine rc T 8 (lf T 1 J (ro T 1 (k [4] J wI bp (jq.c · qt) (λv31 bp=>ro T 2 (kr (nh.R b9) [] [6,6] J K2 bp (nh.c (h:=(eW.mk cg)) · kt) (λv32 bp=>?_))))));rintro _ _ ⟨a22,n22,nI,jd,rfl,rfl⟩;refine fz J (ro T 9 (ar (_,_,_,_,_) [0,0,0,0,0,0,0,0] ⟨bp,jd⟩ J J))
   refine rc T 6 (am (_,_,_,_,_,_,_) [0,0,0,0,0,0,0,0] ⟨oi bp,iz,kt⟩ J J)
  rintro _ ⟨du,eH,a17,eZ,jA,n18,fE⟩ ⟨rfl,fO,fP⟩ Z8;refine rc T 2 (kr (ng.R b9) [] [6,6] J K3 Z8 (ng.c (h:=(eW.mk eH)) · fP) (λv33 Z8=>?_));rintro _ _ ⟨a23,n23,j5,iA,rfl,rfl⟩;refine fz J (ro T 9 (ar (_,_,_,_,_,_,_,_,_,_) [0,0,0,0,0,0,0,0] ⟨Z8,fO,iA⟩ J J))
 refine rc T 12 ?_
 cases Z8;refine dH [1,1] J lK (p1 T J [3,5,1,1,0] ⟨kC,dT,eG,J,J⟩ J)
def uG.f (ai:hJ) (node:Int) (key:Int):Option (Bool×hJ):=if(0<=node/\node<(aa ai.aR:Int)) then(if key≥(af (rd ai.aR node)) then(some (false,ai)) else(some (true,(hJ.mk ai.goal ai.bS (aG ai.aR (ax node) (IntKind.i32.wrap key)))))) else none
def uG.R (aY:Nat) (r:(Bool×hJ)):bm:=λu G=> ∃a0 n0 H0,ak (Fl.int .i32) 21 r.2.aR a0 n0 H0/\u=(bb r.1)/\G=[(cl aY 235 [(ii r.2.goal),(ii r.2.bS),(ll a0 r.2.aR n0)]),H0]
theorem uG.c (H:uG.f ai node key=some r) (xt:ak (Fl.int .i32) 21 ai.aR xQ yF A5):
 QR 216 [(pp aY),(ii node),(ii key)] [(cl aY 235 [(ii ai.goal),(ii ai.bS),(ll xQ ai.aR yF)]),A5] [] F (uG.R aY r):=by
 unfold uG.f at H;refine aH Tryz.func216 J J (λW=>rc T 12 (lf T 0 J (ro T 1 ?_)));obtain⟨c1,H⟩:=aF H;obtain⟨q3,o3,e3⟩:=xt.r.addr c1.1 c1.2;refine ix T J e3 c1 (le T 0 (oO xt 1) e3 c1 J J (ro T 4 (cd J H (λH=>?_) (λH=>?_))))
 ·refine rc T 7 ?_
  cases H;exact p1 T J [0,0,0] ⟨xQ,yF,A5,xt,J,J⟩ J
 refine rc T 7 (lf T 0 J (ro T 3 (ix T J e3 c1 (ba (lD (k:=(Fl.int .i32)) T 1 0 (IntKind.i32.wrap key) J J J J J J xt e3 c1 J J J (λH4 s4=>kg [] [1,1] [1,1,0] [] [(cl aY 235 [(ii ai.goal),(ii ai.bS),(ll xQ (aG ai.aR (ax node) (IntKind.i32.wrap key)) yF)])] J J trivial dP (ro T 8 ?_)))))))
 cases H;exact p1 T J [2,0,0] ⟨xQ,yF,H4,s4,J,J⟩ J
def gv.l2:Nat->Int->Int->(List eJ)->Int->Int->List Int->List cT->Int->Option (Int×Int×(List Int)×(List cT))
 |0,_,_,_,_,_,_,_,_=>none
 |Io+1,goal,fQ,tN,Ev,Ew,Ck,AV,sD=>if sD<(aa tN:Int) then(if(0<=sD/\sD<(aa tN:Int)) then((uG.f (hJ.mk Ev Ew Ck) ((rd tN sD).To) (af (fQ+(rd tN sD).kP))).bind λv64=>if v64.1=true then((nh.f (eW.mk AV) (af (fQ+(rd tN sD).kP)) ((rd tN sD).To)).bind λZe=>gv.l2 Io goal fQ tN v64.2.goal v64.2.bS v64.2.aR Ze.l (af (sD+1))) else(gv.l2 Io goal fQ tN v64.2.goal v64.2.bS v64.2.aR AV (af (sD+1)))) else none) else(some (Ev,Ew,Ck,AV))
def gv.l1:Nat->Int->dO->bx->Int->Int->List Int->List cT->Int->Int->Bool->Option (Option hJ)
 |0,_,_,_,_,_,_,_,_,_,_=>none
 |yA+1,goal,kj,fA,jf,gL,iC,jg,fQ,jh,iJ=>if iJ=true then((if(0<=jh/\jh<(aa iC:Int)) then(if fQ>(af (rd iC jh)) then(some (jf,gL,iC,jg)) else((iw.f kj jh fA).bind λtN=>gv.l2 fuel goal fQ tN jf gL iC jg 0)) else none).bind λ(Jt,Ju,Gd,Eu)=>(ng.f (eW.mk Eu)).bind λv66=>gv.l1 yA goal kj fA Jt Ju Gd v66.2.2.2.l v66.1 v66.2.1 v66.2.2.1) else(some (some (hJ.mk jf gL iC)))
def gv.l0:Nat->Int->dO->bx->(List (Int×Int))->(List Int)->Int->Int->List Int->List cT->Int->Option (Option hJ)
 |0,_,_,_,_,_,_,_,_,_,_=>none
 |LF+1,goal,kj,fA,v5,v7,aT,bd,cE,ez,du=>if du<(aa v7:Int) then((if(0<=du/\du<(aa v7:Int)) then((if(bt v5 (rd v7 du))=true then((uG.f (hJ.mk aT bd cE) (rd v7 du) (aP v5 (rd v7 du))).bind λrm=>some (rm.2.goal,rm.2.bS,rm.2.aR,rm.1)) else(some (aT,bd,cE,false))).bind λ(ry,mi,kA,mQ)=>if mQ=true then((nh.f (eW.mk ez) (aP v5 (rd v7 du)) (rd v7 du)).bind λv30=>some (ry,mi,kA,v30.l)) else(some (ry,mi,kA,ez))) else none).bind λ(dh,lW,eX,cg)=>gv.l0 LF goal kj fA v5 v7 dh lW eX cg (af (du+1))) else((ng.f (eW.mk ez)).bind λv31=>gv.l1 fuel goal kj fA aT bd cE v31.2.2.2.l v31.1 v31.2.1 v31.2.2.1)
def gv.f (ai:ko) (goal:Int) (kj:dO) (fA:bx):Option (Option hJ):=(iY.f fA).bind λv1=>(pY.f fA).bind λv2=>(qx.f [2147483647] (af (v1.1*v1.2))).bind λv3=>(wN.f).bind λv4=>dA v4 (none) (λxI=>(f_.f ai goal kj fA).bind λv5=>(gJ.f v1.1 v1.2 goal).bind λv6=>(yE.f kj v6 fA).bind λv7=>gv.l0 fuel goal kj fA v5 v7 goal v2 v3 xI.l 0)
def gv.R (r:(Option hJ)):bm:=λu G=> ∃(u0:Value) (G0:List Hp),ZQ r u0 G0/\u=u0/\G=G0
theorem gv.c (H:gv.f ai goal kj fA=some r) (cZ:u9 ai aY mu j8 dx) (AH:nJ kj mu j8 pN) (qt:iU fA j8 mT):
 QR 182 [(pp aY),(ii goal)] [dx,pN,mT] [dx,pN,mT] F (gv.R r):=by
 unfold gv.f at H;refine aH Tryz.func182 J J (λW=>rc T 6 ?_);obtain⟨Cg,H7,s7,lK⟩:=(λx=>x) cZ;refine bY 0 (congrArg some lK) (fz J (rc T 4 (lf T 3 J (k [1] J vk H (iY.c · qt) (λv1 H=>ro T 13 (lf T 3 J (k [1] J C7 H (pY.c · qt) (λv2 H=>ba (dp (k:=(Fl.int .i32)) T [2147483647] J J J J J J J J J (λa8 H8 s8=>ro T 3 (kr qx.R [] [] J aeF H (qx.c · (oO s8 5) s8.ck) (λv3 H=>?_))))))))))));rintro _ _ ⟨a9,n9,H9,s9,rfl,rfl⟩;refine fz J (ro T 1 (nc T J (λgm=>ro T 5 (kr wN.R [] [] J U4 H (wN.c ·) (λv4 H=>?_)))));rintro _ _ ⟨_,_,O5,rfl,rfl⟩;rcases v4 with _ |xI
 ·replace H:=fx J H
  cases H
 replace H:=fy J H;obtain⟨j7,a12,n12,dL,dS,rfl,rfl⟩:=O5;refine ro T 7 ?_;obtain⟨v5,V6,H⟩:=fY H;refine ba (GL (As:=[(cl aY 233 [(pp mu),(pp j8),Cg,(uu ai.count)]),H7,pN,mT]) (f_.R v5) [(cl aY 233 [(pp mu),(pp j8),Cg,(uu ai.count)]),H7,pN,mT] [3,3,0,0] J J J J aeG J J (Kn (A:=[dx,pN,mT]) (A2:=[dx,pN,mT]) (by simp only[lK,wa,v_,wb,oq,pn]) (by simp only[lK,wa,v_,wb,oq,pn]) (f_.c V6 cZ AH qt)) ?_)
 rintro _ _ ⟨dQ,fe,dF,rfl,rfl⟩;refine fz J (ro T 2 (ke [0,1,5,6,7,8,9] [0,1,1,1,1,1,1,1,1,1] J J (rx T 3 (fz J (rg [] [0,0,0,0,0,0,0,0,0,0] mix (bU bT) (λhg pf=>ha T 8 [0,1,2] sz hg pf J (al T 3 6 sz hg pf J J J (ha T 3 [4,5,6,10] sz hg pf J (ao 7 (kh [] J tf H (gJ.c ·) (λv6 H=>an sz (ao 8 (kR yE.R [8,8] [8,8] J aeH H (yE.c · AH qt) (λv7 H=>?_))))))))))))));rintro _ _ ⟨jk,n14,gf,gQ,rfl,rfl⟩;refine fz J (an (so [0,0,0,0,0,0,0,0,1,1]) (ha T 0 [9] (so [0,0,0,0,0,0,0,0,1,1]) hg pf J (ae (rx T 2 (lq [0,7,8,9,52,53] [0,5,5,6,6,4,4] (λ(⟨LF,aT,bd,cE,ez,du,a17,n17,eZ,jA,n18,fE⟩:Nat×Int×Int×List Int×List cT×Int×Option Addr×Nat×Hp×Option Addr×Nat×Hp)=>(gv.l0 LF goal kj fA v5 v7 aT bd cE ez du=some r/\ak (Fl.int .i32) 21 cE a17 n17 eZ/\ak fV 359 ez jA n18 fE,[(54,(ii du))],[(cl gm 235 [(ii aT),(ii bd),(ll a17 cE n17)]),eZ,(cl j7 357 [(ll jA ez n18)]),fE])) J J (fuel,goal,v2,v3,xI.l,0,a9,n9,H9,a12,n12,dL) [0,5,5,6,6,4,4,1,0,0,0] ⟨H,s9,dS⟩ J J ?_)))));rintro LF ⟨aT,bd,cE,ez,du,a17,n17,eZ,jA,n18,fE⟩ ⟨Z9,fO,fP⟩;rw[gv.l0] at Z9;refine rc T 6 (cd J Z9 (λZ9=>?_) (λZ9=>?_))
 ·refine rc T 2 (mq Z9 [0,7,8,9,52,53,54] [0,0,0,0,0,0,0] (λz23 (⟨dh,lW,eX,cg,mY,n19,lB,a20,n20,pk⟩:Int×Int×List Int×List cT×Option Addr×Nat×Hp×Option Addr×Nat×Hp)=>((dh,lW,eX,cg)=z23/\ak (Fl.int .i32) 21 eX mY n19 lB/\ak fV 359 cg a20 n20 pk,[],[(cl gm 235 [(ii dh),(ii lW),(ll mY eX n19)]),lB,(cl j7 357 [(ll a20 cg n20)]),pk])) J J (λz23 bh _=>?_) ?_)
  ·refine rc T 3 ?_;obtain⟨iF,bh⟩:=aF bh;obtain⟨FJ,o21,G5⟩:=gQ.r.addr iF.1 iF.2;refine ix T J G5 iF (le T 0 (oO gQ 6) G5 iF J J (ro T 7 (bz J (qN (k:=(rd v7 du)) T (Ky.int .i64 u3) (λx:Int=>Value.int .i64 x) J J J J J (pF dF (j:=5) J)) (ro T 7 (mq bh [0,7,8,9,11,12,52,53,54] [0,0,0,0,0,4,4,0,0] (λz28 (⟨ry,mi,kA,mQ,a22,n22,nI⟩:Int×Int×List Int×Bool×Option Addr×Nat×Hp)=>((ry,mi,kA,mQ)=z28/\ak (Fl.int .i32) 21 kA a22 n22 nI,[(70,(bb mQ))],[(cl gm 235 [(ii ry),(ii mi),(ll a22 kA n22)]),nI])) J J (λz28 ox _=>?_) ?_)))))
   ·refine rc T 3 (ab 65 J ox (λox=>?_) (λox=>?_))
    ·refine ro T 3 (kr (uG.R gm) [] [7,7] J U5 ox (uG.c (ai:=(hJ.mk aT bd cE)) · fO) (λrm ox=>?_));rintro _ _ ⟨a23,n23,j5,iA,rfl,rfl⟩;refine fz J (ro T 3 (am (_,_,_,_,_,_,_) [0,0,0,0,0,2,2,0,0,0,0] ⟨oi ox,iA⟩ J J))
    refine ro T 7 (am (_,_,_,_,_,_,_) [0,0,0,0,0,4,4,0,0,0,0] ⟨oi ox,fO⟩ J J)
   rintro _ ⟨ry,mi,kA,mQ,a22,n22,nI⟩ ⟨rfl,jd⟩ bh;refine cb J bh (λbh=>?_) (λbh=>?_)
   ·refine rc T 4 (kr (nh.R j7) [] [5,5] J K2 bh (nh.c (h:=(eW.mk ez)) · fP) (λv30 bh=>?_));rintro _ _ ⟨a24,n24,sF,mL,rfl,rfl⟩;refine fz J (ro T 3 (am (_,_,_,_,_,_,_,_,_,_) [0,0,0,0,0,0,0,0,0,0,0] ⟨oi bh,jd,mL⟩ J J))
   refine rc T 3 (am (_,_,_,_,_,_,_,_,_,_) [0,0,0,0,0,2,2,2,2,0,0] ⟨oi bh,jd,fP⟩ J J)
  rintro _ ⟨dh,lW,eX,cg,mY,n19,lB,a20,n20,pk⟩ ⟨rfl,iz,mJ⟩ Z9;refine rc T 5 (ar (_,_,_,_,_,_,_,_,_,_,_) [0,0,0,0,0,0,0,0,0,0,0] ⟨Z9,iz,mJ⟩ J J)
 refine rc T 9 (kr (ng.R j7) [] [9,9] J K3 Z9 (ng.c (h:=(eW.mk ez)) · fP) (λv31 Z9=>?_));rintro _ _ ⟨a25,n25,iD,jW,rfl,rfl⟩;refine fz J (ro T 10 (lq [0,7,8] [0,0,0,0,0] (λ(⟨yA,jf,gL,iC,jg,fQ,jh,iJ,a28,n28,vS,zy,n29,sG⟩:Nat×Int×Int×List Int×List cT×Int×Int×Bool×Option Addr×Nat×Hp×Option Addr×Nat×Hp)=>(gv.l1 yA goal kj fA jf gL iC jg fQ jh iJ=some r/\ak (Fl.int .i32) 21 iC a28 n28 vS/\ak fV 359 jg zy n29 sG,[(14,(ii fQ)),(15,(ii jh)),(16,(bb iJ))],[(cl gm 235 [(ii jf),(ii gL),(ll a28 iC n28)]),vS,(cl j7 357 [(ll zy jg n29)]),sG])) J J (fuel,aT,bd,cE,v31.2.2.2.l,v31.1,v31.2.1,v31.2.2.1,a17,n17,eZ,a25,n25,iD) [0,0,0,0,0,2,2,2,2] ⟨Z9,fO,jW⟩ J J ?_));rintro yA ⟨jf,gL,iC,jg,fQ,jh,iJ,a28,n28,vS,zy,n29,sG⟩ ⟨fv,kL,sb⟩;rw[gv.l1] at fv;refine rc T 6 (cb J fv (λfv=>?_) (λfv=>?_))
 ·refine rc T 2 (mq fv [0,7,8] [0,0,0,0,0] (λz51 (⟨Jt,Ju,Gd,Eu,CC,n30,sH,a31,n31,Cr⟩:Int×Int×List Int×List cT×Option Addr×Nat×Hp×Option Addr×Nat×Hp)=>((Jt,Ju,Gd,Eu)=z51/\ak (Fl.int .i32) 21 Gd CC n30 sH/\ak fV 359 Eu a31 n31 Cr,[],[(cl gm 235 [(ii Jt),(ii Ju),(ll CC Gd n30)]),sH,(cl j7 357 [(ll a31 Eu n31)]),Cr])) J J (λz51 ua _=>?_) ?_)
  ·refine rc T 8 (lf T 5 J (ro T 1 ?_));obtain⟨Bf,ua⟩:=aF ua;obtain⟨q32,o32,Te⟩:=kL.r.addr Bf.1 Bf.2;refine ix T J Te Bf (le T 0 (oO kL 6) Te Bf J J (ro T 4 (cd J ua (λua=>?_) (λua=>?_))))
   ·refine rc T 4 (am (_,_,_,_,_,_,_,_,_,_) [0,0,0,0,0,0,0,0,0] ⟨oi ua,kL,sb⟩ J J)
   refine rc T 7 (lf T 1 J (ro T 1 (kr iw.R [3,3] [3,3] J aeI ua (iw.c · AH qt) (λtN ua=>?_))));rintro _ _ ⟨a33,n33,JN,xn,rfl,rfl⟩;refine fz J (ro T 5 (lq [0,7,8,14,104,105] [0,0,0,5,5,4] (λ(⟨Io,Ev,Ew,Ck,AV,sD,A',n36,A3,a37,n37,Gh⟩:Nat×Int×Int×List Int×List cT×Int×Option Addr×Nat×Hp×Option Addr×Nat×Hp)=>(gv.l2 Io goal fQ tN Ev Ew Ck AV sD=some z51/\ak (Fl.int .i32) 21 Ck A' n36 A3/\ak fV 359 AV a37 n37 Gh,[(106,(ii sD))],[(cl gm 235 [(ii Ev),(ii Ew),(ll A' Ck n36)]),A3,(cl j7 357 [(ll a37 AV n37)]),Gh])) J J (fuel,jf,gL,iC,jg,0,a28,n28,vS,zy,n29,sG) [0,0,0,5,5,4,0,0,0,0] ⟨ua,kL,sb⟩ J J ?_));rintro Io ⟨Ev,Ew,Ck,AV,sD,A',n36,A3,a37,n37,Gh⟩ ⟨qF,D8,D9⟩;rw[gv.l2] at qF;refine rc T 6 (cd J qF (λqF=>?_) (λqF=>?_))
   ·refine rc T 6 ?_;obtain⟨Kk,qF⟩:=aF qF;obtain⟨q38,Xn,Tf⟩:=xn.r.addr Kk.1 Kk.2;refine ix T J Tf Kk (bz J (gp T (cs:=[(ii (rd tN sD).To),(ii (rd tN sD).kP)]) J J J J J J (iI (k:=qc) (oO xn 5) Tf Kk J)) (nc T J (λb39=>sg T 10 J (ro T 6 (lf T 10 J (ro T 2 (lf T 10 J (ro T 1 (kr (uG.R gm) [] [6,6] J U5 qF (uG.c (ai:=(hJ.mk Ev Ew Ck)) · D8) (λv64 qF=>?_))))))))));rintro _ _ ⟨a40,n40,MW,FP,rfl,rfl⟩;refine fz J (ro T 2 (cb J qF (λqF=>?_) (λqF=>?_)))
    ·refine rc T 4 (lf T 8 J (ro T 2 (lf T 8 J (kr (nh.R j7) [] [6,6] J K2 qF (nh.c (h:=(eW.mk AV)) · D9) (λZe qF=>?_)))));rintro _ _ ⟨a41,n41,Gi,AF,rfl,rfl⟩;refine fz J (ro T 1 (ke [0,7,8,14,104,105,106] [0,0,0,0,0,0,1,1,1,1] J J (rx T 7 (ar (_,_,_,_,_,_,_,_,_,_,_) [0,0,0,0,0,0,0,0,0,0] ⟨qF,FP,AF⟩ J J))))
    refine rc T 8 (ar (_,_,_,_,_,_,_,_,_,_,_) [0,0,0,0,0,0,3,3,0,0] ⟨qF,FP,D9⟩ J J)
   refine rc T 6 (am (_,_,_,_,_,_,_,_,_,_) [0,0,0,0,0,1,1,1,1] ⟨oi qF,D8,D9⟩ J J)
  rintro _ ⟨Jt,Ju,Gd,Eu,CC,n30,sH,a31,n31,Cr⟩ ⟨rfl,qo,AD⟩ fv;refine rc T 2 (kr (ng.R j7) [] [7,7] J K3 fv (ng.c (h:=(eW.mk Eu)) · AD) (λv66 fv=>?_));rintro _ _ ⟨a42,n42,lZ,QP,rfl,rfl⟩;refine fz J (ro T 9 (ar (_,_,_,_,_,_,_,_,_,_,_,_,_) [0,0,0,0,0,0,0,0,0] ⟨fv,qo,QP⟩ J J))
 refine rc T 12 ?_
 cases fv;refine dH [1,1] J lK (p1 T J [3,3,5,1,1,0] ⟨_,_,⟨gm,a28,n28,vS,kL,J,J⟩,J,J⟩ J)
def yU.f (ai:ko) (goal:Int) (kj:dO) (fA:bx):Option ((Option hJ)×ko×dO):=(jq.f fA goal).bind λv1=>if(v1==0)=true then(some (none,ai,kj)) else((oR.f kj fA).bind λv2=>(dA ai.kept (some true) (λx5=>if(x5.goal !=goal)=true then(some true) else((pY.f fA).bind λv6=>some (x5.bS !=v6)))).bind λx3=>if x3=true then((gv.f ai goal v2.2 fA).bind λv7=>dA v7 (none) (λsE=>(tM.f ai.count 1).bind λv8=>some ((some sE),(ko.mk (some sE) v8),v2.2))) else(dA ai.kept (some (none,ai,v2.2)) (λx9=>some ((some x9),ai,v2.2))))
def yU.R (oD:Nat) (PY:Nat) (PZ:Nat) (ab_:Nat) (ag8:Nat) (r:((Option hJ)×ko×dO)):bm:=λu G=> ∃(u0:Value) (H1:Hp) (H2:Hp),ZT r.1 r.2.1 oD PY PZ u0 H1/\nJ r.2.2 ab_ ag8 H2/\u=u0/\G=[H1,H2]
theorem yU.c (H:yU.f ai goal kj fA=some r) (cZ:u9 ai aY mu j8 dx) (AH:nJ kj mu j8 pN) (qt:iU fA j8 mT):
 QR 143 [(pp aY),(ii goal)] [dx,pN,mT] [mT] F (yU.R aY mu j8 mu j8 r):=by
 unfold yU.f at H;refine aH Tryz.func143 J J (λW=>rc T 7 ?_);obtain⟨Cg,H7,s7,lK⟩:=(λx=>x) cZ;refine bY 0 (congrArg some lK) (fz J (rc T 7 (lf T 3 J (ro T 1 (k [1] J wI H (jq.c · qt) (λv1 H=>ro T 4 (cb J H (λH=>?_) (λH=>?_))))))))
 ·refine rc T 7 ?_
  cases H;refine dH [3,3] J lK (p1 T J [3,0,0,0] ⟨_,dx,pN,⟨J,cZ⟩,AH,J,J⟩ J)
 refine rc T 7 (lf T 3 J (kr (oR.R mu j8) [1] [0,0] J aen H (oR.c · AH qt) (λv2 H=>?_)));rintro _ _ ⟨H8,s8,rfl,rfl⟩;refine fz J (ro T 3 (mq H [0,1] [0,0,0,0,0] (λz4 (x3:Bool)=>(x3=z4,[(51,(bb x3))],[])) J J (λz4 Z4 _=>?_) ?_))
 ·rcases q5:ai.kept with _ |x5
  ·replace Z4:=fx q5 Z4;rw[q5] at s7;obtain⟨rfl,rfl⟩:=s7;refine dy mix aA (au T J (au T J (au T J (cB T 1 J J J ?_))))
   iterate 27 refine au T J ?_
   refine cU (rx T 1 (am _ [0,0,0,0,0] (oi Z4) J J))
  replace Z4:=fy q5 Z4;rw[q5] at s7;obtain⟨gm,dG,n11,cM,dr,rfl,Ox⟩:=s7;refine bY 2 (congrArg some Ox) (fz J (dy mix aA (au T J (au T J (au T J (cB T 1 J J J ?_))))))
  iterate 5 refine au T J ?_
  refine cB T 1 J J J (au T J (au T J (cB T 4 J J J ?_)))
  iterate 4 refine au T J ?_
  refine qb 37 J Z4 (λZ4=>?_) (λZ4=>?_)
  ·iterate 14 refine au T J ?_
   refine cU (rx T 1 (dH [4,4] J Ox (am _ [0,0,2,0,0] (oi Z4) J J)))
  refine au T J (au T J (au T J (cB T 1 J J J (au T J (au T J (cB T 4 J J J (au T J (au T J (au T J (cB T 1 J J J ?_))))))))));obtain⟨v6,V7,Z4⟩:=fY Z4;refine xS [3] J J J J J J C7 J (pY.c V7 qt) (au T J (au T J (cU (rx T 1 (dH [4,4] J Ox (am _ [0,0,2,0,0] (oi Z4) J J))))))
 rintro _ x3 rfl H;refine cb J H (λH=>?_) (λH=>?_)
 ·refine rc T 5 ?_;obtain⟨v7,V9,H⟩:=fY H;refine ba (GL (As:=[(cl aY 233 [(pp mu),(pp j8),Cg,(uu ai.count)]),H7,H8,mT]) (gv.R v7) [(cl aY 233 [(pp mu),(pp j8),Cg,(uu ai.count)]),H7,H8,mT] [1,1,1,1] J J J J aeo J J (Kn (A:=[dx,H8,mT]) (A2:=[dx,H8,mT]) (by simp only[lK,wa,v_,wb,oq,pn]) (by simp only[lK,wa,v_,wb,oq,pn]) (gv.c V9 cZ s8 qt)) ?_)
  rintro _ _ ⟨_,_,MZ,rfl,rfl⟩;rcases v7 with _ |sE
  ·replace H:=fx J H
   cases H
  replace H:=fy J H;obtain⟨lE,dQ,n13,fe,dF,rfl,rfl⟩:=MZ;refine ro T 2 (sg T 3 J (ro T 7 (lf T 3 J (k [] J KX H (tM.c ·) (λv8 H=>ro T 2 (sg T 3 J (ro T 7 (lf T 3 J (ro T 4 ?_)))))))))
  cases H;refine gM [1,1] J (gM [1,4] J (p1 T J [4,2,2,0] ⟨_,(bo [(cl aY 233 [(pp mu),(pp j8),(pp lE),(uu v8)]),(bo [(cl lE 235 [(ii sE.goal),(ii sE.bS),(ll dQ sE.aR n13)]),fe])]),H8,⟨J,lE,dQ,n13,fe,dF,J,J⟩,s8,J,J⟩ J))
 refine rc T 3 ?_;rcases xd:ai.kept with _ |x9
 ·replace H:=fx xd H;rw[xd] at s7;obtain⟨rfl,rfl⟩:=s7;refine rc T 4 (lf T 1 J (ro T 4 ?_))
  cases H;refine dH [1,1] J lK (p1 T J [3,1,1,0] ⟨_,dx,H8,⟨J,cZ⟩,s8,J,J⟩ J)
 replace H:=fy xd H;rw[xd] at s7;obtain⟨rE,a17,n17,eZ,fO,rfl,Ov⟩:=s7;refine bY 2 (congrArg some Ov) (fz J (rc T 4 (lf T 1 J (ro T 4 ?_))))
 cases H;refine dH [4,4] J Ov (dH [1,3] J lK (p1 T J [3,1,1,0] ⟨_,dx,H8,⟨xd,rE,a17,n17,eZ,fO,J,(by rw[lK,Ov])⟩,s8,J,J⟩ J))
def I4.f (ai:hJ):Option Int:=some ai.bS
theorem I4.c (H:I4.f ai=some r) (xt:ak (Fl.int .i32) 21 ai.aR xQ yF A5):
 QU 174 [(pp aY)] [(cl aY 235 [(ii ai.goal),(ii ai.bS),(ll xQ ai.aR yF)]),A5] F (ii r):=by
 unfold I4.f at H;refine aH Tryz.func174 J J (λW=>rc T 12 (fj J (rc T 7 (lf T 0 J (ro T 4 ?_)))))
 cases H;exact p0 T J [0,0,0] J
def D5.f (ai:hJ) (cell:Int):Option Int:=(if cell<0 then(some true) else(if cell≥(aa ai.aR:Int) then(some true) else(if(0<=cell/\cell<(aa ai.aR:Int)) then(some ((rd ai.aR cell)==2147483647)) else none))).bind λx1=>if x1=true then(some 1099511627776) else(if(0<=cell/\cell<(aa ai.aR:Int)) then(some (af (rd ai.aR cell))) else none)
theorem D5.c (H:D5.f ai cell=some r) (xt:ak (Fl.int .i32) 21 ai.aR xQ yF A5):
 QU 177 [(pp aY),(ii cell)] [(cl aY 235 [(ii ai.goal),(ii ai.bS),(ll xQ ai.aR yF)]),A5] F (ii r):=by
 unfold D5.f at H;refine aH Tryz.func177 J J (λW=>rc T 6 (mq H [0,1] [2,0,0] (λz2 (x1:Bool)=>(x1=z2,[(29,(bb x1))],[])) J J (λz2 Z1 _=>?_) ?_))
 ·refine rc T 8 (ad 11 J Z1 (λZ1=>?_) (λZ1=>?_))
  ·refine ro T 20 (am _ [2,0,0] (oi Z1) J J)
  refine ro T 4 (lf T 0 J (ro T 4 (ad 20 J Z1 (λZ1=>?_) (λZ1=>?_))))
  ·refine ro T 11 (am _ [2,0,0] (oi Z1) J J)
  refine ro T 3 (lf T 0 J (ro T 1 ?_));obtain⟨c4,Z1⟩:=aF Z1;obtain⟨q3,o3,e3⟩:=xt.r.addr c4.1 c4.2;refine ix T J e3 c4 (le T 0 (oO xt 1) e3 c4 J J (ro T 4 (am _ [2,0,0] (oi Z1) J J)))
 rintro _ x1 rfl H;refine cb J H (λH=>?_) (λH=>?_)
 ·refine rc T 7 ?_
  cases H;exact p0 T J [1,1,0] J
 refine rc T 7 (lf T 1 J (ro T 1 ?_));obtain⟨c6,H⟩:=aF H;obtain⟨q4,o4,e4⟩:=xt.r.addr c6.1 c6.2;refine ix T J e4 c6 (le T 0 (oO xt 2) e4 c6 J J (ro T 5 ?_))
 cases H;exact p0 T J [1,1,0] J
def I5.f (ai:hJ):Option Int:=some ai.goal
theorem I5.c (H:I5.f ai=some r) (xt:ak (Fl.int .i32) 21 ai.aR xQ yF A5):
 QU 179 [(pp aY)] [(cl aY 235 [(ii ai.goal),(ii ai.bS),(ll xQ ai.aR yF)]),A5] F (ii r):=by
 unfold I5.f at H;refine aH Tryz.func179 J J (λW=>rc T 12 (fj J (rc T 7 (lf T 0 J (ro T 4 ?_)))))
 cases H;exact p0 T J [0,0,0] J
end
noncomputable section
def BC.f (g:bx) (bI:Int):Option (List a_):=(iY.f g).bind λv1=>some []
def BC.R (r:(List a_)):bm:=λu G=> ∃a0 n0 H0,ak cW 285 r a0 n0 H0/\u=(ll a0 r n0)/\G=[H0]
theorem BC.c (H:BC.f g bI=some r) (fW:iU g fD gC):
 QR 142 [(pp fD),(.pointer none),(ii bI)] [gC] [gC] F (BC.R r):=by
 unfold BC.f at H;refine aH Tryz.func142 J J (λW=>rc T 8 (k [0] J vk H (iY.c · fW) (λv1 H=>ro T 21 (oA J (rc T 7 ?_)))))
 cases H;refine bC (p1 T J [2,0,0] ⟨none,0,[],ak.nil,J,J⟩ J)
def iP.l1:Nat->hJ->(Int×Int)->(List Int)->Int->(List eJ)->List a_->Int->Option (List a_)
 |0,_,_,_,_,_,_,_=>none
 |Il+1,aj,v1,v4,x8,v12,cE,ez=>if ez<(aa v12:Int) then(if(0<=ez/\ez<(aa v12:Int)) then((D5.f aj ((rd v12 ez).To)).bind λfq=>if(fq !=1099511627776)=true then((sx.f v1.1 v1.2 (rd v4 x8)).bind λpg=>(ru.f v1.1 v1.2 (rd v4 x8) ((rd v12 ez).To)).bind λv20=>if(aa cE+1<=1099511627776) then(iP.l1 Il aj v1 v4 x8 v12 (cE++[(a_.mk pg v20 (af ((rd v12 ez).kP+fq)))]) (af (ez+1))) else none) else(iP.l1 Il aj v1 v4 x8 v12 cE (af (ez+1)))) else none) else(some cE)
def iP.l0:Nat->bx->hJ->Int->(Int×Int)->(List Int)->List a_->Int->Option (List a_)
 |0,_,_,_,_,_,_,_=>none
 |k9+1,g,aj,bI,v1,v4,x7,x8=>if x8<(aa v4:Int) then((if(0<=x8/\x8<(aa v4:Int)) then((oB.f g (rd v4 x8)).bind λv12=>iP.l1 fuel aj v1 v4 x8 v12 x7 0) else none).bind λaN=>iP.l0 k9 g aj bI v1 v4 aN (af (x8+1))) else((I5.f aj).bind λv21=>((gJ.f v1.1 v1.2 v21).bind λv24=>if(v24==bI)=true then((jq.f g v21).bind λv25=>some (v25 !=255)) else(some false)).bind λcg=>if cg=true then((sx.f v1.1 v1.2 v21).bind λv26=>if(aa x7+1<=1099511627776) then((oc.f (x7++[(a_.mk v26 4 0)])).bind λRf=>some Rf) else none) else((oc.f x7).bind λv28=>some v28))
def iP.f (g:bx) (aj:hJ) (bI:Int):Option (List a_):=(iY.f g).bind λv1=>(I4.f aj).bind λv2=>(pY.f g).bind λv3=>if(v2 !=v3)=true then(some []) else((kF.f g bI).bind λv4=>iP.l0 fuel g aj bI v1 v4 [] 0)
def iP.R (r:(List a_)):bm:=λu G=> ∃a0 n0 H0,ak cW 285 r a0 n0 H0/\u=(ll a0 r n0)/\G=[H0]
theorem iP.c (H:iP.f g aj bI=some r) (fW:iU g fD gC) (QV:ak (Fl.int .i32) 21 aj.aR RN W7 RC):
 QR 142 [(pp fD),(pp vc),(ii bI)] [gC,(cl vc 235 [(ii aj.goal),(ii aj.bS),(ll RN aj.aR W7)]),RC] [gC,(cl vc 235 [(ii aj.goal),(ii aj.bS),(ll RN aj.aR W7)]),RC] F (iP.R r):=by
 unfold iP.f at H;refine aH Tryz.func142 J J (λW=>rc T 8 (k [0] J vk H (iY.c · fW) (λv1 H=>ro T 14 (k [1,1] J aei H (I4.c · QV) (λv2 H=>ro T 1 (k [0] J C7 H (pY.c · fW) (λv3 H=>ro T 4 (cb J H (λH=>?_) (λH=>?_)))))))))
 ·refine rc T 7 ?_
  cases H;refine bC (p1 T J [4,0,0,0,0] ⟨none,0,[],ak.nil,J,J⟩ J)
 refine rc T 12 (kr kF.R [0] [0] J K0 H (kF.c · fW) (λv4 H=>?_));rintro _ _ ⟨a5,n5,H5,s5,rfl,rfl⟩;refine fz J (ro T 5 (bC (lq [0,1,2,7,8,32,33] [2,3,0,0,0] (λ(⟨k9,x7,x8,a7,n7,H7⟩:Nat×List a_×Int×Option Addr×Nat×Hp)=>(iP.l0 k9 g aj bI v1 v4 x7 x8=some r/\ak cW 285 x7 a7 n7 H7,[(9,(ll a7 x7 n7)),(34,(ii x8))],[H7])) J J (fuel,[],0,none,0,[]) [2,3,0,0,0,0] ⟨H,ak.nil⟩ J J ?_)));rintro k9 ⟨x7,x8,a7,n7,H7⟩ ⟨Z6,s7⟩;rw[iP.l0] at Z6;refine rc T 6 (cd J Z6 (λZ6=>?_) (λZ6=>?_))
 ·refine rc T 2 (mq Z6 [0,1,2,7,8,32,33,34] [0,0,0,0,0] (λmj (⟨aN,a8,n8,H8⟩:List a_×Option Addr×Nat×Hp)=>(aN=mj/\ak cW 285 aN a8 n8 H8,[(9,(ll a8 aN n8))],[H8])) J J (λmj Z8 _=>?_) ?_)
  ·refine rc T 3 ?_;obtain⟨c9,Z8⟩:=aF Z8;obtain⟨q9,o9,e9⟩:=s5.r.addr c9.1 c9.2;refine ix T J e9 c9 (le T 0 (oO s5 4) e9 c9 J J (ro T 7 (kr oB.R [1] [1] J aej Z8 (oB.c · fW) (λv12 Z8=>?_))));rintro _ _ ⟨cK,n10,cu,bX,rfl,rfl⟩;refine fz J (ro T 5 (lq [0,1,2,7,8,11,32,33,34,40,41] [0,5,0,0,0,1] (λ(⟨Il,cE,ez,a12,n12,dL⟩:Nat×List a_×Int×Option Addr×Nat×Hp)=>(iP.l1 Il aj v1 v4 x8 v12 cE ez=some mj/\ak cW 285 cE a12 n12 dL,[(9,(ll a12 cE n12)),(42,(ii ez))],[dL])) J J (fuel,x7,0,a7,n7,H7) [0,5,0,0,0,1,0] ⟨Z8,s7⟩ J J ?_));rintro Il ⟨cE,ez,a12,n12,dL⟩ ⟨bh,dS⟩;rw[iP.l1] at bh;refine rc T 6 (cd J bh (λbh=>?_) (λbh=>?_))
   ·refine rc T 6 ?_;obtain⟨jC,bh⟩:=aF bh;obtain⟨XJ,Xm,yb⟩:=bX.r.addr jC.1 jC.2;refine ix T J yb jC (bz J (gp T (cs:=[(ii (rd v12 ez).To),(ii (rd v12 ez).kP)]) J J J J J J (iI (k:=qc) (oO bX 5) yb jC J)) (nc T J (λKg=>sg T 7 J (ro T 6 (lf T 7 J (k [2,2] J aek bh (D5.c · QV) (λfq bh=>ro T 9 (cb J bh (λbh=>?_) (λbh=>?_)))))))))
    ·refine ks [0,1,2,7,8,9,11,13,14,32,33,34,40,41,42] J (fz J (rg [17] [0,0,0,0,0,0,0,0] mix (bU bT) (λhg pf=>ha T 11 [0,1,2,3,5,6,7,8] sz hg pf J (al T 9 7 sz hg pf J J J (ha T 9 [11] sz hg pf J (al T 12 7 sz hg pf J J J (ha T 6 [13,14] sz hg pf J (ao 4 (kh [] J Hv bh (sx.c ·) (λpg bh=>an sz (ao 10 (kh [] J ael bh (ru.c ·) (λv20 bh=>an sz (ha T 3 [15] sz hg pf J (ao 16 (dp (k:=cW) T [(a_.mk pg v20 (af ((rd v12 ez).kP+fq)))] J J J J J J J J J (λkC dT eG=>an (so [0,0,0,0,0,0,0,0]) (ao 17 ?_))))))))))))))))));obtain⟨l_,bh⟩:=aF bh;refine eP (k:=cW) (xs:=cE) T (g:=6) J J J J J J J J J J dS (oO eG 8) l_ J (λkD n16 gB gw=>an sl (hb T 18 sl hg pf J (ae (rx T 7 (ar (_,_,_,_,_) [0,0,0,0,0,0,0] ⟨bh,gw⟩ J J)))))
    refine rc T 8 (ar (_,_,_,_,_) [0,0,0,0,0,0,0] ⟨bh,dS⟩ J J)
   refine rc T 6 (am (_,_,_,_) [0,0,0,0,0,1] ⟨oi bh,dS⟩ J J)
  rintro _ ⟨aN,a8,n8,H8⟩ ⟨rfl,s8⟩ Z6;refine rc T 5 (ar (_,_,_,_,_) [0,0,0,0,0,0] ⟨Z6,s8⟩ J J)
 refine rc T 9 (k [2,2] J aem Z6 (I5.c · QV) (λv21 Z6=>ro T 3 (mq Z6 [7,8,9,15] [0,4,0,0,0] (λz23 (cg:Bool)=>(cg=z23,[(85,(bb cg))],[])) J J (λz23 zx _=>?_) ?_)))
 ·refine rc T 4 (k [] J tf zx (gJ.c ·) (λv24 zx=>ro T 3 (ab 80 J zx (λzx=>?_) (λzx=>?_))))
  ·refine ro T 2 (k [1] J wI zx (jq.c · fW) (λv25 zx=>ro T 4 (am _ [0,4,0,0,0] (oi zx) J J)))
  refine ro T 7 (am _ [0,4,0,0,0] (oi zx) J J)
 rintro _ cg rfl Z6;refine cb J Z6 (λZ6=>?_) (λZ6=>?_)
 ·refine rc T 5 (k [] J Hv Z6 (sx.c ·) (λv26 Z6=>ro T 1 (ba (dp (k:=cW) T [(a_.mk v26 4 0)] J J J J J J J J J (λa17 eZ fO=>?_)))));obtain⟨c26,Z6⟩:=aF Z6;refine ba (eP (k:=cW) (xs:=x7) T (g:=1) J J J J J J J J J J s7 (oO fO 5) c26 J (λjA n18 fE fP=>ro T 6 (kr oc.R [] [] J Hz Z6 (oc.c (l:=(x7++[(a_.mk v26 4 0)])) · (oO fP 1) fP.ck) (λRf Z6=>?_))));rintro _ _ ⟨mY,n19,lB,iz,rfl,rfl⟩;refine fz J (ro T 4 ?_)
  cases Z6;exact p1 T J [6,2,2,2,0] ⟨mY,n19,lB,iz,J,J⟩ J
 refine rc T 5 (kr oc.R [] [] J Hz Z6 (oc.c · (oO s7 1) s7.ck) (λv28 Z6=>?_));rintro _ _ ⟨a20,n20,pk,mJ,rfl,rfl⟩;refine fz J (ro T 4 ?_)
 cases Z6;exact p1 T J [5,2,2,2,0] ⟨a20,n20,pk,mJ,J,J⟩ J
end
noncomputable section
def Al.f (l:gu):Option gu:=some (gu.mk l.k [] ([]:(List ((Int×Int)×Int))) (-1) (-1))
def Al.R (gW:Nat) (r:gu):bm:=λu G=> ∃(a0 n0 H0:_) (a1:Nat) (H1:Hp),ak lh 278 r.aw a0 n0 H0/\de (Ky.pair T .i64 J J J mg u3) (λx:Int=>Value.int .i64 x) r.fB a1 H1/\u=(.tuple #[])/\G=[(cl gW 238 [(ii r.k),(ll a0 r.aw n0),(.map (some a1)),(ii r.cO),(ii r.dz)]),H0,H1]
theorem Al.c (H:Al.f l=some r) (uK:ak lh 278 l.aw mZ np zt):
 QR 145 [(pp gW)] [(cl gW 238 [(ii l.k),(ll mZ l.aw np),(.map none),(ii l.cO),(ii l.dz)]),zt] [] F (Al.R gW r):=by
 unfold Al.f at H;refine aH Tryz.func145 J J (λW=>rc T 6 (oA J (rc T 5 (ba (wo T (Ky.pair T .i64 J J J mg u3) (λx:Int=>Value.int .i64 x) J J J trivial (λa3 H3 s3=>ro T 2 (sg T 0 J (ro T 2 (sg T 0 J (ro T 2 (sg T 0 J (ro T 2 (sg T 0 J (ro T 1 (jB ?_)))))))))))))))
 cases H;refine bC (p1 T J [0,3,2,1] ⟨none,0,[],a3,H3,ak.nil,s3,J,J⟩ J)
def yD.f (ai:Int):Option (Option gu):=if ai<1 then(some none) else((Al.f (gu.mk ai ([]:List bw) [] 0 0)).bind λv1=>some (some v1))
def yD.R (r:(Option gu)):bm:=λu G=> ∃(u0:Value) (G0:List Hp),ZL r u0 G0/\u=u0/\G=G0
theorem yD.c (H:yD.f ai=some r):
 QR 105 [(ii ai)] [] [] F (yD.R r):=by
 unfold yD.f at H;refine aH Tryz.func105 J J (λW=>rc T 12 (cd J H (λH=>?_) (λH=>?_)))
 ·refine rc T 7 ?_
  cases H;exact p1 T J [0] ⟨_,_,⟨J,J⟩,J,J⟩ J
 refine rc T 6 (nc T J (λb1=>ro T 6 (bC (kr (Al.R b1) [] [1,1] J UG H (Al.c (l:=(gu.mk ai ([]:List bw) [] 0 0)) · (ak.nil (k:=lh) (E:=278))) (λv1 H=>?_)))));rintro _ _ ⟨a3,n3,H3,a4,H4,s3,s4,rfl,rfl⟩;refine fz J (ro T 9 ?_)
 cases H;exact p1 T J [1,1,1,0] ⟨_,_,⟨b1,a3,n3,H3,a4,H4,s3,s4,J,J⟩,J,J⟩ J
def Am.f (l:gu):Option gu:=some (gu.mk l.k [] ([]:(List ((Int×Int)×Int))) (-1) (-1))
def Am.R (gW:Nat) (r:gu):bm:=λu G=> ∃(a0 n0 H0:_) (a1:Nat) (H1:Hp),ak lh 278 r.aw a0 n0 H0/\de (Ky.pair T .i64 J J J mg u3) (λx:Int=>Value.int .i64 x) r.fB a1 H1/\u=(.tuple #[])/\G=[(cl gW 238 [(ii r.k),(ll a0 r.aw n0),(.map (some a1)),(ii r.cO),(ii r.dz)]),H0,H1]
theorem Am.c (H:Am.f l=some r) (uK:ak lh 278 l.aw mZ np zt) (xq:de (Ky.pair T .i64 J J J mg u3) (λx:Int=>Value.int .i64 x) l.fB pQ vW):
 QR 145 [(pp gW)] [(cl gW 238 [(ii l.k),(ll mZ l.aw np),(.map (some pQ)),(ii l.cO),(ii l.dz)]),zt,vW] [] F (Am.R gW r):=by
 unfold Am.f at H;refine aH Tryz.func145 J J (λW=>rc T 6 (oA J (rc T 5 (ba (wo T (Ky.pair T .i64 J J J mg u3) (λx:Int=>Value.int .i64 x) J J J trivial (λa4 H4 s4=>ro T 2 (sg T 0 J (ro T 2 (sg T 0 J (ro T 2 (sg T 0 J (ro T 2 (sg T 0 J (ro T 1 (jB ?_)))))))))))))))
 cases H;refine bC (p1 T J [0,4,3,2] ⟨none,0,[],a4,H4,ak.nil,s4,J,J⟩ J)
def ur.f (l:gu) (aj:Int):Option gu:=if(0<=aj/\aj<(aa l.aw:Int)) then((if((rd l.aw aj).cX==(-1))=true then(some (l.aw,(rd l.aw aj).aZ)) else(if(0<=(rd l.aw aj).cX/\(rd l.aw aj).cX<(aa l.aw:Int)) then(some ((aG l.aw (ax ((rd l.aw aj).cX)) (bw.mk ((rd l.aw ((rd l.aw aj).cX)).key) ((rd l.aw ((rd l.aw aj).cX)).cX) ((rd l.aw aj).aZ))),l.cO)) else none)).bind λ(x1,x2)=>if((rd l.aw aj).aZ==(-1))=true then(some (gu.mk l.k x1 l.fB x2 ((rd l.aw aj).cX))) else(if(0<=(rd l.aw aj).aZ/\(rd l.aw aj).aZ<(aa x1:Int)) then(some (gu.mk l.k (aG x1 (ax ((rd l.aw aj).aZ)) (bw.mk ((rd x1 ((rd l.aw aj).aZ)).key) ((rd l.aw aj).cX) ((rd x1 ((rd l.aw aj).aZ)).aZ))) l.fB x2 l.dz)) else none)) else none
def ur.R (gW:Nat) (r:gu):bm:=λu G=> ∃(a0 n0 H0:_) (a1:Nat) (H1:Hp),ak lh 278 r.aw a0 n0 H0/\de (Ky.pair T .i64 J J J mg u3) (λx:Int=>Value.int .i64 x) r.fB a1 H1/\u=(.tuple #[])/\G=[(cl gW 238 [(ii r.k),(ll a0 r.aw n0),(.map (some a1)),(ii r.cO),(ii r.dz)]),H0,H1]
theorem ur.c (H:ur.f l aj=some r) (uK:ak lh 278 l.aw mZ np zt) (xq:de (Ky.pair T .i64 J J J mg u3) (λx:Int=>Value.int .i64 x) l.fB pQ vW):
 QR 224 [(pp gW),(ii aj)] [(cl gW 238 [(ii l.k),(ll mZ l.aw np),(.map (some pQ)),(ii l.cO),(ii l.dz)]),zt,vW] [] F (ur.R gW r):=by
 unfold ur.f at H;refine aH Tryz.func224 J J (λW=>rc T 5 (lf T 0 J (ro T 1 ?_)));obtain⟨c1,H⟩:=aF H;obtain⟨q4,o4,e4⟩:=uK.r.addr c1.1 c1.2;refine ix T J e4 c1 (bz J (gp T (cs:=[(ii (rd l.aw aj).key.1),(ii (rd l.aw aj).key.2),(ii (rd l.aw aj).cX),(ii (rd l.aw aj).aZ)]) J J J J J J (iI (k:=lh) (oO uK 1) e4 c1 J)) (nc T J (λb5=>sg T 4 J (ro T 2 (mq H [0,4] [3,2,2] (λz3 (⟨x1,x2,a6,n6,H6⟩:List bw×Int×Option Addr×Nat×Hp)=>((x1,x2)=z3/\ak lh 278 x1 a6 n6 H6,[],[(cl gW 238 [(ii l.k),(ll a6 x1 n6),(.map (some pQ)),(ii x2),(ii l.dz)]),H6])) J J (λz3 Z2 _=>?_) ?_)))))
 ·refine rc T 3 (lf T 4 J (ro T 3 (cb J Z2 (λZ2=>?_) (λZ2=>?_))))
  ·refine rc T 3 (lf T 4 J (ro T 2 (sg T 0 J (ro T 2 (am (_,_,_,_,_) [3,2,2,0,0] ⟨oi Z2,uK⟩ J J)))))
  refine ks [0,4] J (fz J (rz [10] mix (bU bT) (λhg pf=>ha T 8 [0,1,2] sz hg pf J (al T 3 0 sz hg pf J J J (ha T 6 [4] sz hg pf J (al T 5 4 sz hg pf J J J (ha T 4 [6] sz hg pf J (al T 7 4 sz hg pf J J J ?_))))))));obtain⟨c4,Z2⟩:=aF Z2;refine av 8 sz hg pf J (cV T J J J J J e4 c4.1 c4.2) (ha T 1 [9] sz hg pf J (ao 10 (lD (k:=lh) T 1 3 (bw.mk ((rd l.aw ((rd l.aw aj).cX)).key) ((rd l.aw ((rd l.aw aj).cX)).cX) ((rd l.aw aj).aZ)) J J J J J J uK e4 c4 J J J (λH7 s7=>kg [0,4,20,21,22,24,25,26,27,28,29] [1,1,1,1] [1,1,1,1,0] [(23,(ll mZ (aG l.aw (ax ((rd l.aw aj).cX)) (bw.mk ((rd l.aw ((rd l.aw aj).cX)).key) ((rd l.aw ((rd l.aw aj).cX)).cX) ((rd l.aw aj).aZ))) np))] [(cl gW 238 [(ii l.k),(ll mZ (aG l.aw (ax ((rd l.aw aj).cX)) (bw.mk ((rd l.aw ((rd l.aw aj).cX)).key) ((rd l.aw ((rd l.aw aj).cX)).cX) ((rd l.aw aj).aZ))) np),(.map (some pQ)),(ii l.cO),(ii l.dz)])] J J ⟨dP,trivial⟩ dP (an sl (ae (rx T 1 (am (_,_,_,_,_) [2,1,1,1,0] ⟨oi Z2,s7⟩ J J))))))))
 rintro _ ⟨x1,x2,a6,n6,H6⟩ ⟨rfl,s6⟩ H;refine rc T 3 (lf T 2 J (ro T 3 (cb J H (λH=>?_) (λH=>?_))))
 ·refine rc T 3 (lf T 2 J (ro T 2 (sg T 3 J (ro T 1 (jB ?_)))))
  cases H;exact p1 T J [3,3,1,0] ⟨a6,n6,H6,pQ,vW,s6,xq,J,J⟩ J
 refine fz J (rz [10] mix (bU bT) (λhg pf=>ha T 8 [0,1,2] sz hg pf J (al T 3 3 sz hg pf J J J (ha T 6 [4] sz hg pf J (al T 5 2 sz hg pf J J J (ha T 4 [6] sz hg pf J (al T 7 2 sz hg pf J J J ?_)))))));obtain⟨c6,H⟩:=aF H;obtain⟨q8,o8,e8⟩:=s6.r.addr c6.1 c6.2;refine av 8 sz hg pf J (cV T J J J J J e8 c6.1 c6.2) (ha T 1 [9] sz hg pf J (ao 10 (lD (k:=lh) T 4 2 (bw.mk ((rd x1 ((rd l.aw aj).aZ)).key) ((rd l.aw aj).cX) ((rd x1 ((rd l.aw aj).aZ)).aZ)) J J J J J J s6 e8 c6 J J J (λH9 s9=>kg [0,4,32,38,39,40,42,43,44,45,46,47] [0,0,0,1] [0,0,0,1,0] [(41,(ll a6 (aG x1 (ax ((rd l.aw aj).aZ)) (bw.mk ((rd x1 ((rd l.aw aj).aZ)).key) ((rd l.aw aj).cX) ((rd x1 ((rd l.aw aj).aZ)).aZ))) n6))] [(cl gW 238 [(ii l.k),(ll a6 (aG x1 (ax ((rd l.aw aj).aZ)) (bw.mk ((rd x1 ((rd l.aw aj).aZ)).key) ((rd l.aw aj).cX) ((rd x1 ((rd l.aw aj).aZ)).aZ))) n6),(.map (some pQ)),(ii x2),(ii l.dz)])] J J ⟨dP,trivial⟩ dP (an sl (ae (jB ?_)))))))
 cases H;exact p1 T J [4,3,1,0] ⟨a6,n6,H9,pQ,vW,s9,xq,J,J⟩ J
def yC.f (l:gu) (aj:Int):Option gu:=if(0<=aj/\aj<(aa l.aw:Int)) then(if(0<=aj/\aj<(aa (aG l.aw (ax aj) (bw.mk ((rd l.aw aj).key) (-1) ((rd l.aw aj).aZ))):Int)) then(if(l.cO==(-1))=true then(some (gu.mk l.k (aG (aG l.aw (ax aj) (bw.mk ((rd l.aw aj).key) (-1) ((rd l.aw aj).aZ))) (ax aj) (bw.mk ((rd (aG l.aw (ax aj) (bw.mk ((rd l.aw aj).key) (-1) ((rd l.aw aj).aZ))) aj).key) ((rd (aG l.aw (ax aj) (bw.mk ((rd l.aw aj).key) (-1) ((rd l.aw aj).aZ))) aj).cX) l.cO)) l.fB aj aj)) else(if(0<=l.cO/\l.cO<(aa (aG (aG l.aw (ax aj) (bw.mk ((rd l.aw aj).key) (-1) ((rd l.aw aj).aZ))) (ax aj) (bw.mk ((rd (aG l.aw (ax aj) (bw.mk ((rd l.aw aj).key) (-1) ((rd l.aw aj).aZ))) aj).key) ((rd (aG l.aw (ax aj) (bw.mk ((rd l.aw aj).key) (-1) ((rd l.aw aj).aZ))) aj).cX) l.cO)):Int)) then(some (gu.mk l.k (aG (aG (aG l.aw (ax aj) (bw.mk ((rd l.aw aj).key) (-1) ((rd l.aw aj).aZ))) (ax aj) (bw.mk ((rd (aG l.aw (ax aj) (bw.mk ((rd l.aw aj).key) (-1) ((rd l.aw aj).aZ))) aj).key) ((rd (aG l.aw (ax aj) (bw.mk ((rd l.aw aj).key) (-1) ((rd l.aw aj).aZ))) aj).cX) l.cO)) (ax l.cO) (bw.mk ((rd (aG (aG l.aw (ax aj) (bw.mk ((rd l.aw aj).key) (-1) ((rd l.aw aj).aZ))) (ax aj) (bw.mk ((rd (aG l.aw (ax aj) (bw.mk ((rd l.aw aj).key) (-1) ((rd l.aw aj).aZ))) aj).key) ((rd (aG l.aw (ax aj) (bw.mk ((rd l.aw aj).key) (-1) ((rd l.aw aj).aZ))) aj).cX) l.cO)) l.cO).key) aj ((rd (aG (aG l.aw (ax aj) (bw.mk ((rd l.aw aj).key) (-1) ((rd l.aw aj).aZ))) (ax aj) (bw.mk ((rd (aG l.aw (ax aj) (bw.mk ((rd l.aw aj).key) (-1) ((rd l.aw aj).aZ))) aj).key) ((rd (aG l.aw (ax aj) (bw.mk ((rd l.aw aj).key) (-1) ((rd l.aw aj).aZ))) aj).cX) l.cO)) l.cO).aZ))) l.fB aj l.dz)) else none)) else none) else none
def yC.R (gW:Nat) (r:gu):bm:=λu G=> ∃(a0 n0 H0:_) (a1:Nat) (H1:Hp),ak lh 278 r.aw a0 n0 H0/\de (Ky.pair T .i64 J J J mg u3) (λx:Int=>Value.int .i64 x) r.fB a1 H1/\u=(.tuple #[])/\G=[(cl gW 238 [(ii r.k),(ll a0 r.aw n0),(.map (some a1)),(ii r.cO),(ii r.dz)]),H0,H1]
theorem yC.c (H:yC.f l aj=some r) (uK:ak lh 278 l.aw mZ np zt) (xq:de (Ky.pair T .i64 J J J mg u3) (λx:Int=>Value.int .i64 x) l.fB pQ vW):
 QR 225 [(pp gW),(ii aj)] [(cl gW 238 [(ii l.k),(ll mZ l.aw np),(.map (some pQ)),(ii l.cO),(ii l.dz)]),zt,vW] [] F (yC.R gW r):=by
 unfold yC.f at H;refine aH Tryz.func225 J J (λW=>rc T 1 (fz J (rz [16,19] mix (bU bT) (λhg pf=>ha T 17 [0,1,2] sz hg pf J (al T 3 0 sz hg pf J J J (ha T 12 [4,5,6,7] sz hg pf J (al T 8 0 sz hg pf J J J (ha T 7 [9,10,11,12] sz hg pf J (al T 13 0 sz hg pf J J J ?_)))))))));obtain⟨c1,H⟩:=aF H;obtain⟨q4,o4,e4⟩:=uK.r.addr c1.1 c1.2;refine av 14 sz hg pf J (cV T J J J J J e4 c1.1 c1.2) (ha T 4 [15] sz hg pf J (ao 16 (lD (k:=lh) T 1 2 (bw.mk ((rd l.aw aj).key) (-1) ((rd l.aw aj).aZ)) J J J J J J uK e4 c1 J J J (λH5 s5=>kg [0,1,4,5,6,8,9,10,11,13,14,15,16,17,18,19] [1,1,1] [1,1,1,0] [(7,(ll mZ (aG l.aw (ax aj) (bw.mk ((rd l.aw aj).key) (-1) ((rd l.aw aj).aZ))) np)),(12,(ll mZ (aG l.aw (ax aj) (bw.mk ((rd l.aw aj).key) (-1) ((rd l.aw aj).aZ))) np))] [(cl gW 238 [(ii l.k),(ll mZ (aG l.aw (ax aj) (bw.mk ((rd l.aw aj).key) (-1) ((rd l.aw aj).aZ))) np),(.map (some pQ)),(ii l.cO),(ii l.dz)])] J J ⟨dP,dP,trivial⟩ dP (an sl (ao 17 ?_))))));obtain⟨c2,H⟩:=aF H;refine l8 J (cV T J J J J J e4 c2.1 c2.2) (an sl (hb T 18 sl hg pf J (ao 19 (lD (k:=lh) T 0 3 (bw.mk ((rd (aG l.aw (ax aj) (bw.mk ((rd l.aw aj).key) (-1) ((rd l.aw aj).aZ))) aj).key) ((rd (aG l.aw (ax aj) (bw.mk ((rd l.aw aj).key) (-1) ((rd l.aw aj).aZ))) aj).cX) l.cO) J J J J J J s5 e4 c2 J J J (λH6 s6=>kg [0,1,4,5,6,8,9,10,11,13,14,15,16,17,18,19,20,21] [0,0,0] [0,0,0,0] [(7,(ll mZ (aG (aG l.aw (ax aj) (bw.mk ((rd l.aw aj).key) (-1) ((rd l.aw aj).aZ))) (ax aj) (bw.mk ((rd (aG l.aw (ax aj) (bw.mk ((rd l.aw aj).key) (-1) ((rd l.aw aj).aZ))) aj).key) ((rd (aG l.aw (ax aj) (bw.mk ((rd l.aw aj).key) (-1) ((rd l.aw aj).aZ))) aj).cX) l.cO)) np)),(12,(ll mZ (aG (aG l.aw (ax aj) (bw.mk ((rd l.aw aj).key) (-1) ((rd l.aw aj).aZ))) (ax aj) (bw.mk ((rd (aG l.aw (ax aj) (bw.mk ((rd l.aw aj).key) (-1) ((rd l.aw aj).aZ))) aj).key) ((rd (aG l.aw (ax aj) (bw.mk ((rd l.aw aj).key) (-1) ((rd l.aw aj).aZ))) aj).cX) l.cO)) np))] [(cl gW 238 [(ii l.k),(ll mZ (aG (aG l.aw (ax aj) (bw.mk ((rd l.aw aj).key) (-1) ((rd l.aw aj).aZ))) (ax aj) (bw.mk ((rd (aG l.aw (ax aj) (bw.mk ((rd l.aw aj).key) (-1) ((rd l.aw aj).aZ))) aj).key) ((rd (aG l.aw (ax aj) (bw.mk ((rd l.aw aj).key) (-1) ((rd l.aw aj).aZ))) aj).cX) l.cO)) np),(.map (some pQ)),(ii l.cO),(ii l.dz)])] J J ⟨dP,dP,trivial⟩ dP (an sl (ae (rx T 7 (lf T 3 J (ro T 3 (cb J H (λH=>?_) (λH=>?_))))))))))))
 ·refine rc T 5 (sg T 3 J (ro T 7 (sg T 3 J (ro T 1 (ks [] J (jB ?_))))))
  cases H;exact p1 T J [3,0,0,0] ⟨mZ,np,H6,pQ,vW,s6,xq,J,J⟩ J
 refine ks [0,1] J (fz J (rz [11] mix (bU bT) (λhg pf=>ha T 9 [0,1,2] sz hg pf J (al T 3 3 sz hg pf J J J (ha T 5 [4,5,6] sz hg pf J (al T 7 3 sz hg pf J J J (ha T 3 [8] sz hg pf J ?_)))))));obtain⟨c4,H⟩:=aF H;refine av 9 sz hg pf J (cV T J J J J J e4 c4.1 c4.2) (ha T 1 [10] sz hg pf J (ao 11 (lD (k:=lh) T 0 2 (bw.mk ((rd (aG (aG l.aw (ax aj) (bw.mk ((rd l.aw aj).key) (-1) ((rd l.aw aj).aZ))) (ax aj) (bw.mk ((rd (aG l.aw (ax aj) (bw.mk ((rd l.aw aj).key) (-1) ((rd l.aw aj).aZ))) aj).key) ((rd (aG l.aw (ax aj) (bw.mk ((rd l.aw aj).key) (-1) ((rd l.aw aj).aZ))) aj).cX) l.cO)) l.cO).key) aj ((rd (aG (aG l.aw (ax aj) (bw.mk ((rd l.aw aj).key) (-1) ((rd l.aw aj).aZ))) (ax aj) (bw.mk ((rd (aG l.aw (ax aj) (bw.mk ((rd l.aw aj).key) (-1) ((rd l.aw aj).aZ))) aj).key) ((rd (aG l.aw (ax aj) (bw.mk ((rd l.aw aj).key) (-1) ((rd l.aw aj).aZ))) aj).cX) l.cO)) l.cO).aZ)) J J J J J J s6 e4 c4 J J J (λH7 s7=>kg [0,1,31,32,33,35,36,37,38,39,40,41] [0,0,0] [0,0,0,0] [(34,(ll mZ (aG (aG (aG l.aw (ax aj) (bw.mk ((rd l.aw aj).key) (-1) ((rd l.aw aj).aZ))) (ax aj) (bw.mk ((rd (aG l.aw (ax aj) (bw.mk ((rd l.aw aj).key) (-1) ((rd l.aw aj).aZ))) aj).key) ((rd (aG l.aw (ax aj) (bw.mk ((rd l.aw aj).key) (-1) ((rd l.aw aj).aZ))) aj).cX) l.cO)) (ax l.cO) (bw.mk ((rd (aG (aG l.aw (ax aj) (bw.mk ((rd l.aw aj).key) (-1) ((rd l.aw aj).aZ))) (ax aj) (bw.mk ((rd (aG l.aw (ax aj) (bw.mk ((rd l.aw aj).key) (-1) ((rd l.aw aj).aZ))) aj).key) ((rd (aG l.aw (ax aj) (bw.mk ((rd l.aw aj).key) (-1) ((rd l.aw aj).aZ))) aj).cX) l.cO)) l.cO).key) aj ((rd (aG (aG l.aw (ax aj) (bw.mk ((rd l.aw aj).key) (-1) ((rd l.aw aj).aZ))) (ax aj) (bw.mk ((rd (aG l.aw (ax aj) (bw.mk ((rd l.aw aj).key) (-1) ((rd l.aw aj).aZ))) aj).key) ((rd (aG l.aw (ax aj) (bw.mk ((rd l.aw aj).key) (-1) ((rd l.aw aj).aZ))) aj).cX) l.cO)) l.cO).aZ))) np))] [(cl gW 238 [(ii l.k),(ll mZ (aG (aG (aG l.aw (ax aj) (bw.mk ((rd l.aw aj).key) (-1) ((rd l.aw aj).aZ))) (ax aj) (bw.mk ((rd (aG l.aw (ax aj) (bw.mk ((rd l.aw aj).key) (-1) ((rd l.aw aj).aZ))) aj).key) ((rd (aG l.aw (ax aj) (bw.mk ((rd l.aw aj).key) (-1) ((rd l.aw aj).aZ))) aj).cX) l.cO)) (ax l.cO) (bw.mk ((rd (aG (aG l.aw (ax aj) (bw.mk ((rd l.aw aj).key) (-1) ((rd l.aw aj).aZ))) (ax aj) (bw.mk ((rd (aG l.aw (ax aj) (bw.mk ((rd l.aw aj).key) (-1) ((rd l.aw aj).aZ))) aj).key) ((rd (aG l.aw (ax aj) (bw.mk ((rd l.aw aj).key) (-1) ((rd l.aw aj).aZ))) aj).cX) l.cO)) l.cO).key) aj ((rd (aG (aG l.aw (ax aj) (bw.mk ((rd l.aw aj).key) (-1) ((rd l.aw aj).aZ))) (ax aj) (bw.mk ((rd (aG l.aw (ax aj) (bw.mk ((rd l.aw aj).key) (-1) ((rd l.aw aj).aZ))) aj).key) ((rd (aG l.aw (ax aj) (bw.mk ((rd l.aw aj).key) (-1) ((rd l.aw aj).aZ))) aj).cX) l.cO)) l.cO).aZ))) np),(.map (some pQ)),(ii l.cO),(ii l.dz)])] J J ⟨dP,trivial⟩ dP (an sl (ae (rx T 6 (sg T 3 J (ro T 1 (jB ?_))))))))))
 cases H;exact p1 T J [3,0,0,0] ⟨mZ,np,H7,pQ,vW,s7,xq,J,J⟩ J
def yB.f (l:gu) (a:Int) (b:Int):Option (Int×Bool×Bool×gu):=(if(bt l.fB (a,b))=true then((ur.f l (aP l.fB (a,b))).bind λv9=>some (v9.k,v9.aw,v9.fB,v9.cO,v9.dz,(aP l.fB (a,b)),false)) else(if(aa l.aw:Int)<l.k then(if(aa l.aw+1<=1099511627776) then(some (l.k,(l.aw++[(bw.mk (a,b) 0 0)]),l.fB,l.cO,l.dz,(aa l.aw:Int),false)) else none) else((ur.f l l.dz).bind λv10=>if(0<=l.dz/\l.dz<(aa v10.aw:Int)) then(some (v10.k,(aG v10.aw (ax l.dz) (bw.mk (a,b) ((rd v10.aw l.dz).cX) ((rd v10.aw l.dz).aZ))),(eF v10.fB ((rd v10.aw l.dz).key.1,(rd v10.aw l.dz).key.2)),v10.cO,v10.dz,l.dz,true)) else none))).bind λ(x1,x2,x3,x4,x5,x6,x7)=>(yC.f (gu.mk x1 x2 (cF x3 (a,b) x6) x4 x5) x6).bind λv11=>some (x6,(bt l.fB (a,b)),x7,v11)
def yB.R (gW:Nat) (r:(Int×Bool×Bool×gu)):bm:=λu G=> ∃(a0 n0 H0:_) (a1:Nat) (H1:Hp),ak lh 278 r.2.2.2.aw a0 n0 H0/\de (Ky.pair T .i64 J J J mg u3) (λx:Int=>Value.int .i64 x) r.2.2.2.fB a1 H1/\u=(.tuple #[(ii r.1),(bb r.2.1),(bb r.2.2.1)])/\G=[(cl gW 238 [(ii r.2.2.2.k),(ll a0 r.2.2.2.aw n0),(.map (some a1)),(ii r.2.2.2.cO),(ii r.2.2.2.dz)]),H0,H1]
theorem yB.c (H:yB.f l a b=some r) (uK:ak lh 278 l.aw mZ np zt) (xq:de (Ky.pair T .i64 J J J mg u3) (λx:Int=>Value.int .i64 x) l.fB pQ vW):
 QR 184 [(pp gW),(ii a),(ii b)] [(cl gW 238 [(ii l.k),(ll mZ l.aw np),(.map (some pQ)),(ii l.cO),(ii l.dz)]),zt,vW] [] F (yB.R gW r):=by
 unfold yB.f at H;refine aH Tryz.func184 J J (λW=>rc T 14 (fj J (rc T 6 (bz J (KD T J J J J J J) (nc T J (λb4=>sg T 4 J (ro T 3 (dy mix aA (au T J (au T J (au T J (cB T 0 J J J (br J J J (gA T 4 J J J J J J J) (br J J J (qN (k:=(a,b)) T (Ky.pair T .i64 J J J mg u3) (λx:Int=>Value.int .i64 x) J J J J J (pF xq (j:=2) J)) ?_))))))))))))))
 iterate 5 refine au T J ?_
 refine cU (rx T 1 (mq H [0,7,9] [3,3] (λz8 (⟨x1,x2,x3,x4,x5,x6,x7,a5,n5,H5,a6,H6⟩:Int×List bw×(List ((Int×Int)×Int))×Int×Int×Int×Bool×Option Addr×Nat×Hp×Nat×Hp)=>((x1,x2,x3,x4,x5,x6,x7)=z8/\ak lh 278 x2 a5 n5 H5/\de (Ky.pair T .i64 J J J mg u3) (λx:Int=>Value.int .i64 x) x3 a6 H6,[(6,(ii x6)),(8,(bb x7))],[(cl gW 238 [(ii x1),(ll a5 x2 n5),(.map (some a6)),(ii x4),(ii x5)]),H5,H6])) J J (λz8 Z1 _=>?_) ?_))
 ·refine rc T 7 (cb J Z1 (λZ1=>?_) (λZ1=>?_))
  ·refine rc T 3 (kr (ur.R gW) [] [0,0,0] J U7 Z1 (ur.c · uK xq) (λv9 Z1=>?_));rintro _ _ ⟨a7,n7,H7,a8,H8,s7,s8,rfl,rfl⟩;refine fz J (ro T 3 (am (_,_,_,_,_,_,_,_,_,_,_,_) [0,0,0,0,0] ⟨oi Z1,s7,s8⟩ J J))
  refine rc T 1 (dy mix aA (au T J (au T J (au T J (cB T 0 J J J ?_)))))
  iterate 4 refine au T J ?_
  refine cB T 0 J J J (au T J (au T J (cU (rx T 1 (cd J Z1 (λZ1=>?_) (λZ1=>?_))))))
  ·refine rc T 5 (lf T 0 J (ro T 4 (ks [0,6,7,8,9] J (fz J (rg [8,11] [0,0,0,0,0] mix (bU bT) (λhg pf=>ha T 8 [0,1,2,3] sz hg pf J (al T 4 0 sz hg pf J J J (av 5 sz hg pf J (gA T 4 J J J J J J J) (ha T 5 [6] sz hg pf J (ao 7 (dp (k:=lh) T [(bw.mk (a,b) 0 0)] J J J J J J J J J (λa9 H9 s9=>an (so [0,0,0,0,0]) (ao 8 ?_)))))))))))));obtain⟨c5,Z1⟩:=aF Z1;refine eP (k:=lh) (xs:=l.aw) T (g:=1) J J J J J J J J J J uK (oO s9 5) c5 J (λcK n10 cu bX=>an sl (hb T 9 sl hg pf J (hb T 10 sl hg pf J (ao 11 (sf T 0 J (an sl (ae (rx T 1 (rx T 1 (am (_,_,_,_,_,_,_,_,_,_,_,_) [3,3,0,0,0] ⟨oi Z1,bX,xq⟩ J J))))))))))
  refine rc T 5 (lf T 0 J (ro T 8 (kr (ur.R gW) [] [0,0,0] J U7 Z1 (ur.c · uK xq) (λv10 Z1=>?_))));rintro _ _ ⟨dG,n11,cM,a12,dL,dr,dS,rfl,rfl⟩;refine fz J (ro T 3 (ks [0,6,7,8,9] J (fz J (rz [12] mix (bU bT) (λhg pf=>ha T 10 [0,1,2] sz hg pf J (al T 3 2 sz hg pf J J J (ha T 6 [4,5,6] sz hg pf J (al T 7 2 sz hg pf J J J (ha T 4 [8] sz hg pf J ?_)))))))));obtain⟨c7,Z1⟩:=aF Z1;obtain⟨XJ,Xm,yb⟩:=dr.r.addr c7.1 c7.2;refine av 9 sz hg pf J (cV T J J J J J yb c7.1 c7.2) (ha T 2 [10] sz hg pf J (av 11 sz hg pf J (gp T (cs:=[(ii (rd v10.aw l.dz).key.1),(ii (rd v10.aw l.dz).key.2)]) J J J J J J (agp (k:=lh) (oO dr 3) yb c7 0 J)) (ao 12 (EK (g:=4) (m:=v10.fB) (k:=((rd v10.aw l.dz).key.1,(rd v10.aw l.dz).key.2)) T (Ky.pair T .i64 J J J mg u3) (λx:Int=>Value.int .i64 x) J J J J J J J J dS (λgf gQ=>an sl (ae (rx T 1 (ks [0,6,7,8,9] J (fz J (rz [8] mix (bU bT) (λhg pf=>ha T 6 [0,1,2] sz hg pf J (al T 3 2 sz hg pf J J J (ha T 4 [4] sz hg pf J (av 5 sz hg pf J (gA T 1 J J J J J J J) (av 6 sz hg pf J (cV T J J J J J yb c7.1 c7.2) (ha T 1 [7] sz hg pf J (ao 8 (lD (k:=lh) T 3 0 (bw.mk (a,b) ((rd v10.aw l.dz).cX) ((rd v10.aw l.dz).aZ)) J J J J J J dr yb c7 J J J (λdT eG=>kg [0,6,7,8,9,43,44,45,47,48,49,50] [0,0,1,1] [0,0,1,1,0] [(46,(ll dG (aG v10.aw (ax l.dz) (bw.mk (a,b) ((rd v10.aw l.dz).cX) ((rd v10.aw l.dz).aZ))) n11))] [(cl gW 238 [(ii v10.k),(ll dG (aG v10.aw (ax l.dz) (bw.mk (a,b) ((rd v10.aw l.dz).cX) ((rd v10.aw l.dz).aZ))) n11),(.map (some a12)),(ii v10.cO),(ii v10.dz)])] J J ⟨dP,trivial⟩ dP (an sl (ae (rx T 2 (am (_,_,_,_,_,_,_,_,_,_,_,_) [0,0,2,0,0] ⟨oi Z1,eG,gQ⟩ J J)))))))))))))))))))))))
 rintro _ ⟨x1,x2,x3,x4,x5,x6,x7,a5,n5,H5,a6,H6⟩ ⟨rfl,s5,s6⟩ H;refine rc T 1 (fz J (rz [6] mix (bU bT) (λhg pf=>ha T 4 [0,1,2] sz hg pf J (al T 3 2 sz hg pf J J J (av 4 sz hg pf J (gA T 1 J J J J J J J) (ha T 1 [5] sz hg pf J (ao 6 (qG (g:=4) (m:=x3) (k:=(a,b)) (v:=x6) T (Ky.pair T .i64 J J J mg u3) (λx:Int=>Value.int .i64 x) J J J J J J J s6 (λgB gw=>an sl (ae (rx T 5 (kr (yC.R gW) [] [2,2,2] J aeM H (yC.c (l:=(gu.mk x1 x2 (cF x3 (a,b) x6) x4 x5)) · s5 gw) (λv11 H=>?_)))))))))))));rintro _ _ ⟨a17,n17,eZ,jA,fE,fO,fP,rfl,rfl⟩;refine fz J (ro T 13 ?_)
 cases H;exact p1 T J [2,2,2,0] ⟨a17,n17,eZ,jA,fE,fO,fP,J,J⟩ J
end
noncomputable section
def El.f (h:Ej) (aj:Int) (side:Int):Option Int:=if(¬h.t.W=0) then(if(¬h.t.W=0) then(if((side==0)&&(decide ((af (dm aj h.t.W))>0)))=true then(some (af (aj-h.t.W))) else((if(side==1)=true then(some (decide ((fJ aj h.t.W)<(af (h.t.W-1))))) else(some false)).bind λx1=>if x1=true then(some (af (aj+1))) else((if(side==2)=true then(some (decide ((af (dm aj h.t.W))<(af (h.t.H-1))))) else(some false)).bind λx3=>if x3=true then(some (af (aj+h.t.W))) else(if((side==3)&&(decide ((fJ aj h.t.W)>0)))=true then(some (af (aj-1))) else(some (-1)))))) else none) else none
theorem El.c (H:El.f h aj side=some r) (jG:(fK,Obj.cells #[(ii h.t.W),(ii h.t.H),(ll CE h.t.C DI),(ll kV h.l ln),(ll CD h.aR DH)] 337 (0,0))∈F) (pB:aU (Fl.int .u8) h.t.C CE F) (rI:aa h.t.C<=DI) (pZ:aU cW h.l kV F) (pW:aa h.l<=ln) (mD:aU (Fl.int .i64) h.aR CD F) (rH:aa h.aR<=DH):
 QU 295 [(pp fK),(ii aj),(ii side)] [] F (ii r):=by
 unfold El.f at H;refine aH Tryz.func295 J J (λW=>rc T 6 (dy mix aA ?_))
 iterate 5 refine au T J ?_
 refine br J J J (cS T J J J J (oP (j:=0) jG J J)) ?_;obtain⟨c1,H⟩:=aF H;refine br J J J (vh J J J c1) ?_
 iterate 5 refine au T J ?_
 refine br J J J (cS T J J J J (oP (j:=0) jG J J)) ?_;obtain⟨c2,H⟩:=aF H;refine br J J J (vg J J J c2) (au T J (au T J (cU (rx T 8 (ga T [3,4,5] 26 [0,1,2,7,8] 29 J J J J J J J (ro T 3 (cb J H (λH=>?_) (λH=>?_))))))))
 ·refine rc T 7 (lg T J (oP (j:=0) jG J J) (ro T 7 ?_))
  cases H;exact p0 T J [0] J
 refine mq H [0,1,2,7,8] [0] (λz2 (x1:Bool)=>(x1=z2,[(37,(bb x1))],[])) J J (λz2 Z4 _=>?_) ?_
 ·refine rc T 4 (ab 40 J Z4 (λZ4=>?_) (λZ4=>?_))
  ·refine ro T 5 (lg T J (oP (j:=0) jG J J) (ro T 6 (am _ [0] (oi Z4) J J)))
  refine ro T 12 (am _ [0] (oi Z4) J J)
 rintro _ x1 rfl H;refine cb J H (λH=>?_) (λH=>?_)
 ·refine rc T 10 ?_
  cases H;exact p0 T J [0] J
 refine mq H [0,1,2,7] [0] (λz4 (x3:Bool)=>(x3=z4,[(52,(bb x3))],[])) J J (λz4 Z7 _=>?_) ?_
 ·refine rc T 4 (ab 55 J Z7 (λZ7=>?_) (λZ7=>?_))
  ·refine ro T 5 (lg T J (oP (j:=0) jG J J) (ro T 6 (am _ [0] (oi Z7) J J)))
  refine ro T 12 (am _ [0] (oi Z7) J J)
 rintro _ x3 rfl H;refine cb J H (λH=>?_) (λH=>?_)
 ·refine rc T 7 (lg T J (oP (j:=0) jG J J) (ro T 7 ?_))
  cases H;exact p0 T J [0] J
 refine rc T 5 (ga T [3,4,5] 75 [1] 78 J J J J J J J (ro T 3 (cb J H (λH=>?_) (λH=>?_))))
 ·refine rc T 10 ?_
  cases H;exact p0 T J [0] J
 refine rc T 9 ?_
 cases H;exact p0 T J [0] J
def lz.f (h:Ej) (aj:Int) (side:Int):Option Bool:=(El.f h aj side).bind λv1=>if v1<0 then((ly.f h.l aj side).bind λv2=>if(0<=aj/\aj<(aa h.aR:Int)) then(some (v2==(rd h.aR aj))) else none) else((if(0<=v1/\v1<(aa h.t.C:Int)) then(if((rd h.t.C v1)!=255)=true then(if(0<=v1/\v1<(aa h.aR:Int)) then(if(0<=aj/\aj<(aa h.aR:Int)) then(some ((af ((af (rd h.t.C v1))+(rd h.aR v1)))==(rd h.aR aj))) else none) else none) else(some false)) else none).bind λx3=>some x3)
theorem lz.c (H:lz.f h aj side=some r) (jG:(fK,Obj.cells #[(ii h.t.W),(ii h.t.H),(ll CE h.t.C DI),(ll kV h.l ln),(ll CD h.aR DH)] 337 (0,0))∈F) (pB:aU (Fl.int .u8) h.t.C CE F) (rI:aa h.t.C<=DI) (pZ:aU cW h.l kV F) (pW:aa h.l<=ln) (mD:aU (Fl.int .i64) h.aR CD F) (rH:aa h.aR<=DH):
 QU 277 [(pp fK),(ii aj),(ii side)] [] F (bb r):=by
 unfold lz.f at H;refine aH Tryz.func277 J J (λW=>rc T 10 (k [] J afm H (El.c · (qT jG (j:=0) J) (rO pB 0) rI (rO pZ 0) pW (rO mD 0) rH) (λv1 H=>ro T 10 (cd J H (λH=>?_) (λH=>?_)))))
 ·refine rc T 1 (dy mix aA (au T J (au T J (au T J (br J J J (cS T J J J J (oP (j:=0) jG J J)) (au T J (au T J ?_)))))));obtain⟨v2,V3,H⟩:=fY H;refine sP J J J J J J Vb J (ly.c V3 (rO pZ 0) pW) (au T J (au T J (au T J (br J J J (cS T J J J J (oP (j:=0) jG J J)) (au T J ?_)))));obtain⟨c4,H⟩:=aF H;obtain⟨q1,o1,e1⟩:=mD.addr c4.1 c4.2;refine br J J J (cV T J J J J J e1 c4.1 c4.2) (br J J J (cS T J J J J (iu (k:=(Fl.int .i64)) (rO mD 0) e1 c4 0 J)) (au T J (au T J (cU (rx T 3 ?_)))))
  cases H;exact p0 T J [0] J
 refine rc T 2 (mq H [] [0] (λz4 (x3:Bool)=>(x3=z4,[(6,(bb x3))],[])) J J (λz4 Z5 _=>?_) ?_)
 ·refine dy mix aA ?_
  iterate 4 refine au T J ?_
  refine br J J J (cS T J J J J (oP (j:=0) jG J J)) (au T J ?_);obtain⟨c6,Z5⟩:=aF Z5;obtain⟨q2,o2,e2⟩:=pB.addr c6.1 c6.2;refine br J J J (cV T J J J J J e2 c6.1 c6.2) (br J J J (cS T J J J J (iu (k:=(Fl.int .u8)) (rO pB 0) e2 c6 0 J)) (au T J (au T J (qb 38 J Z5 (λZ5=>?_) (λZ5=>?_)))))
  ·iterate 4 refine au T J ?_
   refine br J J J (cS T J J J J (oP (j:=0) jG J J)) (au T J (br J J J (cV T J J J J J e2 c6.1 c6.2) (br J J J (cS T J J J J (iu (k:=(Fl.int .u8)) (rO pB 0) e2 c6 0 J)) ?_)))
   iterate 4 refine au T J ?_
   refine br J J J (cS T J J J J (oP (j:=0) jG J J)) (au T J ?_);obtain⟨c8,Z5⟩:=aF Z5;obtain⟨q3,o3,e3⟩:=mD.addr c8.1 c8.2;refine br J J J (cV T J J J J J e3 c8.1 c8.2) (br J J J (cS T J J J J (iu (k:=(Fl.int .i64)) (rO mD 0) e3 c8 0 J)) ?_)
   iterate 4 refine au T J ?_
   refine br J J J (cS T J J J J (oP (j:=0) jG J J)) (au T J ?_);obtain⟨c9,Z5⟩:=aF Z5;refine br J J J (cV T J J J J J e3 c9.1 c9.2) (br J J J (cS T J J J J (iu (k:=(Fl.int .i64)) (rO mD 0) e3 c9 0 J)) (au T J (au T J (au T J (cU (rx T 1 (am _ [0] (oi Z5) J J)))))))
  iterate 27 refine au T J ?_
  refine cU (rx T 1 (am _ [0] (oi Z5) J J))
 rintro _ x3 rfl H;refine rc T 1 ?_
 cases H;exact p0 T J [0] J
def F2.f (h:Ej) (aj:Int) (side:Int):Option Int:=if(side==0)=true then((lz.f h aj 0).bind λv1=>if v1=true then(some 0) else((lz.f h aj 1).bind λv2=>if v2=true then(some 1) else((lz.f h aj 2).bind λv3=>if v3=true then(some 2) else((lz.f h aj 3).bind λv4=>if v4=true then(some 3) else(some 5))))) else(if(side==1)=true then((lz.f h aj 1).bind λv5=>if v5=true then(some 1) else((lz.f h aj 2).bind λv6=>if v6=true then(some 2) else((lz.f h aj 3).bind λv7=>if v7=true then(some 3) else(some 5)))) else(if(side==2)=true then((lz.f h aj 2).bind λv8=>if v8=true then(some 2) else((lz.f h aj 3).bind λv9=>if v9=true then(some 3) else(some 5))) else(if(side==3)=true then((lz.f h aj 3).bind λv10=>if v10=true then(some 3) else(some 5)) else(some 5))))
theorem F2.c (H:F2.f h aj side=some r) (jG:(fK,Obj.cells #[(ii h.t.W),(ii h.t.H),(ll CE h.t.C DI),(ll kV h.l ln),(ll CD h.aR DH)] 337 (0,0))∈F) (pB:aU (Fl.int .u8) h.t.C CE F) (rI:aa h.t.C<=DI) (pZ:aU cW h.l kV F) (pW:aa h.l<=ln) (mD:aU (Fl.int .i64) h.aR CD F) (rH:aa h.aR<=DH):
 QU 251 [(pp fK),(ii aj),(ii side)] [] F (ii r):=by
 unfold F2.f at H;refine aH Tryz.func251 J J (λW=>rc T 28 (cb J H (λH=>?_) (λH=>?_)))
 ·refine rc T 9 (k [] J yi H (lz.c · (qT jG (j:=0) J) (rO pB 0) rI (rO pZ 0) pW (rO mD 0) rH) (λv1 H=>ro T 2 (cb J H (λH=>?_) (λH=>?_))))
  ·refine rc T 14 ?_
   cases H;exact p0 T J [0] J
  refine rc T 7 (k [] J yi H (lz.c · (qT jG (j:=0) J) (rO pB 0) rI (rO pZ 0) pW (rO mD 0) rH) (λv2 H=>ro T 2 (cb J H (λH=>?_) (λH=>?_))))
  ·refine rc T 12 ?_
   cases H;exact p0 T J [0] J
  refine rc T 7 (k [] J yi H (lz.c · (qT jG (j:=0) J) (rO pB 0) rI (rO pZ 0) pW (rO mD 0) rH) (λv3 H=>ro T 2 (cb J H (λH=>?_) (λH=>?_))))
  ·refine rc T 10 ?_
   cases H;exact p0 T J [0] J
  refine rc T 8 (k [] J yi H (lz.c · (qT jG (j:=0) J) (rO pB 0) rI (rO pZ 0) pW (rO mD 0) rH) (λv4 H=>ro T 2 (cb J H (λH=>?_) (λH=>?_))))
  ·refine rc T 9 ?_
   cases H;exact p0 T J [0] J
  refine rc T 11 ?_
  cases H;exact p0 T J [0] J
 refine rc T 9 (cb J H (λH=>?_) (λH=>?_))
 ·refine rc T 11 (k [] J yi H (lz.c · (qT jG (j:=0) J) (rO pB 0) rI (rO pZ 0) pW (rO mD 0) rH) (λv5 H=>ro T 2 (cb J H (λH=>?_) (λH=>?_))))
  ·refine rc T 12 ?_
   cases H;exact p0 T J [0] J
  refine rc T 7 (k [] J yi H (lz.c · (qT jG (j:=0) J) (rO pB 0) rI (rO pZ 0) pW (rO mD 0) rH) (λv6 H=>ro T 2 (cb J H (λH=>?_) (λH=>?_))))
  ·refine rc T 10 ?_
   cases H;exact p0 T J [0] J
  refine rc T 8 (k [] J yi H (lz.c · (qT jG (j:=0) J) (rO pB 0) rI (rO pZ 0) pW (rO mD 0) rH) (λv7 H=>ro T 2 (cb J H (λH=>?_) (λH=>?_))))
  ·refine rc T 9 ?_
   cases H;exact p0 T J [0] J
  refine rc T 11 ?_
  cases H;exact p0 T J [0] J
 refine rc T 9 (cb J H (λH=>?_) (λH=>?_))
 ·refine rc T 13 (k [] J yi H (lz.c · (qT jG (j:=0) J) (rO pB 0) rI (rO pZ 0) pW (rO mD 0) rH) (λv8 H=>ro T 2 (cb J H (λH=>?_) (λH=>?_))))
  ·refine rc T 10 ?_
   cases H;exact p0 T J [0] J
  refine rc T 8 (k [] J yi H (lz.c · (qT jG (j:=0) J) (rO pB 0) rI (rO pZ 0) pW (rO mD 0) rH) (λv9 H=>ro T 2 (cb J H (λH=>?_) (λH=>?_))))
  ·refine rc T 9 ?_
   cases H;exact p0 T J [0] J
  refine rc T 11 ?_
  cases H;exact p0 T J [0] J
 refine rc T 8 (cb J H (λH=>?_) (λH=>?_))
 ·refine rc T 15 (k [] J yi H (lz.c · (qT jG (j:=0) J) (rO pB 0) rI (rO pZ 0) pW (rO mD 0) rH) (λv10 H=>ro T 2 (cb J H (λH=>?_) (λH=>?_))))
  ·refine rc T 9 ?_
   cases H;exact p0 T J [0] J
  refine rc T 11 ?_
  cases H;exact p0 T J [0] J
 refine rc T 19 ?_
 cases H;exact p0 T J [0] J
def Ek.f (h:Ej) (aj:Int):Option Int:=if(0<=aj/\aj<(aa h.aR:Int)) then(if((rd h.aR aj)==1099511627776)=true then(some 5) else((ly.f h.l aj 4).bind λv1=>if((rd h.aR aj)==v1)=true then(some 4) else((F2.f h aj 0).bind λv2=>some v2))) else none
theorem Ek.c (H:Ek.f h aj=some r) (jG:(fK,Obj.cells #[(ii h.t.W),(ii h.t.H),(ll CE h.t.C DI),(ll kV h.l ln),(ll CD h.aR DH)] 337 (0,0))∈F) (pB:aU (Fl.int .u8) h.t.C CE F) (rI:aa h.t.C<=DI) (pZ:aU cW h.l kV F) (pW:aa h.l<=ln) (mD:aU (Fl.int .i64) h.aR CD F) (rH:aa h.aR<=DH):
 QU 229 [(pp fK),(ii aj)] [] F (ii r):=by
 unfold Ek.f at H;refine aH Tryz.func229 J J (λW=>rc T 11 (lg T J (oP (j:=0) jG J J) (ro T 1 ?_)));obtain⟨c1,H⟩:=aF H;obtain⟨q1,o1,e1⟩:=mD.addr c1.1 c1.2;refine ix T J e1 c1 (le T 0 (rO mD 0) e1 c1 J J (ro T 9 (cb J H (λH=>?_) (λH=>?_))))
 ·refine rc T 8 ?_
  cases H;exact p0 T J [0] J
 refine rc T 5 (lg T J (oP (j:=0) jG J J) (ro T 1 (k [] J Vb H (ly.c · (rO pZ 0) pW) (λv1 H=>ro T 4 (cb J H (λH=>?_) (λH=>?_))))))
 ·refine rc T 8 ?_
  cases H;exact p0 T J [0] J
 refine rc T 7 (k [] J ae4 H (F2.c · (qT jG (j:=0) J) (rO pB 0) rI (rO pZ 0) pW (rO mD 0) rH) (λv2 H=>ro T 4 ?_))
 cases H;exact p0 T J [0] J
def pa.l0:Nat->aJ->(List a_)->((List Int)×Int)->List Int->Int->Option (gk×Int)
 |0,_,_,_,_,_=>none
 |k6+1,t,l,v1,x4,x5=>if x5<(aa v1.1:Int) then((Ek.f (Ej.mk t l v1.1) x5).bind λv7=>if(aa x4+1<=1099511627776) then(pa.l0 k6 t l v1 (x4++[v7]) (af (x5+1))) else none) else(some ((gk.mk v1.1 x4),0))
def pa.f (t:aJ) (l:(List a_)):Option (gk×Int):=(uV.f t l).bind λv1=>if(v1.2 !=0)=true then(some ((gk.mk [] []),v1.2)) else(pa.l0 fuel t l v1 [] 0)
def pa.R (r:(gk×Int)):bm:=λu G=> ∃a0 n0 H0 a1 n1 H1,ak (Fl.int .i64) 3 r.1.fi a0 n0 H0/\ak (Fl.int .i64) 3 r.1.cJ a1 n1 H1/\u=(.tuple #[(.agg #[(ll a0 r.1.fi n0),(ll a1 r.1.cJ n1)]),(ii r.2)])/\G=[H0,H1]
theorem pa.c (H:pa.f t l=some r) (eB:aU (Fl.int .u8) t.C iN F) (fI:aa t.C<=iR) (dt:aU cW l ig F) (gn:aa l<=g_):
 QR 188 [(.agg #[(ii t.W),(ii t.H),(ll iN t.C iR)]),(ll ig l g_)] [] [] F (pa.R r):=by
 unfold pa.f at H;refine aH Tryz.func188 J J (λW=>rc T 2 (nc T J (λb1=>nc T J (λb2=>ro T 5 (lm T 1 J (ro T 1 (kr uV.R [] [] J U8 H (uV.c · (rO eB 0) fI (rO dt 0) gn) (λv1 H=>?_))))))));rintro _ _ ⟨a3,n3,H3,s3,rfl,rfl⟩;refine fz J (ro T 14 (cb J H (λH=>?_) (λH=>?_)))
 ·refine rc T 4 (sg T 2 J (ro T 5 ?_))
  cases H;refine bC (bC (pb T J (.c_ (j:=2) [nl,nl] J J J J J J J (.tmp J .nil)) [4,4,0] ⟨(_,_),none,0,[],none,0,[],ak.nil,ak.nil,J,J⟩ J J))
 refine rc T 4 (lm T 1 J (ro T 3 (nc T J (λb6=>ro T 2 (ke [4,6,8] [0,1,1,1] J J (rx T 5 (nc T J (λb7=>sg T 4 J (ro T 11 (bC (lq [4,8,9,29] [0,0,1,0] (λ(⟨k6,x4,x5,a9,n9,H9⟩:Nat×List Int×Int×Option Addr×Nat×Hp)=>(pa.l0 k6 t l v1 x4 x5=some r/\ak (Fl.int .i64) 3 x4 a9 n9 H9,[(30,(ii x5))],[(cl b7 79 [(ll a3 v1.1 n3),(ll a9 x4 n9)]),H9])) J J (fuel,[],0,none,0,[]) [0,0,1,0,0,0] ⟨H,ak.nil⟩ J J ?_)))))))))));rintro k6 ⟨x4,x5,a9,n9,H9⟩ ⟨Z3,s9⟩;rw[pa.l0] at Z3;refine rc T 6 (cd J Z3 (λZ3=>?_) (λZ3=>?_))
 ·refine rc T 10 (fz J (rg [6,8] [0,0,0,0,0,0] mix (bU bT) (λhg pf=>ha T 8 [0] sz hg pf J (al T 1 4 sz hg pf J J J (ha T 5 [2,3] sz hg pf J (ao 4 (kh [] J aeO Z3 (Ek.c (h:=(Ej.mk t l v1.1)) · (DE (j:=2) J) (rO eB 0) fI (rO dt 0) gn (oO s3 3) s3.ck) (λv7 Z3=>an sz (ao 5 (dp (k:=(Fl.int .i64)) T [v7] J J J J J J J J J (λcK cu bX=>an (so [0,0,0,0,0,0]) (ao 6 ?_))))))))))));obtain⟨c6,Z3⟩:=aF Z3;refine eP (k:=(Fl.int .i64)) (xs:=x4) T (g:=5) J J J J J J J J J J s9 (oO bX 6) c6 J (λdG n11 cM dr=>an sl (hb T 7 sl hg pf J (ao 8 (sf T 4 J (an sl (ae (rx T 7 (ar (_,_,_,_,_) [0,0,0,0,0,0] ⟨Z3,dr⟩ J J))))))))
 refine rc T 7 (lm T 4 J (sg T 1 J (ro T 4 ?_)))
 cases Z3;exact pb T J (.c_ (j:=1) [(ll a3 v1.1 n3),(ll a9 x4 n9)] J J J J J J J (.tmp J .nil)) [3,4,0] ⟨(_,_),a3,n3,H3,a9,n9,H9,s3,s9,J,J⟩ J J
end
noncomputable section
def yX.f (ai:Int):Option (Option jJ):=if ai<1 then(some none) else((yD.f ai).bind λv1=>dA v1 (none) (λeY=>some (some (jJ.mk eY [] (gD.mk 0 0 0 0 0 0)))))
def yX.R (r:(Option jJ)):bm:=λu G=> ∃(u0:Value) (G0:List Hp),ZR r u0 G0/\u=u0/\G=G0
theorem yX.c (H:yX.f ai=some r):
 QR 77 [(ii ai)] [] [] F (yX.R r):=by
 unfold yX.f at H;refine aH Tryz.func77 J J (λW=>rc T 12 (cd J H (λH=>?_) (λH=>?_)))
 ·refine rc T 7 ?_
  cases H;exact p1 T J [0] ⟨_,_,⟨J,J⟩,J,J⟩ J
 refine rc T 5 (kr yD.R [] [] J adU H (yD.c ·) (λv1 H=>?_));rintro _ _ ⟨_,_,O3,rfl,rfl⟩;rcases v1 with _ |eY
 ·replace H:=fx J H
  cases H
 replace H:=fy J H;obtain⟨b1,a2,n2,H2,a3,H3,s2,s3,rfl,rfl⟩:=O3;refine ro T 1 (nc T J (λb4=>ro T 4 ?_))
 cases H;refine bC (gM [4,1,1,1,1] J (p1 T J [1,0] ⟨_,_,⟨b4,(bo [(cl b4 173 [(pp b1),nl,(uu 0),(uu 0),(uu 0),(uu 0),(uu 0),(uu 0)]),(cl b1 238 [(ii eY.k),(ll a2 eY.aw n2),(.map (some a3)),(ii eY.cO),(ii eY.dz)]),H2,H3,[]]),(show tV (jJ.mk eY [] (gD.mk 0 0 0 0 0 0)) b4 (bo [(cl b4 173 [(pp b1),nl,(uu 0),(uu 0),(uu 0),(uu 0),(uu 0),(uu 0)]),(cl b1 238 [(ii eY.k),(ll a2 eY.aw n2),(.map (some a3)),(ii eY.cO),(ii eY.dz)]),H2,H3,[]]) from⟨b1,a2,n2,H2,a3,H3,none,0,[],s2,s3,(gT.nil (kd:=FK) (E:=291)),J⟩),J,J⟩,J,J⟩ J))
def qv.f (s:jJ):Option jJ:=(Am.f s.keys).bind λv1=>some (jJ.mk v1 [] s.count)
def qv.R (nf:Nat) (r:jJ):bm:=λu G=> ∃(H0:Hp),tV r nf H0/\u=(.tuple #[])/\G=[H0]
theorem qv.c (H:qv.f s=some r) (dg:tV s bk eI):
 QR 117 [(pp bk)] [eI] [] F (qv.R bk r):=by
 unfold qv.f at H;refine aH Tryz.func117 J J (λW=>rc T 6 (oA J (rc T 1 ?_)));obtain⟨b3,a4,n4,H4,a5,H5,a6,n6,H6,s4,s5,s6,cL⟩:=(λx=>x) dg;refine bY 0 (congrArg some cL) (fz J (rc T 4 (lf T 1 J (kr (Am.R b3) [] [2,2,2] J UG H (Am.c · s4 s5) (λv1 H=>?_)))));rintro _ _ ⟨a7,n7,H7,a8,H8,s7,s8,rfl,rfl⟩;refine fz J (ro T 6 (sg T 1 J (ro T 1 (jB ?_))))
 cases H;refine bC (gM [1,2,2,2,2] J (p1 T J [2,0] ⟨(bo [(cl bk 173 [(pp b3),nl,(uu s.count.bK),(uu s.count.bL),(uu s.count.bH),(uu s.count.bG),(uu s.count.bR),(uu s.count.bM)]),(cl b3 238 [(ii v1.k),(ll a7 v1.aw n7),(.map (some a8)),(ii v1.cO),(ii v1.dz)]),H7,H8,[]]),(show tV (jJ.mk v1 [] s.count) bk (bo [(cl bk 173 [(pp b3),nl,(uu s.count.bK),(uu s.count.bL),(uu s.count.bH),(uu s.count.bG),(uu s.count.bR),(uu s.count.bM)]),(cl b3 238 [(ii v1.k),(ll a7 v1.aw n7),(.map (some a8)),(ii v1.cO),(ii v1.dz)]),H7,H8,[]]) from⟨b3,a7,n7,H7,a8,H8,none,0,[],s7,s8,(gT.nil (kd:=FK) (E:=291)),J⟩),J,J⟩ J))
def nz.f (count:Int):Option Int:=(tM.f count 1).bind λv1=>some v1
def nz.R (ab7:Nat) (abW:TypeId) (acw acx:List Value) (r:Int) (u:Value) (G:List Hp):Prop:=u=(.tuple #[])/\G=[[(ab7,Obj.cells (acw++(Value.int .u64 r)::acx).toArray abW (0,0))]]
theorem nz.c (H:nz.f count=some r):
 QR 186 [(.pointer (some ⟨Sy,aa pre_count,none⟩))] [[(Sy,Obj.cells (pre_count++(uu count)::post_count).toArray ZZ (0,0))]] [] F (nz.R Sy ZZ pre_count post_count r):=by
 unfold nz.f at H;refine aH Tryz.func186 J J (λW=>rc T 4 (lg T J (agq (j:=0) J) (k [] J KX H (tM.c ·) (λv1 H=>ro T 1 (ba (abn T 0 J J J J J J ?_))))));refine ro T 1 (jB ?_)
 cases H;exact p1 T J [0,0] ⟨J,J⟩ J
def uS.f (ai:gk):Option gk:=(ri.f ai.fi).bind λv1=>(ri.f ai.cJ).bind λv2=>some (gk.mk v1 v2)
def uS.R (r:gk):bm:=λu G=> ∃a0 n0 H0 a1 n1 H1,ak (Fl.int .i64) 3 r.fi a0 n0 H0/\ak (Fl.int .i64) 3 r.cJ a1 n1 H1/\u=(.agg #[(ll a0 r.fi n0),(ll a1 r.cJ n1)])/\G=[H0,H1]
theorem uS.c (H:uS.f ai=some r) (adQ:aU (Fl.int .i64) ai.fi aac F) (abZ:aa ai.fi<=ahJ) (adP:aU (Fl.int .i64) ai.cJ aab F) (abY:aa ai.cJ<=ahI):
 QR 187 [(.agg #[(ll aac ai.fi ahJ),(ll aab ai.cJ ahI)])] [] [] F (uS.R r):=by
 unfold uS.f at H;refine aH Tryz.func187 J J (λW=>rc T 2 (nc T J (λb1=>nc T J (λb2=>ro T 3 (ks [1,2] J (fz J (rg [7] [0,0,0] mix (bU bT) (λhg pf=>ha T 7 [0] sz hg pf J (al T 1 1 sz hg pf J J J (ha T 5 [3] sz hg pf J (al T 4 1 sz hg pf J J J (ao 2 (kR ri.R [] [] J OP H (ri.c · (rO adQ 0) abZ) (λv1 H=>?_))))))))))))));rintro _ _ ⟨a3,n3,H3,s3,rfl,rfl⟩;refine fz J (an (so [0,0,0]) (ao 5 (kR ri.R [] [] J OP H (ri.c · (rO adP 0) abY) (λv2 H=>?_))));rintro _ _ ⟨a4,n4,H4,s4,rfl,rfl⟩;refine fz J (an (so [0,0,0]) (ha T 1 [6] (so [0,0,0]) hg pf J (ao 7 (sf T 2 J (an sl (ae (rx T 1 (rc T 1 ?_))))))))
 cases H;exact pb T J (.c_ (j:=2) [(ll a3 v1 n3),(ll a4 v2 n4)] J J J J J J J .nil) [3,3,0] ⟨(_,_),a3,n3,H3,a4,n4,H4,s3,s4,J,J⟩ J J
def ny.f (s:jJ) (goal:Int) (bI:Int) (version:Int) (t:aJ) (l:(List a_)):Option (gk×Int×jJ):=(AL.f t l).bind λv1=>if(!v1)=true then(some ((gk.mk [] []),1,s)) else((yB.f s.keys goal bI).bind λv2=>(if(v2.1==(aa s.fields:Int))=true then(if(aa s.fields+1<=1099511627776) then(some (s.fields++[(rh.mk 0 [] (gk.mk [] []))])) else none) else(some s.fields)).bind λx3=>if(0<=v2.1/\v2.1<(aa x3:Int)) then((if v2.2.1=true then(if((rd x3 v2.1).version==version)=true then((BX.f ((rd x3 v2.1).uR) l).bind λv7=>some v7) else(some false)) else(some false)).bind λx5=>if x5=true then((nz.f s.count.bG).bind λv8=>(uS.f ((rd x3 v2.1).field)).bind λv9=>some (v9,0,(jJ.mk v2.2.2.2 x3 (gD.mk s.count.bK s.count.bL s.count.bH v8 s.count.bR s.count.bM)))) else((if v2.2.1=true then((nz.f s.count.bR).bind λv12=>some v12) else(some s.count.bR)).bind λaN=>(if v2.2.2.1=true then((nz.f s.count.bM).bind λdC=>some dC) else(some s.count.bM)).bind λaT=>(nz.f s.count.bH).bind λcP=>(pa.f t l).bind λv17=>(tI.f l).bind λfq=>(uS.f v17.1).bind λpg=>some (pg,0,(jJ.mk v2.2.2.2 (aG x3 (ax v2.1) (rh.mk version fq v17.1)) (gD.mk s.count.bK s.count.bL cP s.count.bG aN aT))))) else none)
def ny.R (nf:Nat) (r:(gk×Int×jJ)):bm:=λu G=> ∃(a0 n0 H0:_) (a1 n1 H1:_) (H2:Hp),ak (Fl.int .i64) 3 r.1.fi a0 n0 H0/\ak (Fl.int .i64) 3 r.1.cJ a1 n1 H1/\tV r.2.2 nf H2/\u=(.tuple #[(.agg #[(ll a0 r.1.fi n0),(ll a1 r.1.cJ n1)]),(ii r.2.1)])/\G=[H0,H1,H2]
theorem ny.c (H:ny.f s goal bI version t l=some r) (dg:tV s bk eI) (eB:aU (Fl.int .u8) t.C iN F) (fI:aa t.C<=iR) (dt:aU cW l ig F) (gn:aa l<=g_):
 QR 144 [(pp bk),(ii goal),(ii bI),(ii version),(.agg #[(ii t.W),(ii t.H),(ll iN t.C iR)]),(ll ig l g_)] [eI] [] F (ny.R bk r):=by
 unfold ny.f at H;refine aH Tryz.func144 J J (λW=>rc T 2 (nc T J (λb2=>nc T J (λb3=>ro T 9 (lm T 2 J (ro T 1 (k [] J UT H (AL.c · (rO eB 1) fI (rO dt 1) gn) (λv1 H=>ro T 4 (cb J H (λH=>?_) (λH=>?_))))))))))
 ·refine rc T 3 (sg T 3 J (ro T 5 ?_))
  cases H;refine bC (bC (pb T J (.c_ (j:=3) [nl,nl] J J J J J J J (.tmp J .nil)) [4,4,0,0] ⟨(_,_),none,0,[],none,0,[],eI,ak.nil,ak.nil,dg,J,J⟩ J J))
 refine rc T 3 ?_;obtain⟨b7,a8,n8,H8,a9,H9,cK,n10,cu,s8,s9,bX,hH6⟩:=(λx=>x) dg;refine bY 0 (congrArg some hH6) (fz J (rc T 4 (lf T 3 J (ro T 2 (kr (yB.R b7) [] [4,4,4] J aep H (yB.c · s8 s9) (λv2 H=>?_))))));rintro _ _ ⟨dG,n11,cM,a12,dL,dr,dS,rfl,rfl⟩;refine fz J (ro T 9 (mq H [0,3,5,10,12,14,15,16] [0,4,4,4,0,0] (λz4 (⟨x3,dQ,n13,fe⟩:List rh×Option Addr×Nat×Hp)=>(x3=z4/\gT FK 291 x3 dQ n13 fe,[],[(cl bk 173 [(pp b7),(ll dQ x3 n13),(uu s.count.bK),(uu s.count.bL),(uu s.count.bH),(uu s.count.bG),(uu s.count.bR),(uu s.count.bM)]),fe])) J J (λz4 Z4 _=>?_) ?_))
 ·refine rc T 6 (lf T 3 J (ro T 4 (cb J Z4 (λZ4=>?_) (λZ4=>?_))))
  ·refine rc T 5 (lf T 3 J (ro T 1 (bC (bC (bC (gM [8,8,8] J (ba (GN (kd:=FK) (E:=291) (q:=8) (c:=[(ii 0),nl,nl,nl]) T (rh.mk 0 [] (gk.mk [] [])) J J J J J J J J J J ⟨none,0,[],none,0,[],none,0,[],(ak.nil (k:=cW) (E:=285)),(ak.nil (k:=(Fl.int .i64)) (E:=3)),(ak.nil (k:=(Fl.int .i64)) (E:=3)),J,J⟩ (λjA fE fP=>?_)))))))));obtain⟨c6,Z4⟩:=aF Z4;refine ba (GM (kd:=FK) (xs:=s.fields) (ys:=[(rh.mk 0 [] (gk.mk [] []))]) T (g:=4) (q:=9) J J J J J J J J J J bX J J fP c6 J (λmY n19 lB iz=>ro T 2 (sg T 3 J (ro T 1 (ke [0,3,5,10,12,14,15,16] [0,0,0,0,0,0,0,0] J J (rx T 1 (am (_,_,_,_) [0,4,4,4,0,0,0,0] ⟨oi Z4,iz⟩ J J)))))))
  refine rc T 2 (am (_,_,_,_) [0,4,4,4,0,0,0,0] ⟨oi Z4,bX⟩ J J)
 rintro _ ⟨x3,dQ,n13,fe⟩ ⟨rfl,dF⟩ H;refine rc T 5 (lf T 6 J (ro T 1 ?_));obtain⟨c7,H⟩:=aF H;obtain⟨q20,o20,Bn⟩:=dF.r.addr c7.1 c7.2;refine ix T J Bn c7 (ro T 4 (mq H [0,3,5,10,12,15,16,17] [0,5,0,0,0,2,0,0] (λz6 (x5:Bool)=>(x5=z6,[(79,(bb x5))],[])) J J (λz6 Z8 _=>?_) ?_))
 ·refine rc T 3 (ab 64 J Z8 (λZ8=>?_) (λZ8=>?_))
  ·refine ro T 3 ?_;obtain⟨_,Zg,⟨a21,n21,a22,n22,a23,n23,⟨r21,m21⟩,⟨r22,m22⟩,⟨r23,m23⟩,rfl⟩⟩:=ov.view dF.r c7;refine lg T J (Ds (j:=7) J Zg Bn 0 J) (ro T 4 (ab 72 J Z8 (λZ8=>?_) (λZ8=>?_)))
   ·refine ro T 3 (lg T J (Ds (j:=7) J Zg Bn 1 J) (ro T 1 (k [] J aeq Z8 (BX.c · (rO r21 7) m21 (rO dt 0) gn) (λv7 Z8=>ro T 3 (am _ [0,5,0,0,0,2,0,0] (oi Z8) J J)))))
   refine ro T 9 (am _ [0,5,0,0,0,2,0,0] (oi Z8) J J)
  refine ro T 17 (am _ [0,5,0,0,0,2,0,0] (oi Z8) J J)
 rintro _ x5 rfl H;refine cb J H (λH=>?_) (λH=>?_)
 ·refine rc T 6 (kr (nz.R bk 173 [(pp b7),(ll dQ x3 n13),(uu s.count.bK),(uu s.count.bL),(uu s.count.bH)] [(uu s.count.bR),(uu s.count.bM)]) [] [1] J K1 H (nz.c (pre_count:=[(pp b7),(ll dQ x3 n13),(uu s.count.bK),(uu s.count.bL),(uu s.count.bH)]) (post_count:=[(uu s.count.bR),(uu s.count.bM)]) ·) (λv8 H=>?_));rintro _ _ ⟨rfl,rfl⟩;refine fz J (ro T 7 ?_);obtain⟨_,w28,⟨a25,n25,a26,n26,J1,n27,⟨r25,m25⟩,⟨r26,m26⟩,⟨r27,m27⟩,rfl⟩⟩:=ov.view dF.r c7;refine bz J (gp T (cs:=[(ll a26 (rd x3 v2.1).field.fi n26),(ll J1 (rd x3 v2.1).field.cJ n27)]) J J J J J J (PT (j:=4) J w28 Bn 2 J)) (kr uS.R [] [] J UU H (uS.c · (rO r26 4) m26 (rO r27 4) m27) (λv9 H=>?_));rintro _ _ ⟨zy,n29,sG,CC,n30,sH,sb,qo,rfl,rfl⟩;refine fz J (sg T 6 J (ro T 5 ?_))
  cases H;refine gM [7,1,1,1,1] J (pb T J (.c_ (j:=2) [(ll zy v9.fi n29),(ll CC v9.cJ n30)] J J J J J J J (.tmp J .nil)) [3,3,3,0] ⟨(_,_),zy,n29,sG,CC,n30,sH,(bo [(cl bk 173 [(pp b7),(ll dQ x3 n13),(uu s.count.bK),(uu s.count.bL),(uu s.count.bH),(uu v8),(uu s.count.bR),(uu s.count.bM)]),(cl b7 238 [(ii v2.2.2.2.k),(ll dG v2.2.2.2.aw n11),(.map (some a12)),(ii v2.2.2.2.cO),(ii v2.2.2.2.dz)]),cM,dL,fe]),sb,qo,(show tV (jJ.mk v2.2.2.2 x3 (gD.mk s.count.bK s.count.bL s.count.bH v8 s.count.bR s.count.bM)) bk (bo [(cl bk 173 [(pp b7),(ll dQ x3 n13),(uu s.count.bK),(uu s.count.bL),(uu s.count.bH),(uu v8),(uu s.count.bR),(uu s.count.bM)]),(cl b7 238 [(ii v2.2.2.2.k),(ll dG v2.2.2.2.aw n11),(.map (some a12)),(ii v2.2.2.2.cO),(ii v2.2.2.2.dz)]),cM,dL,fe]) from⟨b7,dG,n11,cM,a12,dL,dQ,n13,fe,dr,dS,dF,J⟩),J,J⟩ J J)
 refine rc T 2 (mq H [0,3,5,10,12,16,17] [0,1,1,1,1,1,1] (λmj (aN:Int)=>(aN=mj,[],[(cl bk 173 [(pp b7),(ll dQ x3 n13),(uu s.count.bK),(uu s.count.bL),(uu s.count.bH),(uu s.count.bG),(uu aN),(uu s.count.bM)])])) J J (λmj dD _=>?_) ?_)
 ·refine rc T 5 (cb J dD (λdD=>?_) (λdD=>?_))
  ·refine rc T 5 (kr (nz.R bk 173 [(pp b7),(ll dQ x3 n13),(uu s.count.bK),(uu s.count.bL),(uu s.count.bH),(uu s.count.bG)] [(uu s.count.bM)]) [] [1] J K1 dD (nz.c (pre_count:=[(pp b7),(ll dQ x3 n13),(uu s.count.bK),(uu s.count.bL),(uu s.count.bH),(uu s.count.bG)]) (post_count:=[(uu s.count.bM)]) ·) (λv12 dD=>?_));rintro _ _ ⟨rfl,rfl⟩;refine fz J (ro T 2 (am _ [0,0,0,0,0,0,0,0] (oi dD) J J))
  refine rc T 2 (am _ [0,1,1,1,1,1,1,0] (oi dD) J J)
 rintro _ aN rfl H;refine mq H [0,3,5,10,12,17] [0,0,0,0,0,0,0] (λCl (aT:Int)=>(aT=Cl,[],[(cl bk 173 [(pp b7),(ll dQ x3 n13),(uu s.count.bK),(uu s.count.bL),(uu s.count.bH),(uu s.count.bG),(uu aN),(uu aT)])])) J J (λCl lC _=>?_) ?_
 ·refine rc T 5 (cb J lC (λlC=>?_) (λlC=>?_))
  ·refine rc T 5 (kr (nz.R bk 173 [(pp b7),(ll dQ x3 n13),(uu s.count.bK),(uu s.count.bL),(uu s.count.bH),(uu s.count.bG),(uu aN)] []) [] [7] J K1 lC (nz.c (pre_count:=[(pp b7),(ll dQ x3 n13),(uu s.count.bK),(uu s.count.bL),(uu s.count.bH),(uu s.count.bG),(uu aN)]) (post_count:=[]) ·) (λdC lC=>?_));rintro _ _ ⟨rfl,rfl⟩;refine fz J (ro T 2 (am _ [0,0,0,0,0,0,0,0] (oi lC) J J))
  refine rc T 2 (am _ [0,0,0,0,0,0,0,0] (oi lC) J J)
 rintro _ aT rfl H;refine rc T 6 (kr (nz.R bk 173 [(pp b7),(ll dQ x3 n13),(uu s.count.bK),(uu s.count.bL)] [(uu s.count.bG),(uu aN),(uu aT)]) [] [7] J K1 H (nz.c (pre_count:=[(pp b7),(ll dQ x3 n13),(uu s.count.bK),(uu s.count.bL)]) (post_count:=[(uu s.count.bG),(uu aN),(uu aT)]) ·) (λcP H=>?_));rintro _ _ ⟨rfl,rfl⟩;refine fz J (ro T 4 (lm T 5 J (ro T 1 (kr pa.R [] [] J aer H (pa.c · (rO eB 0) fI (rO dt 0) gn) (λv17 H=>?_)))));rintro _ _ ⟨a31,n31,Cr,a32,n32,JM,AD,AE,rfl,rfl⟩;refine fz J (ro T 3 (nc T J (λb33=>sg T 10 J (ro T 4 (ke [3,5,12,17,18] [0,0,0,0,0,1,1,1,1,1] J J (fz J (rg [7] [0,0,0,0,0,0,0,0,0,0] mix (bU bT) (λhg pf=>ha T 5 [0,1,2] sz hg pf J (av 4 sz hg pf J (gA T 9 J J J J J J J) (ao 3 (kR tI.R [] [] J UW H (tI.c · (rO dt 0) gn) (λfq H=>?_))))))))))));rintro _ _ ⟨Gu,n34,vT,yV,rfl,rfl⟩;refine fz J (an (so [0,0,0,0,0,0,0,0,0,0]) (ha T 1 [5,6] (so [0,0,0,0,0,0,0,0,0,0]) hg pf J (ao 7 (Nq (j:=4) J dF c7 (λ_ _ A4 Xn BR=>?_)))));obtain⟨a35,n35,JO,A',n36,A3,a37,n37,Gh,Mj,D8,D9,rfl,rfl⟩:=Xn;refine Nt (Nr T 4 0 [(ii version),(ll Gu fq n34),(ll a31 v17.1.fi n31),(ll a32 v17.1.cJ n32)] J J J J J J BR Bn J J J J (λMV BS=>an sl (ae (rx T 3 (lm T 9 J (kr uS.R [] [] J UU H (uS.c · (oO AD 7) AD.ck (oO AE 8) AE.ck) (λpg H=>?_)))))));rintro _ _ ⟨a40,n40,MW,a41,n41,Gi,FP,AF,rfl,rfl⟩;refine fz J (sg T 5 J (ro T 2 (gM [10,7,7] J (Np (j:=4) (q:=13) (rh.mk version fq v17.1) J BS J J ⟨Gu,n34,vT,a31,n31,Cr,a32,n32,JM,yV,AD,AE,J,J⟩ (λgR uH=>kg [12,13] [0,0,0,0,0,0,5,5] [0,0,0,0,0,0,5,5,0] [] [(cl bk 173 [(pp b7),(ll dQ (aG x3 (ax v2.1) (rh.mk version fq v17.1)) n13),(uu s.count.bK),(uu s.count.bL),(uu cP),(uu s.count.bG),(uu aN),(uu aT)])] J J trivial dP (rx T 2 ?_))))))
 cases H;refine gM [8,1,1,1,1] J (pb T J (.c_ (j:=1) [(ll a40 pg.fi n40),(ll a41 pg.cJ n41)] J J J J J J J (.tmp J .nil)) [2,2,2,0] ⟨(_,_),a40,n40,MW,a41,n41,Gi,(bo [(cl bk 173 [(pp b7),(ll dQ (aG x3 (ax v2.1) (rh.mk version fq v17.1)) n13),(uu s.count.bK),(uu s.count.bL),(uu cP),(uu s.count.bG),(uu aN),(uu aT)]),(cl b7 238 [(ii v2.2.2.2.k),(ll dG v2.2.2.2.aw n11),(.map (some a12)),(ii v2.2.2.2.cO),(ii v2.2.2.2.dz)]),cM,dL,gR]),FP,AF,(show tV (jJ.mk v2.2.2.2 (aG x3 (ax v2.1) (rh.mk version fq v17.1)) (gD.mk s.count.bK s.count.bL cP s.count.bG aN aT)) bk (bo [(cl bk 173 [(pp b7),(ll dQ (aG x3 (ax v2.1) (rh.mk version fq v17.1)) n13),(uu s.count.bK),(uu s.count.bL),(uu cP),(uu s.count.bG),(uu aN),(uu aT)]),(cl b7 238 [(ii v2.2.2.2.k),(ll dG v2.2.2.2.aw n11),(.map (some a12)),(ii v2.2.2.2.cO),(ii v2.2.2.2.dz)]),cM,dL,gR]) from⟨b7,dG,n11,cM,a12,dL,dQ,n13,gR,dr,dS,uH,J⟩),J,J⟩ J J)
def FY.f (s:jJ):Option gD:=some s.count
theorem FY.c (H:FY.f s=some r) (dg:tV s bk eI):
 QU 80 [(pp bk)] [eI] F (.agg #[(uu r.bK),(uu r.bL),(uu r.bH),(uu r.bG),(uu r.bR),(uu r.bM)]):=by
 unfold FY.f at H;refine aH Tryz.func80 J J (λW=>rc T 2 (nc T J (λb2=>ro T 9 (fj J (rc T 3 ?_)))));obtain⟨b4,a5,n5,H5,a6,H6,a7,n7,H7,s5,s6,s7,dI⟩:=(λx=>x) dg;refine bY 0 (congrArg some dI) (fz J (rc T 4 (lm T 2 J (sg T 1 J (ro T 3 ?_)))))
 cases H;refine dH [2,2,2,2,2] J dI (pb T J (.c_ (j:=1) [(uu s.count.bK),(uu s.count.bL),(uu s.count.bH),(uu s.count.bG),(uu s.count.bR),(uu s.count.bM)] J J J J J J J .nil) [2,0] () J J)
end
noncomputable section
def yL.f (ai:Int):Option (Option cw):=if ai<1 then(some none) else((yX.f ai).bind λv1=>dA v1 (none) (λeY=>some (some (cw.mk none eY (gD.mk 0 0 0 0 0 0)))))
def yL.R (r:(Option cw)):bm:=λu G=> ∃(u0:Value) (G0:List Hp),ZN r u0 G0/\u=u0/\G=G0
theorem yL.c (H:yL.f ai=some r):
 QR 51 [(ii ai)] [] [] F (yL.R r):=by
 unfold yL.f at H;refine aH Tryz.func51 J J (λW=>rc T 12 (cd J H (λH=>?_) (λH=>?_)))
 ·refine rc T 7 ?_
  cases H;exact p1 T J [0] ⟨_,_,⟨J,J⟩,J,J⟩ J
 refine rc T 5 (kr yX.R [] [] J afH H (yX.c ·) (λv1 H=>?_));rintro _ _ ⟨_,_,O3,rfl,rfl⟩;rcases v1 with _ |eY
 ·replace H:=fx J H
  cases H
 replace H:=fy J H;obtain⟨b1,H1,s1,rfl,rfl⟩:=O3;refine ro T 1 (nc T J (λb2=>fz J (ro T 4 ?_)))
 cases H;refine aq J (gq [2,1,1] J (p1 T J [1,0] ⟨_,_,⟨b2,(bo [(cl b2 135 [(.pointer none),(.pointer none),(.pointer none),(pp b1),(uu 0),(uu 0),(uu 0),(uu 0),(uu 0),(uu 0)]),H1,[]]),(show ie (cw.mk none eY (gD.mk 0 0 0 0 0 0)) b2 (bo [(cl b2 135 [(.pointer none),(.pointer none),(.pointer none),(pp b1),(uu 0),(uu 0),(uu 0),(uu 0),(uu 0),(uu 0)]),H1,[]]) from⟨b1,H1,(.pointer none),(.pointer none),(.pointer none),[],s1,(show vY none (.pointer none) (.pointer none) (.pointer none) [] from⟨J,J,J,J⟩),J⟩),J,J⟩,J,J⟩ J))
def uA.f (n:cw) (cell:Int):Option Int:=dA n.core (none) (λx1=>(jq.f x1.ay cell).bind λv2=>some v2)
theorem uA.c (H:uA.f n cell=some r) (ju:ie n dq jy):
 QU 113 [(pp dq),(ii cell)] [jy] F (ii r):=by
 unfold uA.f at H;refine aH Tryz.func113 J J (λW=>rc T 12 (fj J (rc T 3 ?_)));obtain⟨b3,H3,vP,Rg,Rh,H4,s3,s4,cL⟩:=(λx=>x) ju;refine bY 0 (congrArg some cL) (fz J ?_);rcases q1:n.core with _ |x1
 ·replace H:=fx q1 H
  cases H
 replace H:=fy q1 H;rw[q1] at s4;obtain⟨b6,H6,b7,H7,b8,H8,s6,s7,s8,rfl,rfl,rfl,yg⟩:=s4;refine bY 3 (congrArg some yg) (fz J (rc T 4 (lf T 1 J (ro T 1 (k [3] J wI H (jq.c · s6) (λv2 H=>ro T 4 ?_))))))
 cases H;refine cq [3,3,3] J yg (cq [1,1,1] J cL (p0 T J [1,0] J))
def Ap.f (n:cw):Option gD:=dA n.core ((ID.f).bind λv2=>(I1.f).bind λv3=>some (gD.mk v2 v3 0 0 0 0)) (λx1=>(IE.f x1.iQ x1.ay).bind λv4=>(I2.f x1.jo x1.iQ x1.ay).bind λv5=>some (gD.mk v4 v5 0 0 0 0))
theorem Ap.c (H:Ap.f n=some r) (ju:ie n dq jy):
 QU 79 [(pp dq)] [jy] F (.agg #[(uu r.bK),(uu r.bL),(uu r.bH),(uu r.bG),(uu r.bR),(uu r.bM)]):=by
 unfold Ap.f at H;refine aH Tryz.func79 J J (λW=>rc T 2 (nc T J (λb2=>fz J (ro T 3 ?_))));obtain⟨b4,H4,zj,F8,F9,H5,s4,s5,dI⟩:=(λx=>x) ju;refine bY 0 (congrArg some dI) (fz J ?_);rcases q1:n.core with _ |x1
 ·replace H:=fx q1 H;rw[q1] at s5;obtain⟨rfl,rfl,rfl,rfl⟩:=s5;refine ks [0,2] J (fz J (rz [11] mix (bU bT) (λhg pf=>ha T 9 [0,1,2] sz hg pf J (al T 3 2 sz hg pf J J J (ha T 5 [5,6,7] sz hg pf J (al T 8 2 sz hg pf J J J (ao 4 (kh [] J Uy H (ID.c ·) (λv2 H=>an sz (ao 9 (kh [] J Uz H (I1.c ·) (λv3 H=>an sz (ha T 1 [10] sz hg pf J (ao 11 (jv T 1 J (an sl (ae (rx T 2 ?_))))))))))))))))))
  cases H;refine cq [2,2,2] J dI (pb T J (.c_ (j:=1) [(uu v2),(uu v3),(uu 0),(uu 0),(uu 0),(uu 0)] J J J J J J J .nil) [2,0] () J J)
 replace H:=fy q1 H;rw[q1] at s5;obtain⟨b7,H7,b8,H8,b9,H9,s7,s8,s9,rfl,rfl,rfl,pA⟩:=s5;refine bY 4 (congrArg some pA) (fz J (ks [0,2] J (fz J (rz [11] mix (bU bT) (λhg pf=>ha T 9 [0,1,2] sz hg pf J (al T 3 2 sz hg pf J J J (ha T 5 [5,6,7] sz hg pf J (al T 8 2 sz hg pf J J J (ao 4 (kh [5,4] J Uy H (IE.c · s8 s7) (λv4 H=>an sz (ao 9 (kh [6,5,4] J Uz H (I2.c · s9 s8 s7) (λv5 H=>an sz (ha T 1 [10] sz hg pf J (ao 11 (jv T 1 J (an sl (ae (rx T 2 ?_))))))))))))))))))))
 cases H;refine cq [4,4,4] J pA (cq [2,2,2] J dI (pb T J (.c_ (j:=1) [(uu v4),(uu v5),(uu 0),(uu 0),(uu 0),(uu 0)] J J J J J J J .nil) [2,0] () J J))
def yJ.f (n:cw) (m:aJ):Option (Int×cw):=(zD.f m).bind λv1=>if(!v1)=true then(some (6,n)) else((Ap.f n).bind λv2=>(nD.f n.aW v2).bind λv3=>dA n.core ((He.f).bind λv5=>(mC.f m v5).bind λv6=>dA v6 (none) (λzl=>(tq.f zl).bind λv7=>dA v7 (none) (λsE=>(uF.f sE zl).bind λv8=>dA v8 (none) (λGe=>(qv.f n.gd).bind λv9=>some (0,(cw.mk (some (d_.mk zl sE Ge)) v9 v3)))))) (λx4=>(pY.f x4.ay).bind λv10=>(mC.f m v10).bind λv11=>dA v11 (none) (λAZ=>(tq.f AZ).bind λv12=>dA v12 (none) (λJF=>(uF.f JF AZ).bind λiB=>dA iB (none) (λMP=>(qv.f n.gd).bind λeN=>some (0,(cw.mk (some (d_.mk AZ JF MP)) eN v3)))))))
def yJ.R (ue:Nat) (r:(Int×cw)):bm:=λu G=> ∃(H0:Hp),ie r.2 ue H0/\u=(ii r.1)/\G=[H0]
theorem yJ.c (H:yJ.f n m=some r) (ju:ie n dq jy) (rL:aU (Fl.int .u8) m.C oy F) (ud:aa m.C<=nX):
 QR 115 [(pp dq),(.agg #[(ii m.W),(ii m.H),(ll oy m.C nX)])] [jy] [] F (yJ.R dq r):=by
 unfold yJ.f at H;refine aH Tryz.func115 J J (λW=>rc T 2 (nc T J (λb2=>fz J (ro T 12 (fj J (rc T 2 (lm T 2 J (k [] J UH H (zD.c · (rO rL 1) ud) (λv1 H=>ro T 4 (cb J H (λH=>?_) (λH=>?_)))))))))))
 ·refine rc T 8 ?_
  cases H;exact p1 T J [0,0] ⟨jy,ju,J,J⟩ J
 refine rc T 4 ?_;obtain⟨b4,H4,zj,F8,F9,H5,s4,s5,dI⟩:=(λx=>x) ju;refine bY 0 (congrArg some dI) (fz J (ks [0,3] J (fz J (rz [10] mix (bU bT) (λhg pf=>ha T 7 [0,1,2,3] sz hg pf J (av 4 sz hg pf J (gA T 2 J J J J J J J) (ha T 5 [5] sz hg pf J (ao 6 ?_))))))));obtain⟨v2,V3,H⟩:=fY H;refine J' (As:=[(cl dq 135 [zj,F8,F9,(pp b4),(uu n.aW.bK),(uu n.aW.bL),(uu n.aW.bH),(uu n.aW.bG),(uu n.aW.bR),(uu n.aW.bM)]),H4,H5]) [2,2,2] J J J J Vp J J (Km (A:=[jy]) (by simp only[dI,wa,v_,wb,oq,pn]) (Ap.c V3 ju)) (an sz (ao 7 (kh [] J O7 H (nD.c ·) (λv3 H=>an sz (ha T 1 [8,9] sz hg pf J (ao 10 (jv T 2 J (an sl (ae (rx T 2 ?_))))))))))
 rcases q5:n.core with _ |x4
 ·replace H:=fx q5 H;rw[q5] at s5;obtain⟨rfl,rfl,rfl,rfl⟩:=s5;refine ks [0,3] J (fz J (rq [10] [0,0,0,0,0] J mix (bU bT) (λhg pf=>ha T 10 [0] sz hg pf J (av 1 sz hg pf J (gA T 1 J J J J J J J) (ha T 6 [2,3,4] sz hg pf J (al T 5 2 sz hg pf J J J (ao 6 (kh [] J C7 H (He.c ·) (λv5 H=>an sz (ao 7 (kR mC.R [] [] J UI H (mC.c · (rO rL 0) ud) (λv6 H=>?_))))))))))));rintro _ _ ⟨_,_,O8,rfl,rfl⟩;rcases v6 with _ |zl
  ·replace H:=fx J H
   cases H
  replace H:=fy J H;obtain⟨gm,cu,bX,rfl,rfl⟩:=O8;refine an (so [0,0,0,0,0]) (ha T 1 [8,9] (so [0,0,0,0,0]) hg pf J (ao 10 (jv T 2 J (an sl (ae (rx T 7 (lf T 2 J (kr (tq.R gm) [5] [5] J UJ H (tq.c · bX) (λv7 H=>?_)))))))));rintro _ _ ⟨_,_,MZ,rfl,rfl⟩;rcases v7 with _ |sE
  ·replace H:=fx J H
   cases H
  replace H:=fy J H;obtain⟨j7,cM,dr,rfl,rfl⟩:=MZ;refine ro T 2 (ku T 2 J (ro T 3 (ke [0] [0,1,1,1,1,1] J J (fz J (rq [12] [0,0,0,0,0,0] J mix (bU bT) (λhg pf=>ha T 9 [0,1,2,3] sz hg pf J (al T 4 1 sz hg pf J J J (ha T 5 [5,6,7] sz hg pf J (al T 8 1 sz hg pf J J J (ao 9 (kR (uF.R j7 gm) [4,4] [4,4] J UK H (uF.c · dr bX) (λv8 H=>?_))))))))))));rintro _ _ ⟨_,_,ZD,rfl,rfl⟩;rcases v8 with _ |Ge
  ·replace H:=fx J H
   cases H
  replace H:=fy J H;obtain⟨lE,dL,dS,rfl,rfl⟩:=ZD;refine an (so [0,0,0,0,1,1]) (ha T 1 [10,11] (so [0,0,0,0,1,1]) hg pf J (ao 12 (jv T 1 J (an sl (ae (rx T 6 (lf T 1 J (kr (qv.R b4) [] [2] J OI H (qv.c · s4) (λv9 H=>?_)))))))));rintro _ _ ⟨fe,dF,rfl,rfl⟩;refine fz J (ro T 8 ?_)
  cases H;refine gq [5,4,3] J (gq [1,2,2] J (p1 T J [2,0] ⟨(bo [(cl dq 135 [(pp gm),(pp j7),(pp lE),(pp b4),(uu v3.bK),(uu v3.bL),(uu v3.bH),(uu v3.bG),(uu v3.bR),(uu v3.bM)]),fe,(bo [cu,cM,dL])]),(show ie (cw.mk (some (d_.mk zl sE Ge)) v9 v3) dq (bo [(cl dq 135 [(pp gm),(pp j7),(pp lE),(pp b4),(uu v3.bK),(uu v3.bL),(uu v3.bH),(uu v3.bG),(uu v3.bR),(uu v3.bM)]),fe,(bo [cu,cM,dL])]) from⟨b4,fe,(pp gm),(pp j7),(pp lE),(bo [cu,cM,dL]),dF,(show vY (some (d_.mk zl sE Ge)) (pp gm) (pp j7) (pp lE) (bo [cu,cM,dL]) from⟨gm,cu,j7,cM,lE,dL,bX,dr,dS,J,J,J,J⟩),J⟩),J,J⟩ J))
 replace H:=fy q5 H;rw[q5] at s5;obtain⟨b7,H7,b8,H8,b9,H9,s7,s8,s9,rfl,rfl,rfl,pA⟩:=s5;refine bY 4 (congrArg some pA) (fz J (ks [0,3] J (fz J (rq [10] [0,0,0,0,0,0,0] J mix (bU bT) (λhg pf=>ha T 10 [0] sz hg pf J (av 1 sz hg pf J (gA T 1 J J J J J J J) (ha T 6 [2,3,4] sz hg pf J (al T 5 2 sz hg pf J J J (ao 6 (kh [4] J C7 H (pY.c · s7) (λv10 H=>an sz (ao 7 (kR mC.R [] [] J UI H (mC.c · (rO rL 0) ud) (λv11 H=>?_))))))))))))));rintro _ _ ⟨_,_,ZE,rfl,rfl⟩;rcases v11 with _ |AZ
 ·replace H:=fx J H
  cases H
 replace H:=fy J H;obtain⟨pw,dT,eG,rfl,rfl⟩:=ZE;refine an (so [0,0,0,0,0,0,0]) (ha T 1 [8,9] (so [0,0,0,0,0,0,0]) hg pf J (ao 10 (jv T 2 J (an sl (ae (rx T 7 (lf T 2 J (kr (tq.R pw) [7] [7] J UJ H (tq.c · eG) (λv12 H=>?_)))))))));rintro _ _ ⟨_,_,ZF,rfl,rfl⟩;rcases v12 with _ |JF
 ·replace H:=fx J H
  cases H
 replace H:=fy J H;obtain⟨rE,gB,gw,rfl,rfl⟩:=ZF;refine ro T 2 (ku T 2 J (ro T 3 (ke [0] [0,1,1,1,1,1,1,1] J J (fz J (rq [12] [0,0,0,0,0,0,0,0] J mix (bU bT) (λhg pf=>ha T 9 [0,1,2,3] sz hg pf J (al T 4 1 sz hg pf J J J (ha T 5 [5,6,7] sz hg pf J (al T 8 1 sz hg pf J J J (ao 9 (kR (uF.R rE pw) [6,6] [6,6] J UK H (uF.c · gw eG) (λiB H=>?_))))))))))));rintro _ _ ⟨_,_,ZG,rfl,rfl⟩;rcases iB with _ |MP
 ·replace H:=fx J H
  cases H
 replace H:=fy J H;obtain⟨CL,eZ,fO,rfl,rfl⟩:=ZG;refine an (so [0,0,0,0,0,0,1,1]) (ha T 1 [10,11] (so [0,0,0,0,0,0,1,1]) hg pf J (ao 12 (jv T 1 J (an sl (ae (rx T 6 (lf T 1 J (kr (qv.R b4) [] [2] J OI H (qv.c · s4) (λeN H=>?_)))))))));rintro _ _ ⟨fE,fP,rfl,rfl⟩;refine fz J (ro T 8 ?_)
 cases H;refine gq [7,6,5] J (gq [1,4,4] J (p1 T J [4,0] ⟨(bo [(cl dq 135 [(pp pw),(pp rE),(pp CL),(pp b4),(uu v3.bK),(uu v3.bL),(uu v3.bH),(uu v3.bG),(uu v3.bR),(uu v3.bM)]),fE,(bo [dT,gB,eZ])]),(show ie (cw.mk (some (d_.mk AZ JF MP)) eN v3) dq (bo [(cl dq 135 [(pp pw),(pp rE),(pp CL),(pp b4),(uu v3.bK),(uu v3.bL),(uu v3.bH),(uu v3.bG),(uu v3.bR),(uu v3.bM)]),fE,(bo [dT,gB,eZ])]) from⟨b4,fE,(pp pw),(pp rE),(pp CL),(bo [dT,gB,eZ]),fP,(show vY (some (d_.mk AZ JF MP)) (pp pw) (pp rE) (pp CL) (bo [dT,gB,eZ]) from⟨pw,dT,rE,gB,CL,eZ,eG,gw,fO,J,J,J,J⟩),J⟩),J,J⟩ J))
def yI.f (n:cw):Option cw:=(qv.f n.gd).bind λv1=>dA n.core ((I3.f).bind λv3=>some (cw.mk none v1 n.aW)) (λx2=>(BO.f x2.jo x2.iQ x2.ay).bind λv4=>some (cw.mk (some (d_.mk x2.ay x2.iQ v4)) v1 n.aW))
def yI.R (ue:Nat) (r:cw):bm:=λu G=> ∃(H0:Hp),ie r ue H0/\u=(.tuple #[])/\G=[H0]
theorem yI.c (H:yI.f n=some r) (ju:ie n dq jy):
 QR 85 [(pp dq)] [jy] [] F (yI.R dq r):=by
 unfold yI.f at H;refine aH Tryz.func85 J J (λW=>rc T 6 (oA J (rc T 1 ?_)));obtain⟨b3,H3,vP,Rg,Rh,H4,s3,s4,cL⟩:=(λx=>x) ju;refine bY 0 (congrArg some cL) (fz J (rc T 4 (lf T 1 J (kr (qv.R b3) [] [2] J OI H (qv.c · s3) (λv1 H=>?_)))));rintro _ _ ⟨H5,s5,rfl,rfl⟩;refine fz J (ro T 2 ?_);rcases q2:n.core with _ |x2
 ·replace H:=fx q2 H;rw[q2] at s4;obtain⟨rfl,rfl,rfl,rfl⟩:=s4;refine rc T 4 (lf T 1 J (k [] J UB H (I3.c ·) (λv3 H=>ro T 1 (jB ?_))))
  cases H;refine aq J (gq [1,2,2] J (p1 T J [2,0] ⟨(bo [(cl dq 135 [(.pointer none),(.pointer none),(.pointer none),(pp b3),(uu n.aW.bK),(uu n.aW.bL),(uu n.aW.bH),(uu n.aW.bG),(uu n.aW.bR),(uu n.aW.bM)]),H5,[]]),(show ie (cw.mk none v1 n.aW) dq (bo [(cl dq 135 [(.pointer none),(.pointer none),(.pointer none),(pp b3),(uu n.aW.bK),(uu n.aW.bL),(uu n.aW.bH),(uu n.aW.bG),(uu n.aW.bR),(uu n.aW.bM)]),H5,[]]) from⟨b3,H5,(.pointer none),(.pointer none),(.pointer none),[],s5,(show vY none (.pointer none) (.pointer none) (.pointer none) [] from⟨J,J,J,J⟩),J⟩),J,J⟩ J))
 replace H:=fy q2 H;rw[q2] at s4;obtain⟨b7,H7,b8,H8,b9,H9,s7,s8,s9,rfl,rfl,rfl,pA⟩:=s4;refine bY 2 (congrArg some pA) (fz J (rc T 4 (lf T 1 J (kr (BO.R b9 b8 b7) [4,3] [5,4,3] J UB H (BO.c · s9 s8 s7) (λv4 H=>?_)))));rintro _ _ ⟨cM,dr,rfl,rfl⟩;refine fz J (ro T 1 (jB ?_))
 cases H;refine gq [5,4,3] J (gq [1,1,1] J (p1 T J [1,0] ⟨(bo [(cl dq 135 [(pp b7),(pp b8),(pp b9),(pp b3),(uu n.aW.bK),(uu n.aW.bL),(uu n.aW.bH),(uu n.aW.bG),(uu n.aW.bR),(uu n.aW.bM)]),H5,(bo [H7,H8,cM])]),(show ie (cw.mk (some (d_.mk x2.ay x2.iQ v4)) v1 n.aW) dq (bo [(cl dq 135 [(pp b7),(pp b8),(pp b9),(pp b3),(uu n.aW.bK),(uu n.aW.bL),(uu n.aW.bH),(uu n.aW.bG),(uu n.aW.bR),(uu n.aW.bM)]),H5,(bo [H7,H8,cM])]) from⟨b3,H5,(pp b7),(pp b8),(pp b9),(bo [H7,H8,cM]),s5,(show vY (some (d_.mk x2.ay x2.iQ v4)) (pp b7) (pp b8) (pp b9) (bo [H7,H8,cM]) from⟨b7,H7,b8,H8,b9,cM,s7,s8,dr,J,J,J,J⟩),J⟩),J,J⟩ J))
def yH.f (n:cw) (cell:Int) (cost:Int):Option (Int×cw):=dA n.core (none) (λx1=>(ye.f x1.ay cell cost).bind λv2=>some (v2.1,(cw.mk (some (d_.mk v2.2 x1.iQ x1.jo)) n.gd n.aW)))
def yH.R (ue:Nat) (r:(Int×cw)):bm:=λu G=> ∃(H0:Hp),ie r.2 ue H0/\u=(ii r.1)/\G=[H0]
theorem yH.c (H:yH.f n cell cost=some r) (ju:ie n dq jy):
 QR 120 [(pp dq),(ii cell),(ii cost)] [jy] [] F (yH.R dq r):=by
 unfold yH.f at H;refine aH Tryz.func120 J J (λW=>rc T 12 (fj J (rc T 3 ?_)));obtain⟨b3,H3,vP,Rg,Rh,H4,s3,s4,cL⟩:=(λx=>x) ju;refine bY 0 (congrArg some cL) (fz J ?_);rcases q1:n.core with _ |x1
 ·replace H:=fx q1 H
  cases H
 replace H:=fy q1 H;rw[q1] at s4;obtain⟨b6,H6,b7,H7,b8,H8,s6,s7,s8,rfl,rfl,rfl,yg⟩:=s4;refine bY 3 (congrArg some yg) (fz J (rc T 4 (lf T 1 J (ro T 2 (kr (ye.R b6) [] [3] J aea H (ye.c · s6) (λv2 H=>?_))))));rintro _ _ ⟨H9,s9,rfl,rfl⟩;refine fz J (ro T 4 ?_)
 cases H;refine gq [5,3,3] J (gq [1,1,1] J (p1 T J [1,0] ⟨(bo [(cl dq 135 [(pp b6),(pp b7),(pp b8),(pp b3),(uu n.aW.bK),(uu n.aW.bL),(uu n.aW.bH),(uu n.aW.bG),(uu n.aW.bR),(uu n.aW.bM)]),H3,(bo [H9,H7,H8])]),(show ie (cw.mk (some (d_.mk v2.2 x1.iQ x1.jo)) n.gd n.aW) dq (bo [(cl dq 135 [(pp b6),(pp b7),(pp b8),(pp b3),(uu n.aW.bK),(uu n.aW.bL),(uu n.aW.bH),(uu n.aW.bG),(uu n.aW.bR),(uu n.aW.bM)]),H3,(bo [H9,H7,H8])]) from⟨b3,H3,(pp b6),(pp b7),(pp b8),(bo [H9,H7,H8]),s3,(show vY (some (d_.mk v2.2 x1.iQ x1.jo)) (pp b6) (pp b7) (pp b8) (bo [H9,H7,H8]) from⟨b6,H9,b7,H7,b8,H8,s9,s7,s8,J,J,J,J⟩),J⟩),J,J⟩ J))
def Ao.f (n:cw):Option (Int×Int):=dA n.core (none) (λx1=>(iY.f x1.ay).bind λv2=>some (v2.1,v2.2))
theorem Ao.c (H:Ao.f n=some r) (ju:ie n dq jy):
 QU 164 [(pp dq)] [jy] F (.tuple #[(ii r.1),(ii r.2)]):=by
 unfold Ao.f at H;refine aH Tryz.func164 J J (λW=>rc T 13 (fj J (rc T 3 ?_)));obtain⟨b3,H3,vP,Rg,Rh,H4,s3,s4,cL⟩:=(λx=>x) ju;refine bY 0 (congrArg some cL) (fz J ?_);rcases q1:n.core with _ |x1
 ·replace H:=fx q1 H
  cases H
 replace H:=fy q1 H;rw[q1] at s4;obtain⟨b6,H6,b7,H7,b8,H8,s6,s7,s8,rfl,rfl,rfl,yg⟩:=s4;refine bY 3 (congrArg some yg) (fz J (rc T 4 (lf T 1 J (k [3] J vk H (iY.c · s6) (λv2 H=>ro T 7 ?_)))))
 cases H;refine cq [3,3,3] J yg (cq [1,1,1] J cL (p0 T J [1,0] J))
def rY.f (n:cw) (goal:Int) (bI:Int):Option (gk×Er×cw):=(dA n.core (some true) (λx3=>some false)).bind λx1=>if x1=true then((some (Er.wrap 222 [goal] (Er.dW 2))).bind λx4=>some ((gk.mk [] []),x4,n)) else(dA n.core (none) (λx6=>(mB.f x6.ay bI).bind λv7=>(jq.f x6.ay goal).bind λv8=>if((v8==0)||(!v7.2))=true then((some (Er.wrap 222 [goal] (Er.dW 3))).bind λx9=>some ((gk.mk [] []),x9,n)) else((yU.f x6.jo goal x6.iQ x6.ay).bind λv11=>dA v11.1 ((BC.f x6.ay bI).bind λv12=>((qO.f x6.ay bI).bind λfq=>(ny.f n.gd goal bI fq v7.1 v12).bind λpg=>some (pg.1.fi,pg.1.cJ,pg.2.1,pg.2.2)).bind λ(aT,bd,cE,ez)=>if(cE !=0)=true then((some (Er.wrap 222 [goal] (Er.dW 4))).bind λeO=>some ((gk.mk [] []),eO,(cw.mk (some (d_.mk x6.ay v11.2.2 v11.2.1)) ez n.aW))) else(some ((gk.mk aT bd),Er.nil,(cw.mk (some (d_.mk x6.ay v11.2.2 v11.2.1)) ez n.aW)))) (λAZ=>(iP.f x6.ay AZ bI).bind λv25=>((qO.f x6.ay bI).bind λv31=>(ny.f n.gd goal bI v31 v7.1 v25).bind λv32=>some (v32.1.fi,v32.1.cJ,v32.2.1,v32.2.2)).bind λ(kA,mQ,oh,jw)=>if(oh !=0)=true then((some (Er.wrap 222 [goal] (Er.dW 4))).bind λxH=>some ((gk.mk [] []),xH,(cw.mk (some (d_.mk x6.ay v11.2.2 v11.2.1)) jw n.aW))) else(some ((gk.mk kA mQ),Er.nil,(cw.mk (some (d_.mk x6.ay v11.2.2 v11.2.1)) jw n.aW)))))))
def rY.R (el:Nat->Addr) (ue:Nat) (r:(gk×Er×cw)):bm:=λu G=> ∃(a0 n0 H0:_) (a1 n1 H1:_) (v2:Value) (H2:Hp) (H3:Hp),ak (Fl.int .i64) 3 r.1.fi a0 n0 H0/\ak (Fl.int .i64) 3 r.1.cJ a1 n1 H1/\gz 414 el r.2.1 v2 H2/\ie r.2.2 ue H3/\u=(.tuple #[(.agg #[(ll a0 r.1.fi n0),(ll a1 r.1.cJ n1)]),v2])/\G=[H0,H1,H2,H3]
theorem rY.c (H:rY.f n goal bI=some r) (hG:fR 414 fk gZ el F) (ju:ie n dq jy):
 QR 100 [(pp dq),(ii goal),(ii bI)] [jy] [] F (rY.R el dq r):=by
 unfold rY.f at H;refine aH Tryz.func100 J J (λW=>rc T 2 (nc T J (λb2=>fz J (ro T 4 (mq H [0,1,2,6] [1,0,0] (λz2 (x1:Bool)=>(x1=z2,[(21,(bb x1))],[])) J J (λz2 Z1 _=>?_) ?_)))))
 ·obtain⟨b4,H4,zj,F8,F9,H5,s4,s5,dI⟩:=(λx=>x) ju;refine bY 0 (congrArg some dI) (fz J ?_);rcases q2:n.core with _ |x3
  ·replace Z1:=fx q2 Z1;rw[q2] at s5;obtain⟨rfl,rfl,rfl,rfl⟩:=s5;refine rc T 7 (lf T 2 J (ro T 4 (cq [2,2,2] J dI (am _ [0,1,0] (oi Z1) J J))))
  replace Z1:=fy q2 Z1;rw[q2] at s5;obtain⟨b7,H7,b8,H8,b9,H9,s7,s8,s9,rfl,rfl,rfl,pA⟩:=s5;refine bY 4 (congrArg some pA) (fz J (rc T 7 (lf T 2 J (ro T 4 (cq [4,4,4] J pA (cq [2,2,2] J dI (am _ [0,1,0] (oi Z1) J J)))))))
 rintro _ x1 rfl H;refine cb J H (λH=>?_) (λH=>?_)
 ·refine mq H [6] [0,1,0] (λz5 (⟨x4,ME,cu⟩:Er×Value×Hp)=>(x4=z5/\gz 414 el x4 ME cu,[(7,ME)],[cu])) J J (λz5 Z4 _=>?_) ?_
  ·refine fz J (rz [] mix (bU bT) (λhg pf=>ha T 6 [0,1] sz hg pf J (av 2 sz hg pf J (cS T J J J J (tm (j:=0) J hG (g:=2) (by decide))) (ha T 4 [3] sz hg pf J (gV 4 6 ?_ ?_)))))
   ·refine nw T J (λj7=>fz J (an (so [0,0,0]) (gV 5 6 ?_ ?_)))
    ·refine aq J (gq [3,3] J (l8 J (iG T J J J J) (an (so [0,0,0]) (ao 6 (jv T 2 J (an (so [0,0,0]) (ha T 0 [7] (so [0,0,0]) hg pf J (ae (rx T 1 (am (_,_,_) [0,1,0,0] ⟨oi Z4,(qL py)⟩ J J))))))))))
    refine jv T 2 J (an (so [0,0,0]) (ao 5 (aq J (gq [3,3] J (l8 J (iG T J J J J) (an (so [0,0,0]) (ha T 0 [7] (so [0,0,0]) hg pf J (ae (rx T 1 (am (_,_,_) [0,1,0,0] ⟨oi Z4,(qL py)⟩ J J))))))))))
   refine jv T 2 J (an sz (ao 4 (nw T J (λrE=>fz J (an (so [0,0,0]) (ao 5 (aq J (gq [3,3] J (l8 J (iG T J J J J) (an (so [0,0,0]) (ha T 0 [7] (so [0,0,0]) hg pf J (ae (rx T 1 (am (_,_,_) [0,1,0,0] ⟨oi Z4,(qL py)⟩ J J))))))))))))))
  rintro _ ⟨x4,ME,cu⟩ ⟨rfl,bX⟩ H;refine rc T 2 ?_
  cases H;refine aq J (aq J (pb T J (.c_ (j:=1) [nl,nl] J J J J J J J (.tmp J .nil)) [4,4,3,2,0] ⟨(_,_),none,0,[],none,0,[],ME,cu,jy,ak.nil,ak.nil,bX,ju,J,J⟩ J J))
 refine rc T 3 ?_;obtain⟨lF,nI,alO,alP,alQ,j5,jd,iA,Ug⟩:=(λx=>x) ju;refine bY 1 (congrArg some Ug) (fz J ?_);rcases q5:n.core with _ |x6
 ·replace H:=fx q5 H
  cases H
 replace H:=fy q5 H;rw[q5] at iA;obtain⟨lG,iD,lH,pM,mr,Gg,jW,oX,xm,rfl,rfl,rfl,Um⟩:=iA;refine bY 4 (congrArg some Um) (fz J (rc T 4 (lf T 2 J (ro T 1 (kr mB.R [4] [4] J UE H (mB.c · jW) (λv7 H=>?_))))));rintro _ _ ⟨a28,n28,vS,kL,rfl,rfl⟩;refine fz J (ro T 3 (nc T J (λBb=>fz J (ku T 8 J (ro T 9 (lf T 2 J (ro T 1 (k [7] J wI H (jq.c · jW) (λv8 H=>ro T 2 (go T [8,9,10] 44 [0,1,2,6,8] 47 J J J J J J J (ro T 2 (cb J H (λH=>?_) (λH=>?_)))))))))))))
 ·refine mq H [6] [0,0,0,4,1,1,0] (λmS (⟨x9,MG,sH⟩:Er×Value×Hp)=>(x9=mS/\gz 414 el x9 MG sH,[(7,MG)],[sH])) J J (λmS Z9 _=>?_) ?_
  ·refine ke [1,6] [0,0,0,0,0,0,1] J J (fz J (rz [] mix (bU bT) (λhg pf=>ha T 6 [0,1] sz hg pf J (av 2 sz hg pf J (cS T J J J J (tm (j:=0) J hG (g:=3) (by decide))) (ha T 4 [3] sz hg pf J (gV 4 6 ?_ ?_))))))
   ·refine nw T J (λb31=>fz J (an (so [0,0,0,0,0,0,0]) (gV 5 6 ?_ ?_)))
    ·refine aq J (gq [7,7] J (l8 J (iG T J J J J) (an (so [0,0,0,0,0,0,0]) (ao 6 (jv T 1 J (an (so [0,0,0,0,0,0,0]) (ha T 0 [7] (so [0,0,0,0,0,0,0]) hg pf J (ae (rx T 1 (am (_,_,_) [0,0,0,3,1,1,0,0] ⟨oi Z9,(qL py)⟩ J J))))))))))
    refine jv T 1 J (an (so [0,0,0,0,0,0,0]) (ao 5 (aq J (gq [7,7] J (l8 J (iG T J J J J) (an (so [0,0,0,0,0,0,0]) (ha T 0 [7] (so [0,0,0,0,0,0,0]) hg pf J (ae (rx T 1 (am (_,_,_) [0,0,0,3,1,1,0,0] ⟨oi Z9,(qL py)⟩ J J))))))))))
   refine jv T 1 J (an sz (ao 4 (nw T J (λb36=>fz J (an (so [0,0,0,0,0,0,0]) (ao 5 (aq J (gq [7,7] J (l8 J (iG T J J J J) (an (so [0,0,0,0,0,0,0]) (ha T 0 [7] (so [0,0,0,0,0,0,0]) hg pf J (ae (rx T 1 (am (_,_,_) [0,0,0,3,1,1,0,0] ⟨oi Z9,(qL py)⟩ J J))))))))))))))
  rintro _ ⟨x9,MG,sH⟩ ⟨rfl,qo⟩ H;refine rc T 2 ?_
  cases H;refine cq [3,3,3] J Um (cq [2,2,3] J Ug (aq J (aq J (pb T J (.c_ (j:=1) [nl,nl] J J J J J J J (.tmp J .nil)) [4,4,2,2,0] ⟨(_,_),none,0,[],none,0,[],MG,sH,jy,ak.nil,ak.nil,qo,ju,J,J⟩ J J))))
 refine rc T 3 (ks [0,1,2,6,8] J (fz J (rq [] [0,0,0,0,2,2,2] J mix (bU bT) (λhg pf=>ha T 10 [0,1,2] (so [0,0,0,0,2,2,2]) hg pf J (al T 3 2 (so [0,0,0,0,2,2,2]) hg pf J J J (ha T 6 [4,5,6] (so [0,0,0,0,2,2,2]) hg pf J (al T 7 2 (so [0,0,0,0,2,2,2]) hg pf J J J (ha T 3 [8,10] (so [0,0,0,0,2,2,2]) hg pf J (ao 9 (kR (yU.R mr lH lG lH lG) [7] [5,4,5] J ad8 H (yU.c · xm oX jW) (λv11 H=>?_)))))))))));rintro _ _ ⟨alM,lZ,gR,JV,uH,rfl,rfl⟩;refine fz J ?_;rcases Ly:v11.1 with _ |AZ
 ·replace H:=fx Ly H;rw[Ly] at JV;obtain⟨rfl,D_⟩:=JV;refine an (so [0,0,0,0,0,3,0]) (ao 11 (kR BC.R [8] [8] J UF H (BC.c · jW) (λv12 H=>?_)));rintro _ _ ⟨a54,n54,H54,FR,rfl,rfl⟩;refine fz J (an (so [0,0,0,0,0,4,0]) (ha T 0 [12] (so [0,0,0,0,0,4,0]) hg pf J (ae (rx T 1 (mq H [1,6] [0,0,0,6,4,3] (λz17 (⟨aT,bd,cE,ez,Nx,Gw,IG,JP,Gx,n57,JQ,zq⟩:List Int×List Int×Int×jJ×Nat×Option Addr×Nat×Hp×Option Addr×Nat×Hp×Hp)=>((aT,bd,cE,ez)=z17/\ak (Fl.int .i64) 3 aT Gw IG JP/\ak (Fl.int .i64) 3 bd Gx n57 JQ/\tV ez lF zq,[(11,(pp Nx)),(12,(ii cE))],[(cl Nx 79 [(ll Gw aT IG),(ll Gx bd n57)]),JP,JQ,zq])) J J (λz17 cj _=>?_) ?_)))))
  ·refine ks [0,1,2,6,8,10] J (fz J (rz [14] mix (bU bT) (λhg pf=>ha T 18 [0,1,2] sz hg pf J (al T 3 2 sz hg pf J J J (ha T 12 [4,5,6,7,8] sz hg pf J (al T 9 2 sz hg pf J J J (ha T 10 [10] sz hg pf J (av 12 sz hg pf J (gA T 5 J J J J J J J) (ha T 8 [13] sz hg pf J (gV 11 18 ?_ ?_))))))))))
   ·refine kh [9] J C8 cj (qO.c · jW) (λfq cj=>an sz (gV 14 18 ?_ ?_))
    ·refine kR (ny.R lF) [] [3] J E_ cj (ny.c · jd (oO kL 3) kL.ck (oO FR 7) FR.ck) (λpg cj=>?_);rintro _ _ ⟨a59,n59,H59,a60,n60,H60,H61,s59,s60,s61,rfl,rfl⟩;refine fz J (an sl (hb T 15 sl hg pf J (hb T 16 sl hg pf J (hb T 17 sl hg pf J (ao 18 (nw T J (λb62=>fz J (an sl (ao 19 (jv T 12 J (an sl (hb T 20 sl hg pf J (ae (rx T 1 (am (_,_,_,_,_,_,_,_,_,_,_,_) [0,0,0,5,3,2,6,3,3,3] ⟨oi cj,s59,s60,s61⟩ J J)))))))))))))))
    refine nw T J (λb63=>fz J (an (so [0,0,0,0,0,0,0,0,0,0]) (ao 14 (kR (ny.R lF) [] [3] J E_ cj (ny.c · jd (oO kL 3) kL.ck (oO FR 7) FR.ck) (λv20 cj=>?_)))));rintro _ _ ⟨a64,n64,H64,a65,n65,H65,H66,s64,s65,s66,rfl,rfl⟩;refine fz J (an sl (hb T 15 sl hg pf J (hb T 16 sl hg pf J (hb T 17 sl hg pf J (ao 19 (jv T 9 J (an sl (hb T 20 sl hg pf J (ae (rx T 1 (am (_,_,_,_,_,_,_,_,_,_,_,_) [0,0,0,5,3,2,3,3,3,3] ⟨oi cj,s64,s65,s66⟩ J J)))))))))))
   refine nw T J (λb67=>fz J (an (so [0,0,0,0,0,0,0,0,0,0]) (ao 11 (kh [9] J C8 cj (qO.c · jW) (λv21 cj=>an (so [0,0,0,0,0,0,0,0,0,0]) (ao 14 (kR (ny.R lF) [] [3] J E_ cj (ny.c · jd (oO kL 3) kL.ck (oO FR 7) FR.ck) (λv22 cj=>?_))))))));rintro _ _ ⟨a68,n68,H68,a69,n69,H69,H70,s68,s69,s70,rfl,rfl⟩;refine fz J (an sl (hb T 15 sl hg pf J (hb T 16 sl hg pf J (hb T 17 sl hg pf J (ao 19 (jv T 9 J (an sl (hb T 20 sl hg pf J (ae (rx T 1 (am (_,_,_,_,_,_,_,_,_,_,_,_) [0,0,0,5,3,2,3,3,3,3] ⟨oi cj,s68,s69,s70⟩ J J)))))))))))
  rintro _ ⟨aT,bd,cE,ez,Nx,Gw,IG,JP,Gx,n57,JQ,zq⟩ ⟨rfl,s56,s57,Yt⟩ H;refine rc T 7 (cb J H (λH=>?_) (λH=>?_))
  ·refine mq H [6] [0,0,0,0,0,0,3] (λz24 (⟨eO,MI,JR⟩:Er×Value×Hp)=>(eO=z24/\gz 414 el eO MI JR,[(7,MI)],[JR])) J J (λz24 ua _=>?_) ?_
   ·refine fz J (rz [] mix (bU bT) (λhg pf=>ha T 6 [0,1] sz hg pf J (av 2 sz hg pf J (cS T J J J J (tm (j:=0) J hG (g:=4) (by decide))) (ha T 4 [3] sz hg pf J (gV 4 6 ?_ ?_)))))
    ·refine nw T J (λb72=>fz J (an (so [0,0,0,0,0,0,0,0,0,0]) (gV 5 6 ?_ ?_)))
     ·refine aq J (gq [10,10] J (l8 J (iG T J J J J) (an (so [0,0,0,0,0,0,0,0,0,0]) (ao 6 (jv T 1 J (an (so [0,0,0,0,0,0,0,0,0,0]) (ha T 0 [7] (so [0,0,0,0,0,0,0,0,0,0]) hg pf J (ae (rx T 1 (am (_,_,_) [0,0,0,0,0,0,3,3] ⟨oi ua,(qL py)⟩ J J))))))))))
     refine jv T 1 J (an (so [0,0,0,0,0,0,0,0,0,0]) (ao 5 (aq J (gq [10,10] J (l8 J (iG T J J J J) (an (so [0,0,0,0,0,0,0,0,0,0]) (ha T 0 [7] (so [0,0,0,0,0,0,0,0,0,0]) hg pf J (ae (rx T 1 (am (_,_,_) [0,0,0,0,0,0,3,3] ⟨oi ua,(qL py)⟩ J J))))))))))
    refine jv T 1 J (an sz (ao 4 (nw T J (λb77=>fz J (an (so [0,0,0,0,0,0,0,0,0,0]) (ao 5 (aq J (gq [10,10] J (l8 J (iG T J J J J) (an (so [0,0,0,0,0,0,0,0,0,0]) (ha T 0 [7] (so [0,0,0,0,0,0,0,0,0,0]) hg pf J (ae (rx T 1 (am (_,_,_) [0,0,0,0,0,0,3,3] ⟨oi ua,(qL py)⟩ J J))))))))))))))
   rintro _ ⟨eO,MI,JR⟩ ⟨rfl,s71⟩ H;refine rc T 2 ?_
   cases H;refine gq [3,3,3] J (gq [2,2,3] J (aq J (aq J (pb T J (.c_ (j:=1) [nl,nl] J J J J J J J (.tmp J .nil)) [4,4,2,2,0] ⟨(_,_),none,0,[],none,0,[],MI,JR,(bo [(cl dq 135 [(pp lG),(pp lH),(pp mr),(pp lF),(uu n.aW.bK),(uu n.aW.bL),(uu n.aW.bH),(uu n.aW.bG),(uu n.aW.bR),(uu n.aW.bM)]),zq,(bo [iD,gR,lZ])]),ak.nil,ak.nil,s71,(show ie (cw.mk (some (d_.mk x6.ay v11.2.2 v11.2.1)) ez n.aW) dq (bo [(cl dq 135 [(pp lG),(pp lH),(pp mr),(pp lF),(uu n.aW.bK),(uu n.aW.bL),(uu n.aW.bH),(uu n.aW.bG),(uu n.aW.bR),(uu n.aW.bM)]),zq,(bo [iD,gR,lZ])]) from⟨lF,zq,(pp lG),(pp lH),(pp mr),(bo [iD,gR,lZ]),Yt,(show vY (some (d_.mk x6.ay v11.2.2 v11.2.1)) (pp lG) (pp lH) (pp mr) (bo [iD,gR,lZ]) from⟨lG,iD,lH,gR,mr,lZ,jW,uH,D_,J,J,J,J⟩),J⟩),J,J⟩ J J))))
  refine rc T 4 (lm T 6 J (ku T 1 J (ro T 4 ?_)))
  cases H;refine gq [3,3,3] J (gq [2,5,5] J (aq J (pb T J (.c_ (j:=1) [(ll Gw aT IG),(ll Gx bd n57)] J J J J J J J (.tmp J .nil)) [3,3,4,3,0] ⟨(_,_),Gw,IG,JP,Gx,n57,JQ,.nilIface,[],(bo [(cl dq 135 [(pp lG),(pp lH),(pp mr),(pp lF),(uu n.aW.bK),(uu n.aW.bL),(uu n.aW.bH),(uu n.aW.bG),(uu n.aW.bR),(uu n.aW.bM)]),zq,(bo [iD,gR,lZ])]),s56,s57,vf,(show ie (cw.mk (some (d_.mk x6.ay v11.2.2 v11.2.1)) ez n.aW) dq (bo [(cl dq 135 [(pp lG),(pp lH),(pp mr),(pp lF),(uu n.aW.bK),(uu n.aW.bL),(uu n.aW.bH),(uu n.aW.bG),(uu n.aW.bR),(uu n.aW.bM)]),zq,(bo [iD,gR,lZ])]) from⟨lF,zq,(pp lG),(pp lH),(pp mr),(bo [iD,gR,lZ]),Yt,(show vY (some (d_.mk x6.ay v11.2.2 v11.2.1)) (pp lG) (pp lH) (pp mr) (bo [iD,gR,lZ]) from⟨lG,iD,lH,gR,mr,lZ,jW,uH,D_,J,J,J,J⟩),J⟩),J,J⟩ J J)))
 replace H:=fy Ly H;rw[Ly] at JV;obtain⟨xd,Sw,M6,n52,MX,FQ,rfl,Ui⟩:=JV;have Ys:u9 v11.2.1 mr lH lG lZ:=⟨(pp Sw),_,(by rw[xd];exact⟨Sw,M6,n52,MX,FQ,J,J⟩),Ui⟩
 obtain⟨Zw,Ow,Ot⟩:=agI Ui;refine bY 6 (congrArg some Ot) (fz J (bY 9 (congrArg some Ow) (fz J (an (so [0,0,0,0,0,2,0]) (ao 11 (kR iP.R [7,8,8] [7,8,8] J UF H (iP.c · jW FQ) (λv25 H=>?_)))))));rintro _ _ ⟨a85,n85,H85,FT,rfl,rfl⟩;refine fz J (an (so [0,0,0,0,0,4,0]) (ha T 0 [12] (so [0,0,0,0,0,4,0]) hg pf J (ae (rx T 1 (mq H [1,6] [0,0,0,6,3,3,4,4] (λZr (⟨kA,mQ,oh,jw,Nz,a87,IH,JS,Gy,II,JT,zs⟩:List Int×List Int×Int×jJ×Nat×Option Addr×Nat×Hp×Option Addr×Nat×Hp×Hp)=>((kA,mQ,oh,jw)=Zr/\ak (Fl.int .i64) 3 kA a87 IH JS/\ak (Fl.int .i64) 3 mQ Gy II JT/\tV jw lF zs,[(11,(pp Nz)),(12,(ii oh))],[(cl Nz 79 [(ll a87 kA IH),(ll Gy mQ II)]),JS,JT,zs])) J J (λZr gU _=>?_) ?_)))))
 ·refine ks [0,1,2,6,8,10] J (fz J (rz [14] mix (bU bT) (λhg pf=>ha T 18 [0,1,2] sz hg pf J (al T 3 2 sz hg pf J J J (ha T 12 [4,5,6,7,8] sz hg pf J (al T 9 2 sz hg pf J J J (ha T 10 [10] sz hg pf J (av 12 sz hg pf J (gA T 5 J J J J J J J) (ha T 8 [13] sz hg pf J (gV 11 18 ?_ ?_))))))))))
  ·refine kh [9] J C8 gU (qO.c · jW) (λv31 gU=>an sz (gV 14 18 ?_ ?_))
   ·refine kR (ny.R lF) [] [3] J E_ gU (ny.c · jd (oO kL 3) kL.ck (oO FT 7) FT.ck) (λv32 gU=>?_);rintro _ _ ⟨a90,n90,H90,a91,n91,H91,H92,s90,s91,s92,rfl,rfl⟩;refine fz J (an sl (hb T 15 sl hg pf J (hb T 16 sl hg pf J (hb T 17 sl hg pf J (ao 18 (nw T J (λb93=>fz J (an sl (ao 19 (jv T 14 J (an sl (hb T 20 sl hg pf J (ae (rx T 1 (am (_,_,_,_,_,_,_,_,_,_,_,_) [0,0,0,5,2,2,3,3,6,3,3,3] ⟨oi gU,s90,s91,s92⟩ J J)))))))))))))))
   refine nw T J (λb94=>fz J (an (so [0,0,0,0,0,0,0,0,0,0,0,0]) (ao 14 (kR (ny.R lF) [] [3] J E_ gU (ny.c · jd (oO kL 3) kL.ck (oO FT 7) FT.ck) (λv33 gU=>?_)))));rintro _ _ ⟨a95,n95,H95,a96,n96,H96,H97,s95,s96,s97,rfl,rfl⟩;refine fz J (an sl (hb T 15 sl hg pf J (hb T 16 sl hg pf J (hb T 17 sl hg pf J (ao 19 (jv T 11 J (an sl (hb T 20 sl hg pf J (ae (rx T 1 (am (_,_,_,_,_,_,_,_,_,_,_,_) [0,0,0,5,2,2,3,3,3,3,3,3] ⟨oi gU,s95,s96,s97⟩ J J)))))))))))
  refine nw T J (λb98=>fz J (an (so [0,0,0,0,0,0,0,0,0,0,0,0]) (ao 11 (kh [9] J C8 gU (qO.c · jW) (λRi gU=>an (so [0,0,0,0,0,0,0,0,0,0,0,0]) (ao 14 (kR (ny.R lF) [] [3] J E_ gU (ny.c · jd (oO kL 3) kL.ck (oO FT 7) FT.ck) (λv35 gU=>?_))))))));rintro _ _ ⟨a99,n99,H99,alg,n100,ald,ale,s99,ajx,ajy,rfl,rfl⟩;refine fz J (an sl (hb T 15 sl hg pf J (hb T 16 sl hg pf J (hb T 17 sl hg pf J (ao 19 (jv T 11 J (an sl (hb T 20 sl hg pf J (ae (rx T 1 (am (_,_,_,_,_,_,_,_,_,_,_,_) [0,0,0,5,2,2,3,3,3,3,3,3] ⟨oi gU,s99,ajx,ajy⟩ J J)))))))))))
 rintro _ ⟨kA,mQ,oh,jw,Nz,a87,IH,JS,Gy,II,JT,zs⟩ ⟨rfl,s87,s88,Yu⟩ H;refine rc T 7 (cb J H (λH=>?_) (λH=>?_))
 ·refine mq H [6] [0,0,0,0,0,0,0,0,3] (λz37 (⟨xH,MD,JL⟩:Er×Value×Hp)=>(xH=z37/\gz 414 el xH MD JL,[(7,MD)],[JL])) J J (λz37 M5 _=>?_) ?_
  ·refine fz J (rz [] mix (bU bT) (λhg pf=>ha T 6 [0,1] sz hg pf J (av 2 sz hg pf J (cS T J J J J (tm (j:=0) J hG (g:=4) (by decide))) (ha T 4 [3] sz hg pf J (gV 4 6 ?_ ?_)))))
   ·refine nw T J (λalh=>fz J (an (so [0,0,0,0,0,0,0,0,0,0,0,0]) (gV 5 6 ?_ ?_)))
    ·refine aq J (gq [12,12] J (l8 J (iG T J J J J) (an (so [0,0,0,0,0,0,0,0,0,0,0,0]) (ao 6 (jv T 1 J (an (so [0,0,0,0,0,0,0,0,0,0,0,0]) (ha T 0 [7] (so [0,0,0,0,0,0,0,0,0,0,0,0]) hg pf J (ae (rx T 1 (am (_,_,_) [0,0,0,0,0,0,0,0,3,3] ⟨oi M5,(qL py)⟩ J J))))))))))
    refine jv T 1 J (an (so [0,0,0,0,0,0,0,0,0,0,0,0]) (ao 5 (aq J (gq [12,12] J (l8 J (iG T J J J J) (an (so [0,0,0,0,0,0,0,0,0,0,0,0]) (ha T 0 [7] (so [0,0,0,0,0,0,0,0,0,0,0,0]) hg pf J (ae (rx T 1 (am (_,_,_) [0,0,0,0,0,0,0,0,3,3] ⟨oi M5,(qL py)⟩ J J))))))))))
   refine jv T 1 J (an sz (ao 4 (nw T J (λali=>fz J (an (so [0,0,0,0,0,0,0,0,0,0,0,0]) (ao 5 (aq J (gq [12,12] J (l8 J (iG T J J J J) (an (so [0,0,0,0,0,0,0,0,0,0,0,0]) (ha T 0 [7] (so [0,0,0,0,0,0,0,0,0,0,0,0]) hg pf J (ae (rx T 1 (am (_,_,_) [0,0,0,0,0,0,0,0,3,3] ⟨oi M5,(qL py)⟩ J J))))))))))))))
  rintro _ ⟨xH,MD,JL⟩ ⟨rfl,ajz⟩ H;refine rc T 2 ?_
  cases H;refine cq [6,6] J Ow (cq [5,7] J Ot (gq [3,3,5] J (gq [2,2,3] J (aq J (aq J (pb T J (.c_ (j:=1) [nl,nl] J J J J J J J (.tmp J .nil)) [4,4,2,2,0] ⟨(_,_),none,0,[],none,0,[],MD,JL,(bo [(cl dq 135 [(pp lG),(pp lH),(pp mr),(pp lF),(uu n.aW.bK),(uu n.aW.bL),(uu n.aW.bH),(uu n.aW.bG),(uu n.aW.bR),(uu n.aW.bM)]),zs,(bo [iD,gR,lZ])]),ak.nil,ak.nil,ajz,(show ie (cw.mk (some (d_.mk x6.ay v11.2.2 v11.2.1)) jw n.aW) dq (bo [(cl dq 135 [(pp lG),(pp lH),(pp mr),(pp lF),(uu n.aW.bK),(uu n.aW.bL),(uu n.aW.bH),(uu n.aW.bG),(uu n.aW.bR),(uu n.aW.bM)]),zs,(bo [iD,gR,lZ])]) from⟨lF,zs,(pp lG),(pp lH),(pp mr),(bo [iD,gR,lZ]),Yu,(show vY (some (d_.mk x6.ay v11.2.2 v11.2.1)) (pp lG) (pp lH) (pp mr) (bo [iD,gR,lZ]) from⟨lG,iD,lH,gR,mr,lZ,jW,uH,Ys,J,J,J,J⟩),J⟩),J,J⟩ J J))))))
 refine rc T 4 (lm T 8 J (ku T 1 J (ro T 4 ?_)))
 cases H;refine cq [6,6] J Ow (cq [5,9] J Ot (gq [3,3,7] J (gq [2,5,5] J (aq J (pb T J (.c_ (j:=1) [(ll a87 kA IH),(ll Gy mQ II)] J J J J J J J (.tmp J .nil)) [3,3,4,3,0] ⟨(_,_),a87,IH,JS,Gy,II,JT,.nilIface,[],(bo [(cl dq 135 [(pp lG),(pp lH),(pp mr),(pp lF),(uu n.aW.bK),(uu n.aW.bL),(uu n.aW.bH),(uu n.aW.bG),(uu n.aW.bR),(uu n.aW.bM)]),zs,(bo [iD,gR,lZ])]),s87,s88,vf,(show ie (cw.mk (some (d_.mk x6.ay v11.2.2 v11.2.1)) jw n.aW) dq (bo [(cl dq 135 [(pp lG),(pp lH),(pp mr),(pp lF),(uu n.aW.bK),(uu n.aW.bL),(uu n.aW.bH),(uu n.aW.bG),(uu n.aW.bR),(uu n.aW.bM)]),zs,(bo [iD,gR,lZ])]) from⟨lF,zs,(pp lG),(pp lH),(pp mr),(bo [iD,gR,lZ]),Yu,(show vY (some (d_.mk x6.ay v11.2.2 v11.2.1)) (pp lG) (pp lH) (pp mr) (bo [iD,gR,lZ]) from⟨lG,iD,lH,gR,mr,lZ,jW,uH,Ys,J,J,J,J⟩),J⟩),J,J⟩ J J)))))
def Aq.f (n:cw) (goal:Int) (cell:Int):Option (Int×Int×Er×cw):=(Ao.f n).bind λv1=>(gJ.f v1.1 v1.2 cell).bind λv2=>(rY.f n goal v2).bind λv3=>if(!(Er.isNil v3.2.1))=true then(some (0,0,v3.2.1,v3.2.2)) else((sx.f v1.1 v1.2 cell).bind λv4=>if(0<=v4/\v4<(aa v3.1.fi:Int)) then(if(0<=v4/\v4<(aa v3.1.cJ:Int)) then(some ((rd v3.1.fi v4),(rd v3.1.cJ v4),Er.nil,v3.2.2)) else none) else none)
def Aq.R (el:Nat->Addr) (ue:Nat) (r:(Int×Int×Er×cw)):bm:=λu G=> ∃(v0:Value) (H0:Hp) (H1:Hp),gz 414 el r.2.2.1 v0 H0/\ie r.2.2.2 ue H1/\u=(.tuple #[(ii r.1),(ii r.2.1),v0])/\G=[H0,H1]
theorem Aq.c (H:Aq.f n goal cell=some r) (hG:fR 414 fk gZ el F) (ju:ie n dq jy):
 QR 163 [(pp dq),(ii goal),(ii cell)] [jy] [] F (Aq.R el dq r):=by
 unfold Aq.f at H;refine aH Tryz.func163 J J (λW=>rc T 10 (k [0] J UQ H (Ao.c · ju) (λv1 H=>ro T 14 (k [] J tf H (gJ.c ·) (λv2 H=>kr (rY.R el dq) [] [0] J Uw H (rY.c · (dE hG (j:=0) J) ju) (λv3 H=>?_))))));rintro _ _ ⟨a2,n2,H2,a3,n3,H3,v4,H4,H5,s2,s3,s4,s5,rfl,rfl⟩;refine fz J (ro T 3 (nc T J (λb6=>fz J (ku T 5 J (ro T 7 (bz J (EY T J J J (sW s4 (j:=3) J)) (ro T 2 (cb J H (λH=>?_) (λH=>?_)))))))))
 ·refine rc T 10 ?_
  cases H;exact p1 T J [3,3,0] ⟨v4,H4,H5,s4,s5,J,J⟩ J
 refine rc T 7 (k [] J Hv H (sx.c ·) (λv4 H=>ro T 4 (dy mix aA (au T J (cB T 5 J J J (au T J ?_))))));obtain⟨c6,H⟩:=aF H;obtain⟨q7,o7,e7⟩:=s2.r.addr c6.1 c6.2;refine br J J J (cV T J J J J J e7 c6.1 c6.2) (br J J J (cS T J J J J (iu (k:=(Fl.int .i64)) (oO s2 1) e7 c6 0 J)) (au T J (cB T 5 J J J (au T J ?_))));obtain⟨c7,H⟩:=aF H;obtain⟨q8,o8,e8⟩:=s3.r.addr c7.1 c7.2;refine br J J J (cV T J J J J J e8 c7.1 c7.2) (br J J J (cS T J J J J (iu (k:=(Fl.int .i64)) (oO s3 2) e8 c7 0 J)) (au T J (au T J (au T J (cU (rx T 2 ?_))))))
 cases H;refine aq J (p1 T J [6,4,0] ⟨.nilIface,[],H5,vf,s5,J,J⟩ J)
def Au.f (err:Er):Option Int:=if(Er.isNil err)=true then(some 0) else((wA.f err (Er.dW 2)).bind λv1=>if v1=true then(some 4) else((wA.f err (Er.dW 3)).bind λv2=>if v2=true then(some 7) else(some 1)))
theorem Au.c (H:Au.f err=some r) (hG:fR 414 fk gZ el F) (ET:ml 414 el err Rj F):
 QU 101 [Rj] [] F (ii r):=by
 unfold Au.f at H;refine aH Tryz.func101 J J (λW=>rc T 10 (bz J (KG T J J J (G8 ET (j:=0) J)) (ro T 3 (cb J H (λH=>?_) (λH=>?_)))))
 ·refine rc T 8 ?_
  cases H;exact p0 T J [0] J
 refine rc T 3 (lg T J (tm (j:=0) J hG (g:=2) (by decide)) (k [] J K7 H (wA.c err (Er.dW 2) _ _ · (dE hG (j:=0) J) (G8 ET (j:=0) J) Ks) (λv1 H=>ro T 3 (cb J H (λH=>?_) (λH=>?_)))))
 ·refine rc T 8 ?_
  cases H;exact p0 T J [0] J
 refine rc T 3 (lg T J (tm (j:=0) J hG (g:=3) (by decide)) (k [] J K7 H (wA.c err (Er.dW 3) _ _ · (dE hG (j:=0) J) (G8 ET (j:=0) J) Ks) (λv2 H=>ro T 3 (cb J H (λH=>?_) (λH=>?_)))))
 ·refine rc T 8 ?_
  cases H;exact p0 T J [0] J
 refine rc T 9 ?_
 cases H;exact p0 T J [0] J
def yK.f (n:cw) (goal:Int) (cell:Int):Option (Int×Int×Int×cw):=(Aq.f n goal cell).bind λv1=>(Au.f v1.2.2.1).bind λv2=>some (v1.1,v1.2.1,v2,v1.2.2.2)
def yK.R (el:Nat->Addr) (ue:Nat) (r:(Int×Int×Int×cw)):bm:=λu G=> ∃(H0:Hp),ie r.2.2.2 ue H0/\u=(.tuple #[(ii r.1),(ii r.2.1),(ii r.2.2.1)])/\G=[H0]
theorem yK.c (H:yK.f n goal cell=some r) (hG:fR 414 fk gZ el F) (ju:ie n dq jy):
 QR 127 [(pp dq),(ii goal),(ii cell)] [jy] [] F (yK.R el dq r):=by
 unfold yK.f at H;refine aH Tryz.func127 J J (λW=>rc T 12 (kr (Aq.R el dq) [] [0] J aee H (Aq.c · (dE hG (j:=0) J) ju) (λv1 H=>?_)));rintro _ _ ⟨v2,H2,H3,s2,s3,rfl,rfl⟩;refine fz J (ro T 14 (k [] J Ux H (Au.c · (dE hG (j:=0) J) (sW s2 (j:=1) J)) (λv2 H=>ro T 6 ?_)))
 cases H;exact p1 T J [2,0] ⟨H3,s3,J,J⟩ J
def vA.f (n:cw) (goal:Int) (bI:Int):Option (gk×Int×cw):=(rY.f n goal bI).bind λv1=>(Au.f v1.2.1).bind λv2=>some (v1.1,v2,v1.2.2)
def vA.R (el:Nat->Addr) (ue:Nat) (r:(gk×Int×cw)):bm:=λu G=> ∃(a0 n0 H0:_) (a1 n1 H1:_) (H2:Hp),ak (Fl.int .i64) 3 r.1.fi a0 n0 H0/\ak (Fl.int .i64) 3 r.1.cJ a1 n1 H1/\ie r.2.2 ue H2/\u=(.tuple #[(.agg #[(ll a0 r.1.fi n0),(ll a1 r.1.cJ n1)]),(ii r.2.1)])/\G=[H0,H1,H2]
theorem vA.c (H:vA.f n goal bI=some r) (hG:fR 414 fk gZ el F) (ju:ie n dq jy):
 QR 68 [(pp dq),(ii goal),(ii bI)] [jy] [] F (vA.R el dq r):=by
 unfold vA.f at H;refine aH Tryz.func68 J J (λW=>rc T 2 (nc T J (λb2=>fz J (ro T 8 (kr (rY.R el dq) [] [0] J Uw H (rY.c · (dE hG (j:=0) J) ju) (λv1 H=>?_))))));rintro _ _ ⟨a3,n3,H3,a4,n4,H4,v5,H5,H6,s3,s4,s5,s6,rfl,rfl⟩;refine fz J (ro T 3 (nc T J (λb7=>fz J (ku T 6 J (ro T 4 (ks [6,8,9] J (fz J (rz [3] mix (bU bT) (λhg pf=>av 0 sz hg pf J (gA T 6 J J J J J J J) (ha T 3 [1] sz hg pf J (ao 2 (kh [] J Ux H (Au.c · (dE hG (j:=0) J) (sW s5 (j:=4) J)) (λv2 H=>an sz (ao 3 (jv T 1 J (an sl (hb T 4 sl hg pf J (ae (rx T 2 ?_)))))))))))))))))))
 cases H;exact pb T J (.c_ (j:=1) [(ll a3 v1.1.fi n3),(ll a4 v1.1.cJ n4)] J J J J J J J (.tmp J .nil)) [2,2,3,0] ⟨(_,_),a3,n3,H3,a4,n4,H4,H6,s3,s4,s6,J,J⟩ J J
def DL.f (n:cw):Option gD:=(Ap.f n).bind λv1=>(nD.f n.aW v1).bind λv2=>(FY.f n.gd).bind λv3=>(nD.f v2 v3).bind λv4=>some v4
theorem DL.c (H:DL.f n=some r) (ju:ie n dq jy):
 QU 52 [(pp dq)] [jy] F (.agg #[(uu r.bK),(uu r.bL),(uu r.bH),(uu r.bG),(uu r.bR),(uu r.bM)]):=by
 unfold DL.f at H;refine aH Tryz.func52 J J (λW=>rc T 2 (nc T J (λb2=>fz J (ro T 9 (fj J (rc T 3 ?_))))));obtain⟨b4,H4,zj,F8,F9,H5,s4,s5,dI⟩:=(λx=>x) ju;refine bY 0 (congrArg some dI) (fz J (ks [0,2] J (fz J (rz [13] mix (bU bT) (λhg pf=>ha T 11 [0,1,2] sz hg pf J (av 3 sz hg pf J (gA T 2 J J J J J J J) (ha T 6 [4,7,8,9] sz hg pf J (al T 10 2 sz hg pf J J J (ao 5 ?_)))))))));obtain⟨v1,V1,H⟩:=fY H;refine J' (As:=[(cl dq 135 [zj,F8,F9,(pp b4),(uu n.aW.bK),(uu n.aW.bL),(uu n.aW.bH),(uu n.aW.bG),(uu n.aW.bR),(uu n.aW.bM)]),H4,H5]) [2,2,2] J J J J Vp J J (Km (A:=[jy]) (by simp only[dI,wa,v_,wb,oq,pn]) (Ap.c V1 ju)) (an sz (ao 6 (kh [] J O7 H (nD.c ·) (λv2 H=>an sz (ao 11 (kh [3] J afI H (FY.c · s4) (λv3 H=>an sz (ao 12 (kh [] J O7 H (nD.c ·) (λv4 H=>an sz (ao 13 (jv T 1 J (an sl (ae (rx T 2 ?_)))))))))))))))
 cases H;refine cq [2,2,2] J dI (pb T J (.c_ (j:=1) [(uu r.bK),(uu r.bL),(uu r.bH),(uu r.bG),(uu r.bR),(uu r.bM)] J J J J J J J .nil) [2,0] () J J)
def w9.f (n:cw):Option aJ:=dA n.core ((Bo.f).bind λv2=>some v2) (λx1=>(yf.f x1.ay).bind λv3=>some v3)
def w9.R (r:aJ):bm:=λu G=> ∃a0 n0 H0,ak (Fl.int .u8) 5 r.C a0 n0 H0/\u=(.agg #[(ii r.W),(ii r.H),(ll a0 r.C n0)])/\G=[H0]
theorem w9.c (H:w9.f n=some r) (ju:ie n dq jy):
 QR 43 [(pp dq)] [jy] [jy] F (w9.R r):=by
 unfold w9.f at H;refine aH Tryz.func43 J J (λW=>rc T 2 (nc T J (λb2=>fz J (ro T 9 (fj J (rc T 3 ?_))))));obtain⟨b4,H4,zj,F8,F9,H5,s4,s5,dI⟩:=(λx=>x) ju;refine bY 0 (congrArg some dI) (fz J ?_);rcases q1:n.core with _ |x1
 ·replace H:=fx q1 H;rw[q1] at s5;obtain⟨rfl,rfl,rfl,rfl⟩:=s5;refine rc T 4 (lf T 2 J (kr Bo.R [] [] J Vo H (Bo.c ·) (λv2 H=>?_)));rintro _ _ ⟨cK,n10,cu,bX,rfl,rfl⟩;refine fz J (ku T 1 J (ro T 3 ?_))
  cases H;refine cq [2,2,2] J dI (pb T J (.c_ (j:=1) [(ii r.W),(ii r.H),(ll cK r.C n10)] J J J J J J J .nil) [2,2,0] ⟨(_,_),cK,n10,cu,bX,J,J⟩ J J)
 replace H:=fy q1 H;rw[q1] at s5;obtain⟨b7,H7,b8,H8,b9,H9,s7,s8,s9,rfl,rfl,rfl,pA⟩:=s5;refine bY 4 (congrArg some pA) (fz J (rc T 4 (lf T 2 J (kr yf.R [4] [4] J Vo H (yf.c · s7) (λv3 H=>?_)))));rintro _ _ ⟨dG,n11,cM,dr,rfl,rfl⟩;refine fz J (ku T 1 J (ro T 3 ?_))
 cases H;refine cq [7,4,4] J pA (cq [2,2,3] J dI (pb T J (.c_ (j:=1) [(ii r.W),(ii r.H),(ll dG r.C n11)] J J J J J J J .nil) [2,2,0] ⟨(_,_),dG,n11,cM,dr,J,J⟩ J J))
end
noncomputable section
def qk.f (kind:Int):Option (BI×Bool):=if(kind==1)=true then(some ((BI.mk 0 0 true),true)) else(if(kind==2)=true then(some ((BI.mk 4 1 false),true)) else((if(kind==3)=true then(some (kind==3)) else(if(kind==4)=true then(some (kind==4)) else(some (kind==6)))).bind λx1=>if x1=true then(some ((BI.mk 4 4 false),true)) else(if(kind==5)=true then(some ((BI.mk 4 0 false),true)) else((if(kind==7)=true then(some (kind==7)) else(some (kind==8))).bind λx3=>if x3=true then(some ((BI.mk 0 0 false),true)) else(some ((BI.mk 0 0 false),false))))))
theorem qk.c (H:qk.f kind=some r):
 QU 111 [(ii kind)] [] F (.tuple #[(.agg #[(ii r.1.a),(ii r.1.b),(bb r.1.load)]),(bb r.2)]):=by
 unfold qk.f at H;refine aH Tryz.func111 J J (λW=>rc T 2 (nc T J (λb1=>ro T 5 (nc T J (λb2=>ro T 29 (cb J H (λH=>?_) (λH=>?_)))))))
 ·refine rc T 8 (sg T 2 J (ro T 1 (ks [2,4] J (rx T 16 (lm T 2 J (sg T 1 J (ro T 1 (ro T 3 ?_))))))))
  cases H;exact pb T J (.c_ (j:=1) [(ii 0),(ii 0),(bb true)] J J J J J J J (.tmp J .nil)) [0] () J J
 refine rc T 9 (cb J H (λH=>?_) (λH=>?_))
 ·refine rc T 10 (sg T 2 J (ro T 1 (sg T 2 J (ro T 1 (ks [2,4] J (rx T 14 (lm T 2 J (sg T 1 J (ro T 4 ?_)))))))))
  cases H;exact pb T J (.c_ (j:=1) [(ii 4),(ii 1),(bb false)] J J J J J J J (.tmp J .nil)) [0] () J J
 refine rc T 3 (mq H [2,4,5] [0,0,0] (λz2 (x1:Bool)=>(x1=z2,[(10,(bb x1))],[])) J J (λz2 Z3 _=>?_) ?_)
 ·refine rc T 6 (cb J Z3 (λZ3=>?_) (λZ3=>?_))
  ·refine rc T 2 (am _ [0,0,0] (oi Z3) J J)
  refine rc T 6 (cb J Z3 (λZ3=>?_) (λZ3=>?_))
  ·refine rc T 2 (am _ [0,0,0] (oi Z3) J J)
  refine rc T 5 (am _ [0,0,0] (oi Z3) J J)
 rintro _ x1 rfl H;refine cb J H (λH=>?_) (λH=>?_)
 ·refine rc T 11 (sg T 2 J (ro T 5 (sg T 2 J (ro T 10 (lm T 2 J (sg T 1 J (ro T 1 (ro T 1 (ke [2,3] [0,0] J J (rx T 2 ?_))))))))))
  cases H;exact pb T J (.c_ (j:=1) [(ii 4),(ii 4),(bb false)] J J J J J J J (.tmp J .nil)) [0] () J J
 refine rc T 9 (cb J H (λH=>?_) (λH=>?_))
 ·refine rc T 13 (sg T 2 J (ro T 10 (lm T 2 J (sg T 1 J (ro T 4 ?_)))))
  cases H;exact pb T J (.c_ (j:=1) [(ii 4),(ii 0),(bb false)] J J J J J J J (.tmp J .nil)) [0] () J J
 refine rc T 2 (mq H [2,4] [0,0,0] (λz4 (x3:Bool)=>(x3=z4,[(16,(bb x3))],[])) J J (λz4 Z8 _=>?_) ?_)
 ·refine rc T 6 (cb J Z8 (λZ8=>?_) (λZ8=>?_))
  ·refine rc T 2 (am _ [0,0,0] (oi Z8) J J)
  refine rc T 5 (am _ [0,0,0] (oi Z8) J J)
 rintro _ x3 rfl H;refine cb J H (λH=>?_) (λH=>?_)
 ·refine rc T 19 (lm T 2 J (sg T 1 J (ro T 4 ?_)))
  cases H;exact pb T J (.c_ (j:=1) [(ii 0),(ii 0),(bb false)] J J J J J J J (.tmp J .nil)) [0] () J J
 refine rc T 19 (sg T 1 J (ro T 7 ?_))
 cases H;exact pb T J (.c_ (j:=1) [(ii 0),(ii 0),(bb false)] J J J J J J J (.tmp J .nil)) [0] () J J
def rZ.l0:Nat->(List Int)->Int->Int->Option Int
 |0,_,_,_=>none
 |k5+1,b,x3,x4=>if x4<(aa b:Int) then(if(0<=x4/\x4<(aa b:Int)) then(if(0<=(af (8*x4))) then(rZ.l0 k5 b (af (gi (b_ (IntKind.bits .i64) x3|||b_ (IntKind.bits .i64) (af ((af (rd b x4))*(2^(min (ax (af (8*x4))) (IntKind.bits .i64)))))))) (af (x4+1))) else none) else none) else(some x3)
def rZ.f (b:(List Int)):Option Int:=rZ.l0 fuel b 0 0
theorem rZ.c (H:rZ.f b=some r) (iH:aU (Fl.int .u8) b kE F) (gN:aa b<=ki):
 QU 190 [(ll kE b ki)] [] F (ii r):=by
 unfold rZ.f at H;refine aH Tryz.func190 J J (λW=>rc T 19 (lq [6,7] [0] (λ(⟨k5,x3,x4⟩:Nat×Int×Int)=>(rZ.l0 k5 b x3 x4=some r,[(3,(ii x3)),(8,(ii x4))],[])) J J (fuel,0,0) [0] H J J ?_));rintro k5 ⟨x3,x4⟩ Z1;replace Z1:rZ.l0 (k5+1) b x3 x4=some r:=Z1;rw[rZ.l0] at Z1;refine rc T 6 (cd J Z1 (λZ1=>?_) (λZ1=>?_))
 ·refine rc T 7 ?_;obtain⟨c3,Z1⟩:=aF Z1;obtain⟨q1,o1,e1⟩:=iH.addr c3.1 c3.2;refine ix T J e1 c3 (le T 0 (rO iH 0) e1 c3 J J (ro T 10 ?_));obtain⟨c4,Z1⟩:=aF Z1;refine bz J (TO J J J c4) (ro T 10 (ar (_,_) [0] Z1 J J))
 refine rc T 12 ?_
 cases Z1;exact p0 T J [0] J
def BH.f (b:(List Int)):Option (cR×Int):=if(0<=(0:Int)/\(0:Int)<(aa b:Int)) then(if(0<=(1:Int)/\(1:Int)<=(aa b:Int)/\(aa b:Int)<=(aa b:Int)) then((qk.f (af (rd b 0))).bind λv1=>if(!v1.2)=true then(some ((cR.mk 0 (af (rd b 0)) 0 []),1)) else(if v1.1.load=true then(if(aa (aB b 1 (aa b:Int)):Int)<4 then(some ((cR.mk 0 0 0 []),0)) else(if(0<=(0:Int)/\(0:Int)<=(4:Int)/\(4:Int)<=(aa (aB b 1 (aa b:Int)):Int)) then((rZ.f (aB (aB b 1 (aa b:Int)) 0 4)).bind λv2=>if(af ((aa (aB b 1 (aa b:Int)):Int)-4))<v2 then(some ((cR.mk 0 0 0 []),0)) else(if(0<=(4:Int)/\(4:Int)<=(af (4+v2))/\(af (4+v2))<=(aa (aB b 1 (aa b:Int)):Int)) then(if(aa ([]:List Int)+aa (aB (aB b 1 (aa b:Int)) 4 (af (4+v2)))<=1099511627776) then(some ((cR.mk (af (rd b 0)) 0 0 ([]++(aB (aB b 1 (aa b:Int)) 4 (af (4+v2))))),(af (5+v2)))) else none) else none)) else none)) else(if(aa (aB b 1 (aa b:Int)):Int)<(af (v1.1.a+v1.1.b)) then(some ((cR.mk 0 0 0 []),0)) else(if(0<=(0:Int)/\(0:Int)<=v1.1.a/\v1.1.a<=(aa (aB b 1 (aa b:Int)):Int)) then(if(0<=v1.1.a/\v1.1.a<=(af (v1.1.a+v1.1.b))/\(af (v1.1.a+v1.1.b))<=(aa (aB b 1 (aa b:Int)):Int)) then((rZ.f (aB (aB b 1 (aa b:Int)) 0 v1.1.a)).bind λv3=>(rZ.f (aB (aB b 1 (aa b:Int)) v1.1.a (af (v1.1.a+v1.1.b)))).bind λv4=>some ((cR.mk (af (rd b 0)) v3 v4 []),(af ((af (1+v1.1.a))+v1.1.b)))) else none) else none)))) else none) else none
def BH.R (r:(cR×Int)):bm:=λu G=> ∃a0 n0 H0,ak (Fl.int .u8) 5 r.1.Map a0 n0 H0/\u=(.tuple #[(.agg #[(ii r.1.Kind),(ii r.1.A),(ii r.1.B),(ll a0 r.1.Map n0)]),(ii r.2)])/\G=[H0]
theorem BH.c (H:BH.f b=some r) (iH:aU (Fl.int .u8) b kE F) (gN:aa b<=ki):
 QR 146 [(ll kE b ki)] [] [] F (BH.R r):=by
 unfold BH.f at H;refine aH Tryz.func146 J J (λW=>rc T 2 (nc T J (λb1=>ro T 4 (dy mix aA (au T J ?_)))));obtain⟨c1,H⟩:=aF H;obtain⟨q2,o2,e2⟩:=iH.addr c1.1 c1.2;refine br J J J (cV T J J J J J e2 c1.1 c1.2) (br J J J (cS T J J J J (iu (k:=(Fl.int .u8)) (rO iH 0) e2 c1 0 J)) (au T J (au T J ?_)));obtain⟨c2,H⟩:=aF H;refine br J J J (lb T J J J J J J c2 gN) (au T J (au T J (cU (rx T 4 (k [] J OG H (qk.c ·) (λv1 H=>ro T 3 (nc T J (λb3=>sg T 2 J (ro T 10 (cb J H (λH=>?_) (λH=>?_)))))))))))
 ·refine rc T 4 (sg T 1 J (ro T 2 (ke [2,3] [0,0] J J (rx T 3 ?_))))
  cases H;refine bC (pb T J (.c_ (j:=1) [(ii 0),(ii (af (rd b 0))),(ii 0),nl] J J J J J J J (.tmp J .nil)) [2,0] ⟨(_,_),none,0,[],ak.nil,J,J⟩ J J)
 refine rc T 6 (lf T 2 J (ro T 2 (cb J H (λH=>?_) (λH=>?_))))
 ·refine rc T 8 (cd J H (λH=>?_) (λH=>?_))
  ·refine rc T 3 (sg T 1 J (ro T 6 ?_))
   cases H;refine bC (pb T J (.c_ (j:=1) [(ii 0),(ii 0),(ii 0),nl] J J J J J J J (.tmp J .nil)) [3,0] ⟨(_,_),none,0,[],ak.nil,J,J⟩ J J)
  refine rc T 5 ?_;obtain⟨c7,H⟩:=aF H;refine bz J (lb T J J J J J J c7 (nC c2 gN)) (k [] J OM H (rZ.c · (od (od (rO iH 0) c2 gN) c7 (nC c2 gN)) (nC c7 (nC c2 gN))) (λv2 H=>ro T 13 (cd J H (λH=>?_) (λH=>?_))))
  ·refine rc T 3 (sg T 1 J (ro T 6 ?_))
   cases H;refine bC (pb T J (.c_ (j:=1) [(ii 0),(ii 0),(ii 0),nl] J J J J J J J (.tmp J .nil)) [3,0] ⟨(_,_),none,0,[],ak.nil,J,J⟩ J J)
  refine rc T 8 ?_;obtain⟨iX,H⟩:=aF H;refine bz J (lb T J J J J J J iX (nC c2 gN)) (bC ?_);obtain⟨eQ,H⟩:=aF H;refine ba (eP (k:=(Fl.int .u8)) (xs:=([]:List Int)) T (g:=3) J J J J J J J J J J ak.nil (od (od (rO iH 0) c2 gN) iX (nC c2 gN)) eQ J (λa8 n8 H8 s8=>ro T 3 (sg T 1 J (ro T 2 (ke [2,3] [0,0,1] J J (rx T 3 ?_))))))
  cases H;exact pb T J (.c_ (j:=1) [(ii (af (rd b 0))),(ii 0),(ii 0),(ll a8 ([]++(aB (aB b 1 (aa b:Int)) 4 (af (4+v2)))) n8)] J J J J J J J (.tmp J .nil)) [2,0] ⟨(_,_),a8,n8,H8,s8,J,J⟩ J J
 refine rc T 8 (lf T 2 J (ro T 1 (lf T 2 J (ro T 4 (cd J H (λH=>?_) (λH=>?_))))))
 ·refine rc T 3 (sg T 1 J (ro T 5 ?_))
  cases H;refine bC (pb T J (.c_ (j:=1) [(ii 0),(ii 0),(ii 0),nl] J J J J J J J (.tmp J .nil)) [3,0] ⟨(_,_),none,0,[],ak.nil,J,J⟩ J J)
 refine rc T 3 (ks [2,4,5,6] J (fz J (rg [] [0,1] mix (bU bT) (λhg pf=>ha T 22 [0,1,2] (so [0,1]) hg pf J (al T 3 1 (so [0,1]) hg pf J J J ?_)))));obtain⟨jC,H⟩:=aF H;refine av 4 (so [0,1]) hg pf J (lb T J J J J J J jC (nC c2 gN)) (ha T 18 [6,7] (so [0,1]) hg pf J (al T 8 1 (so [0,1]) hg pf J J J (ha T 16 [9] (so [0,1]) hg pf J (al T 10 1 (so [0,1]) hg pf J J J (ha T 14 [11] (so [0,1]) hg pf J (al T 12 1 (so [0,1]) hg pf J J J (ha T 12 [13] (so [0,1]) hg pf J ?_)))))));obtain⟨mv,H⟩:=aF H;refine av 14 (so [0,1]) hg pf J (lb T J J J J J J mv (nC c2 gN)) (ha T 10 [17] (so [0,1]) hg pf J (al T 18 1 (so [0,1]) hg pf J J J (ha T 7 [19,20] (so [0,1]) hg pf J (al T 21 1 (so [0,1]) hg pf J J J (ha T 5 [22] (so [0,1]) hg pf J (ao 5 (kh [] J OM H (rZ.c · (od (od (rO iH 0) c2 gN) jC (nC c2 gN)) (nC jC (nC c2 gN))) (λv3 H=>an (so [0,1]) (ao 15 (kh [] J OM H (rZ.c · (od (od (rO iH 0) c2 gN) mv (nC c2 gN)) (nC mv (nC c2 gN))) (λv4 H=>an (so [0,1]) (ha T 2 [16] (so [0,1]) hg pf J (ao 23 (sf T 1 J (an (so [0,1]) (ha T 0 [24] (so [0,1]) hg pf J (ae (rx T 1 (rc T 1 ?_)))))))))))))))))))
 cases H;refine bC (pb T J (.c_ (j:=1) [(ii (af (rd b 0))),(ii v3),(ii v4),nl] J J J J J J J (.tmp J .nil)) [3,0] ⟨(_,_),none,0,[],ak.nil,J,J⟩ J J)
def IU.f (b:(List Int)):Option Bool:=if((aa b:Int)==0)=true then(some false) else((BH.f b).bind λv1=>some (v1.2==0))
theorem IU.c (H:IU.f b=some r) (iH:aU (Fl.int .u8) b kE F) (gN:aa b<=ki):
 QU 110 [(ll kE b ki)] [] F (bb r):=by
 unfold IU.f at H;refine aH Tryz.func110 J J (λW=>rc T 13 (cb J H (λH=>?_) (λH=>?_)))
 ·refine rc T 7 ?_
  cases H;exact p0 T J [0] J
 refine rc T 5 (kr BH.R [] [] J ad9 H (BH.c · (rO iH 0) gN) (λv1 H=>?_));rintro _ _ ⟨a1,n1,H1,s1,rfl,rfl⟩;refine fz J (ro T 3 (nc T J (λb2=>sg T 2 J (ro T 11 ?_))))
 cases H;exact p0 T J [0] J
def tr.f (n:Int) (aj:Int):Option Bool:=if n≥0 then(if(0<=(af (8*aj))) then(some (decide (n<(af (1*(2^(min (ax (af (8*aj))) (IntKind.bits .i64)))))))) else none) else(some false)
theorem tr.c (H:tr.f n aj=some r):
 QU 112 [(ii n),(ii aj)] [] F (bb r):=by
 unfold tr.f at H;refine aH Tryz.func112 J J (λW=>rc T 10 (ad 7 J H (λH=>?_) (λH=>?_)))
 ·refine ro T 3 ?_;obtain⟨c2,H⟩:=aF H;refine bz J (TO J J J c2) (ro T 6 ?_)
  cases H;exact p0 T J [0] J
 refine ro T 10 ?_
 cases H;exact p0 T J [0] J
def DQ.f (o:cR):Option Bool:=if(o.Kind==0)=true then(if(o.A==(-1))=true then((if(o.B==0)=true then((IU.f o.Map).bind λv3=>some v3) else(some false)).bind λx1=>some x1) else((qk.f o.A).bind λv4=>((tr.f o.A 1).bind λv7=>if(v7&&(!v4.2))=true then(if(o.B==0)=true then(some ((aa o.Map:Int)==0)) else(some false)) else(some false)).bind λx5=>some x5)) else((qk.f o.Kind).bind λv8=>(if v8.2=true then((tr.f o.A v8.1.a).bind λv11=>if v11=true then((tr.f o.B v8.1.b).bind λv12=>if v12=true then(if((aa o.Map:Int)==0)=true then(some true) else(if v8.1.load=true then(some (decide ((aa o.Map:Int)<=4294967295))) else(some false))) else(some false)) else(some false)) else(some false)).bind λx9=>some x9)
theorem DQ.c (H:DQ.f o=some r) (Bp:aU (Fl.int .u8) o.Map CF F) (Bg:aa o.Map<=DJ):
 QU 82 [(.agg #[(ii o.Kind),(ii o.A),(ii o.B),(ll CF o.Map DJ)])] [] F (bb r):=by
 unfold DQ.f at H;refine aH Tryz.func82 J J (λW=>rc T 2 (nc T J (λb1=>ro T 7 (lf T 1 J (ro T 3 (cb J H (λH=>?_) (λH=>?_)))))))
 ·refine rc T 4 (lf T 1 J (ro T 3 (cb J H (λH=>?_) (λH=>?_))))
  ·refine mq H [] [0] (λz2 (x1:Bool)=>(x1=z2,[(2,(bb x1))],[])) J J (λz2 Z3 _=>?_) ?_
   ·refine rc T 2 (lf T 1 J (ro T 2 (ab 16 J Z3 (λZ3=>?_) (λZ3=>?_))))
    ·refine ro T 1 (lf T 1 J (k [] J adW Z3 (IU.c · (rO Bp 0) Bg) (λv3 Z3=>ro T 4 (am _ [0] (oi Z3) J J))))
    refine ro T 7 (am _ [0] (oi Z3) J J)
   rintro _ x1 rfl H;refine rc T 3 ?_
   cases H;exact p0 T J [0] J
  refine rc T 5 (lf T 1 J (k [] J OG H (qk.c ·) (λv4 H=>ro T 3 (nc T J (λb2=>sg T 2 J (ro T 3 (mq H [] [0] (λz6 (x5:Bool)=>(x5=z6,[(2,(bb x5))],[])) J J (λz6 Z7 _=>?_) ?_)))))))
  ·refine rc T 2 (lf T 1 J (k [] J OH Z7 (tr.c ·) (λv7 Z7=>ro T 1 (ga T [4,5,6] 30 [1] 33 J J J J J J J (ro T 1 (ab 34 J Z7 (λZ7=>?_) (λZ7=>?_)))))))
   ·refine ro T 1 (lf T 1 J (ro T 3 (ab 39 J Z7 (λZ7=>?_) (λZ7=>?_))))
    ·refine ro T 1 (lf T 1 J (ro T 6 (am _ [0] (oi Z7) J J)))
    refine ro T 8 (am _ [0] (oi Z7) J J)
   refine ro T 13 (am _ [0] (oi Z7) J J)
  rintro _ x5 rfl H;refine rc T 2 ?_
  cases H;exact p0 T J [0] J
 refine rc T 5 (lf T 1 J (k [] J OG H (qk.c ·) (λv8 H=>ro T 3 (nc T J (λb3=>sg T 2 J (ro T 3 (mq H [] [0] (λmS (x9:Bool)=>(x9=mS,[(2,(bb x9))],[])) J J (λmS bp _=>?_) ?_)))))))
 ·refine rc T 3 (ab 52 J bp (λbp=>?_) (λbp=>?_))
  ·refine ro T 1 (lf T 1 J (ro T 1 (lf T 2 J (k [] J OH bp (tr.c ·) (λv11 bp=>ro T 2 (ab 59 J bp (λbp=>?_) (λbp=>?_)))))))
   ·refine ro T 1 (lf T 1 J (ro T 1 (lf T 2 J (k [] J OH bp (tr.c ·) (λv12 bp=>ro T 2 (ab 66 J bp (λbp=>?_) (λbp=>?_)))))))
    ·refine ro T 1 (lf T 1 J (ro T 3 (ab 71 J bp (λbp=>?_) (λbp=>?_))))
     ·refine ro T 13 (am _ [0] (oi bp) J J)
     refine ro T 1 (lf T 2 J (ro T 1 (ab 74 J bp (λbp=>?_) (λbp=>?_))))
     ·refine ro T 1 (lf T 1 J (ro T 8 (am _ [0] (oi bp) J J)))
     refine ro T 10 (am _ [0] (oi bp) J J)
    refine ro T 18 (am _ [0] (oi bp) J J)
   refine ro T 25 (am _ [0] (oi bp) J J)
  refine ro T 32 (am _ [0] (oi bp) J J)
 rintro _ x9 rfl H;refine rc T 1 ?_
 cases H;exact p0 T J [0] J
end
noncomputable section
def uU.f (ai:Int) (most:Int):Option (Option bJ):=if(((decide (ai<1))||(decide (most<1)))||(decide (most>65536)))=true then(some none) else((yL.f ai).bind λv1=>dA v1 (none) (λeY=>some (some (bJ.mk most eY none))))
def uU.R (r:(Option bJ)):bm:=λu G=> ∃(u0:Value) (G0:List Hp),RF r u0 G0/\u=u0/\G=G0
theorem uU.c (H:uU.f ai most=some r):
 QR 21 [(ii ai),(ii most)] [] [] F (uU.R r):=by
 unfold uU.f at H;refine aH Tryz.func21 J J (λW=>rc T 11 (go T [3,4,5] 7 [0,1] 10 J J J J J J J (ro T 1 (go T [7,8,9] 11 [0,1] 14 J J J J J J J (ro T 2 (cb J H (λH=>?_) (λH=>?_)))))))
 ·refine rc T 7 ?_
  cases H;exact p1 T J [0] ⟨_,_,⟨J,J⟩,J,J⟩ J
 refine rc T 6 (kr yL.R [] [] J afz H (yL.c ·) (λv1 H=>?_));rintro _ _ ⟨_,_,O3,rfl,rfl⟩;rcases v1 with _ |eY
 ·replace H:=fx J H
  cases H
 replace H:=fy J H;obtain⟨b1,H1,s1,rfl,rfl⟩:=O3;refine ro T 1 (nc T J (λb2=>fz J (ro T 4 ?_)))
 cases H;refine aq J (gq [2,1,1] J (p1 T J [1,0] ⟨_,_,⟨b2,(bo [(cl b2 103 [(ii most),(pp b1),(.pointer none)]),H1,[]]),(show gh (bJ.mk most eY none) b2 (bo [(cl b2 103 [(ii most),(pp b1),(.pointer none)]),H1,[]]) from⟨b1,H1,(.pointer none),[],s1,(show Cu none (.pointer none) [] from⟨J,J⟩),J⟩),J,J⟩,J,J⟩ J))
def rk.f (s:bJ) (o:cR):Option Er:=if(o.Kind==3)=true then((uA.f s.nav o.B).bind λv1=>if(v1==0)=true then(some (Er.num 148 7)) else((uA.f s.nav o.A).bind λv2=>if(v2==0)=true then(some (Er.num 148 7)) else(some Er.nil))) else(if(o.Kind==2)=true then((uA.f s.nav o.A).bind λv3=>if(v3==0)=true then(some (Er.num 148 7)) else(some Er.nil)) else(some Er.nil))
def rk.R (el:Nat->Addr) (r:Er):bm:=λu G=> ∃(v0:Value) (H0:Hp),gz 414 el r v0 H0/\u=v0/\G=[H0]
theorem rk.c (H:rk.f s o=some r) (hG:fR 414 fk gZ el F) (dg:gh s bk eI) (Bp:aU (Fl.int .u8) o.Map CF F) (Bg:aa o.Map<=DJ):
 QR 83 [(pp bk),(.agg #[(ii o.Kind),(ii o.A),(ii o.B),(ll CF o.Map DJ)])] [eI] [eI] F (rk.R el r):=by
 unfold rk.f at H;refine aH Tryz.func83 J J (λW=>rc T 2 (nc T J (λb2=>fz J (ro T 7 (lf T 2 J (ro T 15 (cb J H (λH=>?_) (λH=>?_))))))))
 ·refine rc T 6 ?_;obtain⟨b4,H4,zj,H5,s4,s5,dI⟩:=(λx=>x) dg;refine bY 0 (congrArg some dI) (fz J (dy mix aA (au T J (au T J (au T J (cB T 2 J J J (au T J (cB T 1 J J J ?_))))))));obtain⟨v1,V2,H⟩:=fY H;refine xS [3] J J J J J J KY J (uA.c V2 s4) (au T J (cU (rx T 1 (cb J H (λH=>?_) (λH=>?_)))))
  ·refine rc T 2 (bz J (iG T J J J J) (ro T 8 ?_))
   cases H;refine cq [2,2,2] J dI (aq J (p1 T J [3,2,0] ⟨(.iface 148 (ii 7)),[],sV,J,J⟩ J))
  refine rc T 5 (dy mix aA (au T J (au T J (au T J (cB T 2 J J J (au T J (cB T 1 J J J ?_)))))));obtain⟨v2,V4,H⟩:=fY H;refine xS [3] J J J J J J KY J (uA.c V4 s4) (au T J (cU (rx T 1 (cb J H (λH=>?_) (λH=>?_)))))
  ·refine rc T 2 (bz J (iG T J J J J) (ro T 7 ?_))
   cases H;refine cq [2,2,2] J dI (aq J (p1 T J [3,2,0] ⟨(.iface 148 (ii 7)),[],sV,J,J⟩ J))
  refine rc T 11 ?_
  cases H;refine cq [2,2,2] J dI (aq J (p1 T J [3,2,0] ⟨.nilIface,[],vf,J,J⟩ J))
 refine rc T 8 (cb J H (λH=>?_) (λH=>?_))
 ·refine rc T 8 ?_;obtain⟨gm,cu,MJ,cM,bX,dr,Hi⟩:=(λx=>x) dg;refine bY 0 (congrArg some Hi) (fz J (dy mix aA (au T J (au T J (au T J (cB T 2 J J J (au T J (cB T 1 J J J ?_))))))));obtain⟨v3,V7,H⟩:=fY H;refine xS [3] J J J J J J KY J (uA.c V7 bX) (au T J (cU (rx T 1 (cb J H (λH=>?_) (λH=>?_)))))
  ·refine rc T 2 (bz J (iG T J J J J) (ro T 7 ?_))
   cases H;refine cq [2,2,2] J Hi (aq J (p1 T J [3,2,0] ⟨(.iface 148 (ii 7)),[],sV,J,J⟩ J))
  refine rc T 11 ?_
  cases H;refine cq [2,2,2] J Hi (aq J (p1 T J [3,2,0] ⟨.nilIface,[],vf,J,J⟩ J))
 refine rc T 15 ?_
 cases H;refine aq J (p1 T J [3,0,0] ⟨.nilIface,[],vf,J,J⟩ J)
def fX.f (code:Int):Option Er:=if(code==0)=true then(some Er.nil) else(some (Er.num 148 code))
def fX.R (el:Nat->Addr) (r:Er):bm:=λu G=> ∃(v0:Value) (H0:Hp),gz 414 el r v0 H0/\u=v0/\G=[H0]
theorem fX.c (H:fX.f code=some r) (hG:fR 414 fk gZ el F):
 QR 88 [(ii code)] [] [] F (fX.R el r):=by
 unfold fX.f at H;refine aH Tryz.func88 J J (λW=>rc T 12 (cb J H (λH=>?_) (λH=>?_)))
 ·refine rc T 7 ?_
  cases H;refine aq J (p1 T J [1,0] ⟨.nilIface,[],vf,J,J⟩ J)
 refine rc T 5 (bz J (iG T J J J J) (ro T 4 ?_))
 cases H;refine aq J (p1 T J [1,0] ⟨(.iface 148 (ii code)),[],sV,J,J⟩ J)
def vL.f (s:bJ) (b:(List Int)):Option (Er×bJ):=(vb.f b).bind λv1=>if(v1.2 !=0)=true then(some ((Er.num 148 6),s)) else((yJ.f s.nav v1.1).bind λv2=>if(v2.1==0)=true then((wz.f v1.1.W v1.1.H s.most).bind λv3=>dA v3 (none) (λA1=>(fX.f v2.1).bind λv4=>some (v4,(bJ.mk s.most v2.2 (some A1))))) else((fX.f v2.1).bind λv5=>some (v5,(bJ.mk s.most v2.2 s.eT))))
def vL.R (el:Nat->Addr) (nf:Nat) (r:(Er×bJ)):bm:=λu G=> ∃(v0:Value) (H0:Hp) (H1:Hp),gz 414 el r.1 v0 H0/\gh r.2 nf H1/\u=v0/\G=[H0,H1]
theorem vL.c (H:vL.f s b=some r) (hG:fR 414 fk gZ el F) (dg:gh s bk eI) (iH:aU (Fl.int .u8) b kE F) (gN:aa b<=ki):
 QR 84 [(pp bk),(ll kE b ki)] [eI] [] F (vL.R el bk r):=by
 unfold vL.f at H;refine aH Tryz.func84 J J (λW=>rc T 8 (kr (vb.R el) [] [] J adX H (vb.c · (dE hG (j:=1) J) (rO iH 1) gN) (λv1 H=>?_)));rintro _ _ ⟨a2,n2,H2,s2,rfl,rfl⟩;refine fz J (ro T 3 (nc T J (λb3=>fz J (ku T 3 J (ro T 10 (cb J H (λH=>?_) (λH=>?_)))))))
 ·refine rc T 2 (bz J (iG T J J J J) (ro T 5 ?_))
  cases H;refine aq J (p1 T J [4,0,0] ⟨(.iface 148 (ii 6)),[],eI,sV,dg,J,J⟩ J)
 refine rc T 4 ?_;obtain⟨b6,H6,xD,H7,s6,s7,sZ⟩:=(λx=>x) dg;refine bY 0 (congrArg some sZ) (fz J (ks [0,5] J (fz J (rz [5] mix (bU bT) (λhg pf=>ha T 4 [0,1,2] sz hg pf J (al T 3 3 sz hg pf J J J (av 4 sz hg pf J (gA T 2 J J J J J J J) (ao 5 (kR (yJ.R b6) [] [4] J adY H (yJ.c · s6 (oO s2 1) s2.ck) (λv2 H=>?_))))))))));rintro _ _ ⟨H8,s8,rfl,rfl⟩;refine fz J (an sl (hb T 6 sl hg pf J (ae (rx T 7 (cb J H (λH=>?_) (λH=>?_))))))
 ·refine ks [0,5,6] J (fz J (rq [12] [0,0,0,0,0,0] J mix (bU bT) (λhg pf=>ha T 11 [0,1] sz hg pf J (al T 2 2 sz hg pf J J J (ha T 9 [3] sz hg pf J (al T 4 2 sz hg pf J J J (ha T 5 [5,6,7] sz hg pf J (al T 8 3 sz hg pf J J J (ao 9 (kR wz.R [] [] J adZ H (wz.c ·) (λv3 H=>?_)))))))))));rintro _ _ ⟨_,_,O6,rfl,rfl⟩;rcases v3 with _ |A1
  ·replace H:=fx J H
   cases H
  replace H:=fy J H;obtain⟨b9,H9,s9,rfl,rfl⟩:=O6;refine an (so [0,0,0,0,0,0]) (ha T 1 [10,11] (so [0,0,0,0,0,0]) hg pf J (ao 12 (jv T 3 J (an sl (ae (rx T 4 (kr (fX.R el) [] [] J wJ H (fX.c · (dE hG (j:=0) J)) (λv4 H=>?_))))))));rintro v10 _ ⟨v10,cu,bX,rfl,rfl⟩;refine fz J (ro T 4 ?_)
  cases H;refine gq [6] J (gq [3,4,5] J (p1 T J [4,4,0] ⟨v10,cu,(bo [(cl bk 103 [(ii s.most),(pp b6),(pp b9)]),H8,(bo [H9])]),bX,(show gh (bJ.mk s.most v2.2 (some A1)) bk (bo [(cl bk 103 [(ii s.most),(pp b6),(pp b9)]),H8,(bo [H9])]) from⟨b6,H8,(pp b9),(bo [H9]),s8,(show Cu (some A1) (pp b9) (bo [H9]) from⟨b9,H9,s9,J,J⟩),J⟩),J,J⟩ J))
 refine rc T 5 (kr (fX.R el) [] [] J wJ H (fX.c · (dE hG (j:=0) J)) (λv5 H=>?_));rintro v12 _ ⟨v12,dL,dS,rfl,rfl⟩;refine fz J (ro T 4 ?_)
 cases H;refine gq [3,4,3] J (p1 T J [3,3,0] ⟨v12,dL,(bo [(cl bk 103 [(ii s.most),(pp b6),xD]),H8,H7]),dS,(show gh (bJ.mk s.most v2.2 s.eT) bk (bo [(cl bk 103 [(ii s.most),(pp b6),xD]),H8,H7]) from⟨b6,H8,xD,H7,s8,s7,J⟩),J,J⟩ J)
def yY.f (s:bJ) (cell:Int) (cost:Int):Option (Er×bJ):=if((decide (cost<1))||(decide (cost>255)))=true then(some ((Er.num 148 8),s)) else((dA s.eT (none) (λx3=>if(cost==255)=true then((Bl.f x3 cell).bind λv4=>some (decide (v4≥0))) else(some false))).bind λx1=>if x1=true then(some ((Er.num 148 10),s)) else((yH.f s.nav cell cost).bind λv5=>(fX.f v5.1).bind λv6=>some (v6,(bJ.mk s.most v5.2 s.eT))))
def yY.R (el:Nat->Addr) (nf:Nat) (r:(Er×bJ)):bm:=λu G=> ∃(v0:Value) (H0:Hp) (H1:Hp),gz 414 el r.1 v0 H0/\gh r.2 nf H1/\u=v0/\G=[H0,H1]
theorem yY.c (H:yY.f s cell cost=some r) (hG:fR 414 fk gZ el F) (dg:gh s bk eI):
 QR 86 [(pp bk),(ii cell),(ii cost)] [eI] [] F (yY.R el bk r):=by
 unfold yY.f at H;refine aH Tryz.func86 J J (λW=>rc T 12 (go T [3,4,5] 10 [0,1,2] 13 J J J J J J J (ro T 3 (cb J H (λH=>?_) (λH=>?_)))))
 ·refine rc T 2 (bz J (iG T J J J J) (ro T 6 ?_))
  cases H;refine aq J (p1 T J [2,0,0] ⟨(.iface 148 (ii 8)),[],eI,sV,dg,J,J⟩ J)
 refine mq H [0,1,2] [1,0] (λz2 (x1:Bool)=>(x1=z2,[(15,(bb x1))],[])) J J (λz2 Z2 _=>?_) ?_
 ·obtain⟨b4,H4,zj,H5,s4,s5,dI⟩:=(λx=>x) dg;refine bY 0 (congrArg some dI) (fz J ?_);rcases q3:s.eT with _ |x3
  ·replace Z2:=fx q3 Z2
   cases Z2
  replace Z2:=fy q3 Z2;rw[q3] at s5;obtain⟨b7,H7,s7,rfl,pA⟩:=s5;refine bY 3 (congrArg some pA) (fz J (rc T 4 (ab 18 J Z2 (λZ2=>?_) (λZ2=>?_))))
  ·refine ro T 3 (lf T 1 J (ro T 1 (k [3] J ad0 Z2 (Bl.c · s7) (λv4 Z2=>ro T 5 (cq [3] J pA (cq [1,1,1] J dI (am _ [0,0] (oi Z2) J J)))))))
  refine ro T 11 (cq [3] J pA (cq [1,1,1] J dI (am _ [0,0] (oi Z2) J J)))
 rintro _ x1 rfl H;refine cb J H (λH=>?_) (λH=>?_)
 ·refine rc T 2 (bz J (iG T J J J J) (ro T 6 ?_))
  cases H;refine aq J (p1 T J [2,1,0] ⟨(.iface 148 (ii 10)),[],eI,sV,dg,J,J⟩ J)
 refine rc T 4 ?_;obtain⟨gm,cu,MJ,cM,bX,dr,Hi⟩:=(λx=>x) dg;refine bY 1 (congrArg some Hi) (fz J (rc T 4 (lf T 1 J (ro T 2 (kr (yH.R gm) [] [2] J ad1 H (yH.c · bX) (λv5 H=>?_))))));rintro _ _ ⟨dL,dS,rfl,rfl⟩;refine fz J (kr (fX.R el) [] [] J wJ H (fX.c · (dE hG (j:=0) J)) (λv6 H=>?_));rintro iB _ ⟨iB,fe,dF,rfl,rfl⟩;refine fz J (ro T 4 ?_)
 cases H;refine gq [1,2,1] J (p1 T J [1,1,0] ⟨iB,fe,(bo [(cl bk 103 [(ii s.most),(pp gm),MJ]),dL,cM]),dF,(show gh (bJ.mk s.most v5.2 s.eT) bk (bo [(cl bk 103 [(ii s.most),(pp gm),MJ]),dL,cM]) from⟨gm,dL,MJ,cM,dS,dr,J⟩),J,J⟩ J)
def yZ.f (s:bJ) (cell:Int) (goal:Int):Option (Int×Er×bJ):=(uA.f s.nav cell).bind λv1=>if(v1==255)=true then(some ((-1),(Er.num 148 9),s)) else(dA s.eT (none) (λx2=>(x_.f x2 cell goal).bind λv3=>(fX.f v3.2.1).bind λv4=>some (v3.1,v4,(bJ.mk s.most s.nav (some v3.2.2)))))
def yZ.R (el:Nat->Addr) (nf:Nat) (r:(Int×Er×bJ)):bm:=λu G=> ∃(v0:Value) (H0:Hp) (H1:Hp),gz 414 el r.2.1 v0 H0/\gh r.2.2 nf H1/\u=(.tuple #[(ii r.1),v0])/\G=[H0,H1]
theorem yZ.c (H:yZ.f s cell goal=some r) (hG:fR 414 fk gZ el F) (dg:gh s bk eI):
 QR 87 [(pp bk),(ii cell),(ii goal)] [eI] [] F (yZ.R el bk r):=by
 unfold yZ.f at H;refine aH Tryz.func87 J J (λW=>rc T 8 ?_);obtain⟨b3,H3,vP,H4,s3,s4,cL⟩:=(λx=>x) dg;refine bY 0 (congrArg some cL) (fz J (rc T 4 (lf T 1 J (ro T 1 (k [2] J KY H (uA.c · s3) (λv1 H=>ro T 3 (cb J H (λH=>?_) (λH=>?_))))))))
 ·refine rc T 2 (bz J (iG T J J J J) (ro T 6 ?_))
  cases H;refine cq [1,1,1] J cL (aq J (p1 T J [2,1,0] ⟨(.iface 148 (ii 9)),[],eI,sV,dg,J,J⟩ J))
 refine rc T 3 ?_;rcases q3:s.eT with _ |x2
 ·replace H:=fx q3 H
  cases H
 replace H:=fy q3 H;rw[q3] at s4;obtain⟨b7,H7,s7,rfl,pA⟩:=s4;refine bY 3 (congrArg some pA) (fz J (rc T 4 (lf T 1 J (ro T 2 (kr (x_.R b7) [] [3] J ad2 H (x_.c · s7) (λv3 H=>?_))))));rintro _ _ ⟨H8,s8,rfl,rfl⟩;refine fz J (ro T 11 (kr (fX.R el) [] [] J wJ H (fX.c · (dE hG (j:=0) J)) (λv4 H=>?_)));rintro v9 _ ⟨v9,H9,s9,rfl,rfl⟩;refine fz J (ro T 5 ?_)
 cases H;refine gq [3] J (gq [1,1,2] J (p1 T J [1,1,0] ⟨v9,H9,(bo [(cl bk 103 [(ii s.most),(pp b3),(pp b7)]),H3,(bo [H8])]),s9,(show gh (bJ.mk s.most s.nav (some v3.2.2)) bk (bo [(cl bk 103 [(ii s.most),(pp b3),(pp b7)]),H3,(bo [H8])]) from⟨b3,H3,(pp b7),(bo [H8]),s3,(show Cu (some v3.2.2) (pp b7) (bo [H8]) from⟨b7,H8,s8,J,J⟩),J⟩),J,J⟩ J))
def vM.f (s:bJ) (a:jn) (goal:Int) (cell:Int):Option (Er×bJ×jn):=(yK.f s.nav goal cell).bind λv1=>if(v1.2.2.1==0)=true then((fX.f v1.2.2.1).bind λv2=>some (v2,(bJ.mk s.most v1.2.2.2 s.eT),(jn.mk a.Code v1.1 v1.2.1 a.Id a.fF a.iK a.Stats))) else((fX.f v1.2.2.1).bind λv3=>some (v3,(bJ.mk s.most v1.2.2.2 s.eT),a))
def vM.R (el:Nat->Addr) (nf:Nat) (pS:Nat) (r:(Er×bJ×jn)):bm:=λu G=> ∃(v0:Value) (H0:Hp) (H1:Hp) (a2 n2 H2:_) (a3 n3 H3:_),gz 414 el r.1 v0 H0/\gh r.2.1 nf H1/\ak jT 94 r.2.2.fF a2 n2 H2/\ak (Fl.int .i64) 3 r.2.2.iK a3 n3 H3/\u=v0/\G=[H0,H1,(cl pS 52 [(ii r.2.2.Code),(ii r.2.2.D),(ii r.2.2.cJ),(ii r.2.2.Id),(ll a2 r.2.2.fF n2),(ll a3 r.2.2.iK n3),(uu r.2.2.Stats.bK),(uu r.2.2.Stats.bL),(uu r.2.2.Stats.bH),(uu r.2.2.Stats.bG),(uu r.2.2.Stats.bR),(uu r.2.2.Stats.bM)]),H2,H3]
theorem vM.c (H:vM.f s a goal cell=some r) (hG:fR 414 fk gZ el F) (dg:gh s bk eI) (oZ:ak jT 94 a.fF wj w6 vV) (oY:ak (Fl.int .i64) 3 a.iK wh wZ vU):
 QR 91 [(pp bk),(pp pS),(ii goal),(ii cell)] [eI,(cl pS 52 [(ii a.Code),(ii a.D),(ii a.cJ),(ii a.Id),(ll wj a.fF w6),(ll wh a.iK wZ),(uu a.Stats.bK),(uu a.Stats.bL),(uu a.Stats.bH),(uu a.Stats.bG),(uu a.Stats.bR),(uu a.Stats.bM)]),vV,vU] [] F (vM.R el bk pS r):=by
 unfold vM.f at H;refine aH Tryz.func91 J J (λW=>rc T 6 ?_);obtain⟨b6,H6,xD,H7,s6,s7,sZ⟩:=(λx=>x) dg;refine bY 0 (congrArg some sZ) (fz J (rc T 4 (lf T 4 J (ro T 2 (kr (yK.R el b6) [] [5] J ad4 H (yK.c · (dE hG (j:=3) J) s6) (λv1 H=>?_))))));rintro _ _ ⟨H8,s8,rfl,rfl⟩;refine fz J (ro T 16 (cb J H (λH=>?_) (λH=>?_)))
 ·refine rc T 7 (ku T 0 J (ro T 2 (ku T 0 J (ro T 5 (kr (fX.R el) [] [] J wJ H (fX.c · (dE hG (j:=3) J)) (λv2 H=>?_))))));rintro v9 _ ⟨v9,H9,s9,rfl,rfl⟩;refine fz J (ro T 2 (ks [8] J (rx T 2 ?_)))
  cases H;refine gq [4,5,4] J (p1 T J [4,4,0,0,0,0] ⟨v9,H9,(bo [(cl bk 103 [(ii s.most),(pp b6),xD]),H8,H7]),wj,w6,vV,wh,wZ,vU,s9,(show gh (bJ.mk s.most v1.2.2.2 s.eT) bk (bo [(cl bk 103 [(ii s.most),(pp b6),xD]),H8,H7]) from⟨b6,H8,xD,H7,s8,s7,J⟩),oZ,oY,J,J⟩ J)
 refine rc T 5 (kr (fX.R el) [] [] J wJ H (fX.c · (dE hG (j:=3) J)) (λv3 H=>?_));rintro v10 _ ⟨v10,cu,bX,rfl,rfl⟩;refine fz J (ro T 4 ?_)
 cases H;refine gq [4,5,4] J (p1 T J [4,4,0,0,0,0] ⟨v10,cu,(bo [(cl bk 103 [(ii s.most),(pp b6),xD]),H8,H7]),wj,w6,vV,wh,wZ,vU,bX,(show gh (bJ.mk s.most v1.2.2.2 s.eT) bk (bo [(cl bk 103 [(ii s.most),(pp b6),xD]),H8,H7]) from⟨b6,H8,xD,H7,s8,s7,J⟩),oZ,oY,J,J⟩ J)
def fb.l3:Nat->bJ->(List aI)->cw->(List (Int×Int))->List Int->Int->Option ((List Int)×Er×bJ)
 |0,_,_,_,_,_,_=>none
 |LM+1,s,l,bA,aT,pj,tP=>if tP<(aa l:Int) then(if(0<=tP/\tP<(aa l:Int)) then(if(aa pj+1<=1099511627776) then(fb.l3 LM s l bA aT (pj++[(aP aT ((rd l tP).Id))]) (af (tP+1))) else none) else none) else(some (pj,Er.nil,(bJ.mk s.most bA s.eT)))
def fb.l2:Nat->(List (Int×Int))->Int->(List cA)->cw->List Int->(List (Int×Int))->Int->Option (Sum ((List Int)×Er×bJ) (cw×(List (Int×Int))))
 |0,_,_,_,_,_,_,_=>none
 |LL+1,x4,bd,v8,dh,eX,oh,jw=>if jw<(aa ((rd v8 bd).dj):Int) then(if(0<=jw/\jw<(aa ((rd v8 bd).dj):Int)) then(if(0<=(aP x4 (rd ((rd v8 bd).dj) jw))/\(aP x4 (rd ((rd v8 bd).dj) jw))<(aa eX:Int)) then(fb.l2 LL x4 bd v8 dh eX (cF oh (rd ((rd v8 bd).dj) jw) (rd eX (aP x4 (rd ((rd v8 bd).dj) jw)))) (af (jw+1))) else none) else none) else(some (Sum.inr (dh,oh)))
def fb.l1:Nat->bJ->(List aI)->(List (Int×Int))->(List cA)->cw->(List (Int×Int))->Int->Option ((List Int)×Er×bJ)
 |0,_,_,_,_,_,_,_=>none
 |ma+1,s,l,x4,v8,bA,aT,bd=>if bd<(aa v8:Int) then((if(0<=bd/\bd<(aa v8:Int)) then(((vA.f bA ((rd v8 bd).Goal) ((rd v8 bd).ft)).bind λv24=>some (v24.2.2,v24.1.fi,v24.1.cJ,v24.2.1)).bind λ(dh,lW,eX,cg)=>if(cg !=0)=true then(some (Sum.inl ([],(Er.num 148 cg),(bJ.mk s.most dh s.eT)))) else(fb.l2 fuel x4 bd v8 dh eX aT 0)) else none).bind λzz=>match zz with |Sum.inl q=>some q |Sum.inr (ez,du)=>fb.l1 ma s l x4 v8 ez du (af (bd+1))) else(fb.l3 fuel s l bA aT [] 0)
def fb.l0:Nat->bJ->(List aI)->(Int×Int)->(List (Int×Int))->Int->Option ((List Int)×Er×bJ)
 |0,_,_,_,_,_=>none
 |k6+1,s,l,v1,x4,x5=>if x5<(aa l:Int) then(if(0<=x5/\x5<(aa l:Int)) then((sx.f v1.1 v1.2 ((rd l x5).Cell)).bind λv7=>fb.l0 k6 s l v1 (cF x4 ((rd l x5).Id) v7) (af (x5+1))) else none) else((kK.f v1.1 v1.2 l).bind λv8=>fb.l1 fuel s l x4 v8 s.nav ([]:(List (Int×Int))) 0)
def fb.f (s:bJ) (l:(List aI)):Option ((List Int)×Er×bJ):=(Ao.f s.nav).bind λv1=>fb.l0 fuel s l v1 ([]:(List (Int×Int))) 0
def fb.R (el:Nat->Addr) (nf:Nat) (r:((List Int)×Er×bJ)):bm:=λu G=> ∃(a0 n0 H0:_) (v1:Value) (H1:Hp) (H2:Hp),ak (Fl.int .i64) 3 r.1 a0 n0 H0/\gz 414 el r.2.1 v1 H1/\gh r.2.2 nf H2/\u=(.tuple #[(ll a0 r.1 n0),v1])/\G=[H0,H1,H2]
theorem fb.c (H:fb.f s l=some r) (hG:fR 414 fk gZ el F) (dg:gh s bk eI) (dt:aU mc l ig F) (gn:aa l<=g_):
 QR 128 [(pp bk),(ll ig l g_)] [eI] [] F (fb.R el bk r):=by
 unfold fb.f at H;refine aH Tryz.func128 J J (λW=>rc T 7 ?_);obtain⟨b3,H3,vP,H4,s3,s4,cL⟩:=(λx=>x) dg;refine bY 0 (congrArg some cL) (fz J (rc T 4 (lf T 1 J (k [2] J UQ H (Ao.c · s3) (λv1 H=>ro T 9 (ba (wo T (Ky.int .i64 u3) (λx:Int=>Value.int .i64 x) J J J trivial (λa5 H5 s5=>ro T 12 (lq [0,1,6,7,30,31] [0,0,1,0] (λ(⟨k6,x4,x5,a7,H7⟩:Nat×(List (Int×Int))×Int×Nat×Hp)=>(fb.l0 k6 s l v1 x4 x5=some r/\de (Ky.int .i64 u3) (λx:Int=>Value.int .i64 x) x4 a7 H7,[(8,(.map (some a7))),(32,(ii x5))],[H7])) J J (fuel,([]:(List (Int×Int))),0,a5,H5) [0,0,1,0,0] ⟨H,s5⟩ J J ?_)))))))));rintro k6 ⟨x4,x5,a7,H7⟩ ⟨Z2,s7⟩;rw[fb.l0] at Z2;refine rc T 6 (cd J Z2 (λZ2=>?_) (λZ2=>?_))
 ·refine rc T 6 ?_;obtain⟨c4,Z2⟩:=aF Z2;obtain⟨q8,o8,e8⟩:=dt.addr c4.1 c4.2;refine ix T J e8 c4 (bz J (gp T (cs:=[(ii (rd l x5).Id),(ii (rd l x5).Cell),(ii (rd l x5).Goal)]) J J J J J J (iI (k:=mc) (rO dt 0) e8 c4 J)) (nc T J (λb9=>fz J (ku T 5 J (ro T 2 (ks [0,1,6,7,8,10,30,31,32] J (fz J (rz [8] mix (bU bT) (λhg pf=>ha T 7 [0,1] sz hg pf J (al T 2 5 sz hg pf J J J (ha T 3 [3,4,5] sz hg pf J (al T 6 5 sz hg pf J J J (ao 7 (kh [] J Hv Z2 (sx.c ·) (λv7 Z2=>an sz (ao 8 (qG (g:=4) (m:=x4) (k:=(rd l x5).Id) (v:=v7) T (Ky.int .i64 u3) (λx:Int=>Value.int .i64 x) J J J J J J J s7 (λcu bX=>an sl (ae (rx T 7 (ar (_,_,_,_) [0,0,0,0,0] ⟨Z2,bX⟩ J J)))))))))))))))))))))
 refine rc T 7 (ba (wo T (Ky.int .i64 u3) (λx:Int=>Value.int .i64 x) J J J trivial (λdG cM dr=>ro T 9 (kr kK.R [] [] J aff Z2 (kK.c · (rO dt 0) gn) (λv8 Z2=>?_)))));rintro _ _ ⟨a12,n12,dL,dS,rfl,rfl⟩;refine fz J (ro T 5 (lq [0,1,8,49,50] [0,0,0,1,2] (λ(⟨ma,bA,aT,bd,dT,kD,gB⟩:Nat×cw×(List (Int×Int))×Int×Hp×Nat×Hp)=>(fb.l1 ma s l x4 v8 bA aT bd=some r/\ie bA b3 dT/\de (Ky.int .i64 u3) (λx:Int=>Value.int .i64 x) aT kD gB,[(11,(.map (some kD))),(51,(ii bd))],[dT,gB])) J J (fuel,s.nav,([]:(List (Int×Int))),0,H3,dG,cM) [0,0,0,1,2,0,0] ⟨Z2,s3,dr⟩ J J ?_));rintro ma ⟨bA,aT,bd,dT,kD,gB⟩ ⟨Z7,eG,gw⟩;rw[fb.l1] at Z7;refine rc T 6 (cd J Z7 (λZ7=>?_) (λZ7=>?_))
 ·refine rc T 2 (mq Z7 [0,1,8,49,50,51] [0,0,0,0,0] (λRr (⟨ez,du,eZ,jA,fE⟩:cw×(List (Int×Int))×Hp×Nat×Hp)=>((Sum.inr (ez,du))=Rr/\ie ez b3 eZ/\de (Ky.int .i64 u3) (λx:Int=>Value.int .i64 x) du jA fE,[(11,(.map (some jA)))],[eZ,fE])) J J (λRr Z9 Z7=>?_) ?_)
  ·refine rc T 3 ?_;obtain⟨iX,Z9⟩:=aF Z9;obtain⟨q19,o19,G4⟩:=dS.r.addr iX.1 iX.2;refine ix T J G4 iX ?_;obtain⟨_,w21,⟨a20,n20,⟨Yd,m20⟩,rfl⟩⟩:=ov.view dS.r iX;refine bz J (gp T (cs:=[(ii (rd v8 bd).Goal),(ii (rd v8 bd).ft),(ll a20 (rd v8 bd).dj n20)]) J J J J J J (PT (j:=4) J w21 G4 0 J)) (nc T J (λlF=>fz J (ku T 7 J (ro T 2 (mq Z9 [0,1,8,11,13,49,50,51] [0,0,0,0,2,2,0] (λz23 (⟨dh,lW,eX,cg,j5,GQ,a25,n25,iD,a26,n26,pM⟩:cw×List Int×List Int×Int×Hp×Nat×Option Addr×Nat×Hp×Option Addr×Nat×Hp)=>((dh,lW,eX,cg)=z23/\ie dh b3 j5/\ak (Fl.int .i64) 3 lW a25 n25 iD/\ak (Fl.int .i64) 3 eX a26 n26 pM,[(14,(pp GQ)),(15,(ii cg))],[j5,(cl GQ 79 [(ll a25 lW n25),(ll a26 eX n26)]),iD,pM])) J J (λz23 bh _=>?_) ?_)))))
   ·refine ks [0,1,8,11,13,49,50,51] J (fz J (rz [8] mix (bU bT) (λhg pf=>ha T 12 [0,1,2] sz hg pf J (al T 3 1 sz hg pf J J J (ha T 10 [4] sz hg pf J (al T 5 7 sz hg pf J J J (ha T 8 [6] sz hg pf J (al T 7 7 sz hg pf J J J (gV 8 12 ?_ ?_)))))))))
    ·refine kR (vA.R el b3) [] [5] J Vm bh (vA.c · (dE hG (j:=0) J) eG) (λv24 bh=>?_);rintro _ _ ⟨J1,n27,Gg,a28,n28,vS,sG,xm,kL,sb,rfl,rfl⟩;refine fz J (an sl (hb T 9 sl hg pf J (hb T 10 sl hg pf J (hb T 11 sl hg pf J (ao 12 (nw T J (λb30=>fz J (an sl (ao 13 (jv T 10 J (an sl (hb T 14 sl hg pf J (ae (rx T 1 (am (_,_,_,_,_,_,_,_,_,_,_,_) [0,0,0,0,1,1,0,2,2,0,0] ⟨oi bh,sb,xm,kL⟩ J J)))))))))))))))
    refine nw T J (λb31=>fz J (an (so [0,0,0,0,0,0,0,0]) (ao 8 (kR (vA.R el b3) [] [5] J Vm bh (vA.c · (dE hG (j:=0) J) eG) (λv25 bh=>?_)))));rintro _ _ ⟨a32,n32,JM,a33,n33,JN,vT,AE,xn,yV,rfl,rfl⟩;refine fz J (an sl (hb T 9 sl hg pf J (hb T 10 sl hg pf J (hb T 11 sl hg pf J (ao 13 (jv T 7 J (an sl (hb T 14 sl hg pf J (ae (rx T 1 (am (_,_,_,_,_,_,_,_,_,_,_,_) [0,0,0,0,1,1,0,3,0,0,0] ⟨oi bh,yV,AE,xn⟩ J J)))))))))))
   rintro _ ⟨dh,lW,eX,cg,j5,GQ,a25,n25,iD,a26,n26,pM⟩ ⟨rfl,iA,jW,oX⟩ Z9;refine rc T 7 (cb J Z9 (λZ9=>?_) (λZ9=>?_))
   ·refine rc T 3 (bz J (iG T J J J J) (ro T 11 ?_));obtain rfl:=Option.some.inj Z9;obtain rfl:=Option.some.inj (show some ([],(Er.num 148 cg),(bJ.mk s.most dh s.eT))=some r from Z7)
    refine gq [1,6,1] J (aq J (aq J (p1 T J [9,9,8,0] ⟨none,0,[],(.iface 148 (ii cg)),[],(bo [(cl bk 103 [(ii s.most),(pp b3),vP]),j5,H4]),ak.nil,sV,(show gh (bJ.mk s.most dh s.eT) bk (bo [(cl bk 103 [(ii s.most),(pp b3),vP]),j5,H4]) from⟨b3,j5,vP,H4,iA,s4,J⟩),J,J⟩ J)))
   refine rc T 5 (lf T 5 J (ro T 5 (lq [0,1,8,14,49,50,51,72,73] [0,0,0,4,0,3,3,3,2] (λ(⟨LL,oh,jw,J2,A4⟩:Nat×(List (Int×Int))×Int×Nat×Hp)=>(fb.l2 LL x4 bd v8 dh eX oh jw=some Rr/\de (Ky.int .i64 u3) (λx:Int=>Value.int .i64 x) oh J2 A4,[(11,(.map (some J2))),(74,(ii jw))],[A4])) J J (fuel,aT,0,kD,gB) [0,0,0,4,0,3,3,3,2,0] ⟨Z9,gw⟩ J J ?_)));rintro LL ⟨oh,jw,J2,A4⟩ ⟨dD,BR⟩;rw[fb.l2] at dD;refine rc T 6 (cd J dD (λdD=>?_) (λdD=>?_))
   ·refine rc T 6 ?_;obtain⟨l9,dD⟩:=aF dD;obtain⟨q39,o39,Tg⟩:=Yd.addr l9.1 l9.2;refine ix T J Tg l9 (le T 0 (rO Yd 8) Tg l9 J J (ro T 7 (lf T 5 J (ro T 2 (bz J (qN (k:=(rd ((rd v8 bd).dj) jw)) T (Ky.int .i64 u3) (λx:Int=>Value.int .i64 x) J J J J J (pF s7 (j:=4) J)) ?_)))));obtain⟨l_,dD⟩:=aF dD;obtain⟨q40,o40,Th⟩:=oX.r.addr l_.1 l_.2;refine ix T J Th l_ (le T 0 (oO oX 7) Th l_ J J (ba (qG (g:=9) (m:=oh) (k:=(rd ((rd v8 bd).dj) jw)) (v:=(rd eX (aP x4 (rd ((rd v8 bd).dj) jw)))) T (Ky.int .i64 u3) (λx:Int=>Value.int .i64 x) J J J J J J J BR (λGi AF=>ro T 8 (ar (_,_,_,_) [0,0,0,0,0,0,0,0,0,0] ⟨dD,AF⟩ J J)))))
   refine rc T 6 (am (_,_,_,_,_) [0,0,0,1,4,0,3] ⟨oi dD,iA,BR⟩ J J)
  rintro _ ⟨ez,du,eZ,jA,fE⟩ ⟨rfl,fO,fP⟩ Z7;refine rc T 5 (ar (_,_,_,_,_,_) [0,0,0,0,0,0,0] ⟨Z7,fO,fP⟩ J J)
 refine rc T 19 (aq J (lq [11,89,90] [0,5,0,0,2] (λ(⟨LM,pj,tP,J3,n43,gR⟩:Nat×List Int×Int×Option Addr×Nat×Hp)=>(fb.l3 LM s l bA aT pj tP=some r/\ak (Fl.int .i64) 3 pj J3 n43 gR,[(18,(ll J3 pj n43)),(91,(ii tP))],[gR])) J J (fuel,[],0,none,0,[]) [0,5,0,0,2,2] ⟨Z7,ak.nil⟩ J J ?_));rintro LM ⟨pj,tP,J3,n43,gR⟩ ⟨fv,uH⟩;rw[fb.l3] at fv;refine rc T 6 (cd J fv (λfv=>?_) (λfv=>?_))
 ·refine rc T 6 ?_;obtain⟨pU,fv⟩:=aF fv;obtain⟨q44,o44,Ti⟩:=dt.addr pU.1 pU.2;refine ix T J Ti pU (bz J (gp T (cs:=[(ii (rd l tP).Id),(ii (rd l tP).Cell),(ii (rd l tP).Goal)]) J J J J J J (iI (k:=mc) (rO dt 0) Ti pU J)) (nc T J (λb45=>fz J (ku T 6 J (ro T 6 (lf T 6 J (bz J (qN (k:=(rd l tP).Id) T (Ky.int .i64 u3) (λx:Int=>Value.int .i64 x) J J J J J (pF gw (j:=1) J)) (ba (dp (k:=(Fl.int .i64)) T [(aP aT ((rd l tP).Id))] J J J J J J J J J (λa46 Zv QQ=>?_))))))))));obtain⟨Bf,fv⟩:=aF fv;refine ba (eP (k:=(Fl.int .i64)) (xs:=pj) T (g:=5) J J J J J J J J J J uH (oO QQ 7) Bf J (λJ4 n47 Gj I9=>ro T 9 (ar (_,_,_,_,_) [0,0,0,0,0,0] ⟨fv,I9⟩ J J)))
 refine rc T 13 ?_
 cases fv;refine gq [2,3,2] J (aq J (p1 T J [2,3,2,0] ⟨J3,n43,gR,.nilIface,[],(bo [(cl bk 103 [(ii s.most),(pp b3),vP]),dT,H4]),uH,vf,(show gh (bJ.mk s.most bA s.eT) bk (bo [(cl bk 103 [(ii s.most),(pp b3),vP]),dT,H4]) from⟨b3,dT,vP,H4,eG,s4,J⟩),J,J⟩ J))
def xz.f (s:bJ) (a:jn):Option (Er×bJ×jn):=dA s.eT (none) (λx1=>(qH.f x1).bind λv2=>(fb.f s v2).bind λv3=>if(!(Er.isNil v3.2.1))=true then(some (v3.2.1,v3.2.2,a)) else(dA v3.2.2.eT (none) (λx4=>(oG.f x4 v3.1).bind λv5=>(fX.f v5.2.2.1).bind λv6=>some (v6,(bJ.mk v3.2.2.most v3.2.2.nav (some v5.2.2.2)),(jn.mk a.Code a.D a.cJ a.Id v5.1 v5.2.1 a.Stats)))))
def xz.R (el:Nat->Addr) (nf:Nat) (pS:Nat) (r:(Er×bJ×jn)):bm:=λu G=> ∃(v0:Value) (H0:Hp) (H1:Hp) (a2 n2 H2:_) (a3 n3 H3:_),gz 414 el r.1 v0 H0/\gh r.2.1 nf H1/\ak jT 94 r.2.2.fF a2 n2 H2/\ak (Fl.int .i64) 3 r.2.2.iK a3 n3 H3/\u=v0/\G=[H0,H1,(cl pS 52 [(ii r.2.2.Code),(ii r.2.2.D),(ii r.2.2.cJ),(ii r.2.2.Id),(ll a2 r.2.2.fF n2),(ll a3 r.2.2.iK n3),(uu r.2.2.Stats.bK),(uu r.2.2.Stats.bL),(uu r.2.2.Stats.bH),(uu r.2.2.Stats.bG),(uu r.2.2.Stats.bR),(uu r.2.2.Stats.bM)]),H2,H3]
theorem xz.c (H:xz.f s a=some r) (hG:fR 414 fk gZ el F) (dg:gh s bk eI) (oZ:ak jT 94 a.fF wj w6 vV) (oY:ak (Fl.int .i64) 3 a.iK wh wZ vU):
 QR 92 [(pp bk),(pp pS)] [eI,(cl pS 52 [(ii a.Code),(ii a.D),(ii a.cJ),(ii a.Id),(ll wj a.fF w6),(ll wh a.iK wZ),(uu a.Stats.bK),(uu a.Stats.bL),(uu a.Stats.bH),(uu a.Stats.bG),(uu a.Stats.bR),(uu a.Stats.bM)]),vV,vU] [] F (xz.R el bk pS r):=by
 unfold xz.f at H;refine aH Tryz.func92 J J (λW=>rc T 6 ?_);obtain⟨b6,H6,xD,H7,s6,s7,sZ⟩:=(λx=>x) dg;refine bY 0 (congrArg some sZ) (fz J ?_);rcases q1:s.eT with _ |x1
 ·replace H:=fx q1 H
  cases H
 replace H:=fy q1 H;rw[q1] at s7;obtain⟨b9,H9,s9,rfl,Un⟩:=s7;refine bY 6 (congrArg some Un) (fz J (rc T 5 (lf T 4 J (kr qH.R [6] [6] J K6 H (qH.c · s9) (λv2 H=>?_)))));rintro _ _ ⟨cK,n10,cu,bX,rfl,rfl⟩;refine fz J (cq [7] J Un (cq [4,4,5] J sZ (kr (fb.R el bk) [] [5] J ad5 H (fb.c · (dE hG (j:=3) J) dg (oO bX 4) bX.ck) (λv3 H=>?_))));rintro _ _ ⟨dG,n11,cM,v12,dL,fe,dr,dS,dF,rfl,rfl⟩;refine fz J (ro T 11 (bz J (EY T J J J (sW dS (j:=6) J)) (ro T 2 (cb J H (λH=>?_) (λH=>?_)))))
 ·refine rc T 8 ?_
  cases H;exact p1 T J [6,6,0,0,0,0] ⟨v12,dL,fe,wj,w6,vV,wh,wZ,vU,dS,dF,oZ,oY,J,J⟩ J
 refine rc T 3 ?_;obtain⟨pw,dT,alN,gB,eG,gw,E6⟩:=(λx=>x) dF;refine bY 7 (congrArg some E6) (fz J ?_);rcases q5:v3.2.2.eT with _ |x4
 ·replace H:=fx q5 H
  cases H
 replace H:=fy q5 H;rw[q5] at gw;obtain⟨rF,fE,fP,rfl,adM⟩:=gw;refine bY 9 (congrArg some adM) (fz J (rc T 4 (lf T 7 J (ro T 1 (kr (oG.R rF) [] [9] J ad6 H (oG.c · fP (oO dr 5) dr.ck) (λv5 H=>?_))))));rintro _ _ ⟨mY,n19,lB,a20,n20,pk,lY,iz,mJ,kt,rfl,rfl⟩;refine fz J (ro T 17 (ku T 0 J (ro T 2 (ku T 0 J (ro T 1 (ke [9] [0,2,5,5,5,5,5] J J (rx T 1 (rc T 3 (kr (fX.R el) [] [] J wJ H (fX.c · (dE hG (j:=1) J)) (λv6 H=>?_))))))))));rintro v22 _ ⟨v22,nI,jd,rfl,rfl⟩;refine fz J (ro T 4 ?_)
 cases H;refine gq [6] J (gq [2,2,5] J (p1 T J [4,4,0,1,1,0] ⟨v22,nI,(bo [(cl bk 103 [(ii v3.2.2.most),(pp pw),(pp rF)]),dT,(bo [lY])]),mY,n19,lB,a20,n20,pk,jd,(show gh (bJ.mk v3.2.2.most v3.2.2.nav (some v5.2.2.2)) bk (bo [(cl bk 103 [(ii v3.2.2.most),(pp pw),(pp rF)]),dT,(bo [lY])]) from⟨pw,dT,(pp rF),(bo [lY]),eG,(show Cu (some v5.2.2.2) (pp rF) (bo [lY]) from⟨rF,lY,kt,J,J⟩),J⟩),iz,mJ,J,J⟩ J))
def tL.f (s:bJ) (o:cR) (a:jn):Option (Er×bJ×jn):=(if(o.Kind==0)=true then(some true) else((DQ.f o).bind λv3=>some (!v3))).bind λx1=>if x1=true then(some ((Er.dW 0),s,a)) else((dA s.eT (if(o.Kind !=1)=true then(some (o.Kind !=8)) else(some false)) (λx6=>some false)).bind λx4=>if x4=true then(some ((Er.num 148 4),s,a)) else((rk.f s o).bind λv7=>if(!(Er.isNil v7))=true then(some (v7,s,a)) else((if(o.Kind==1)=true then((vL.f s o.Map).bind λv23=>some (v23.1,a.Code,a.D,a.cJ,a.Id,a.fF,a.iK,a.Stats.bK,a.Stats.bL,a.Stats.bH,a.Stats.bG,a.Stats.bR,a.Stats.bM,v23.2)) else(if(o.Kind==8)=true then((yI.f s.nav).bind λv24=>some (v7,a.Code,a.D,a.cJ,a.Id,a.fF,a.iK,a.Stats.bK,a.Stats.bL,a.Stats.bH,a.Stats.bG,a.Stats.bR,a.Stats.bM,(bJ.mk s.most v24 s.eT))) else(if(o.Kind==2)=true then((yY.f s o.A o.B).bind λv25=>some (v25.1,a.Code,a.D,a.cJ,a.Id,a.fF,a.iK,a.Stats.bK,a.Stats.bL,a.Stats.bH,a.Stats.bG,a.Stats.bR,a.Stats.bM,v25.2)) else(if(o.Kind==3)=true then((yZ.f s o.A o.B).bind λv26=>some (v26.2.1,a.Code,a.D,a.cJ,v26.1,a.fF,a.iK,a.Stats.bK,a.Stats.bL,a.Stats.bH,a.Stats.bG,a.Stats.bR,a.Stats.bM,v26.2.2)) else(if(o.Kind==4)=true then(dA s.eT ((G2.f o.A o.B).bind λv28=>(fX.f v28).bind λrm=>some (rm,a.Code,a.D,a.cJ,a.Id,a.fF,a.iK,a.Stats.bK,a.Stats.bL,a.Stats.bH,a.Stats.bG,a.Stats.bR,a.Stats.bM,s)) (λmQ=>(xZ.f mQ o.A o.B).bind λv30=>(fX.f v30.1).bind λv31=>some (v31,a.Code,a.D,a.cJ,a.Id,a.fF,a.iK,a.Stats.bK,a.Stats.bL,a.Stats.bH,a.Stats.bG,a.Stats.bR,a.Stats.bM,(bJ.mk s.most s.nav (some v30.2))))) else(if(o.Kind==5)=true then(dA s.eT ((G1.f o.A).bind λv33=>(fX.f v33).bind λRi=>some (Ri,a.Code,a.D,a.cJ,a.Id,a.fF,a.iK,a.Stats.bK,a.Stats.bL,a.Stats.bH,a.Stats.bG,a.Stats.bR,a.Stats.bM,s)) (λxG=>(xY.f xG o.A).bind λv35=>(fX.f v35.1).bind λZd=>some (Zd,a.Code,a.D,a.cJ,a.Id,a.fF,a.iK,a.Stats.bK,a.Stats.bL,a.Stats.bH,a.Stats.bG,a.Stats.bR,a.Stats.bM,(bJ.mk s.most s.nav (some v35.2))))) else(if(o.Kind==6)=true then((vM.f s a o.A o.B).bind λv37=>some (v37.1,v37.2.2.Code,v37.2.2.D,v37.2.2.cJ,v37.2.2.Id,v37.2.2.fF,v37.2.2.iK,v37.2.2.Stats.bK,v37.2.2.Stats.bL,v37.2.2.Stats.bH,v37.2.2.Stats.bG,v37.2.2.Stats.bR,v37.2.2.Stats.bM,v37.2.1)) else(if(o.Kind==7)=true then((xz.f s a).bind λpL=>some (pL.1,pL.2.2.Code,pL.2.2.D,pL.2.2.cJ,pL.2.2.Id,pL.2.2.fF,pL.2.2.iK,pL.2.2.Stats.bK,pL.2.2.Stats.bL,pL.2.2.Stats.bH,pL.2.2.Stats.bG,pL.2.2.Stats.bR,pL.2.2.Stats.bM,pL.2.1)) else(some (v7,a.Code,a.D,a.cJ,a.Id,a.fF,a.iK,a.Stats.bK,a.Stats.bL,a.Stats.bH,a.Stats.bG,a.Stats.bR,a.Stats.bM,s)))))))))).bind λ(x8,x9,aN,bj,bA,aT,bd,cE,ez,du,eH,dh,lW,eX)=>some (x8,eX,(jn.mk x9 aN bj bA aT bd (gD.mk cE ez du eH dh lW))))))
def tL.R (el:Nat->Addr) (nf:Nat) (pS:Nat) (r:(Er×bJ×jn)):bm:=λu G=> ∃(v0:Value) (H0:Hp) (H1:Hp) (a2 n2 H2:_) (a3 n3 H3:_),gz 414 el r.1 v0 H0/\gh r.2.1 nf H1/\ak jT 94 r.2.2.fF a2 n2 H2/\ak (Fl.int .i64) 3 r.2.2.iK a3 n3 H3/\u=v0/\G=[H0,H1,(cl pS 52 [(ii r.2.2.Code),(ii r.2.2.D),(ii r.2.2.cJ),(ii r.2.2.Id),(ll a2 r.2.2.fF n2),(ll a3 r.2.2.iK n3),(uu r.2.2.Stats.bK),(uu r.2.2.Stats.bL),(uu r.2.2.Stats.bH),(uu r.2.2.Stats.bG),(uu r.2.2.Stats.bR),(uu r.2.2.Stats.bM)]),H2,H3]
theorem tL.c (H:tL.f s o a=some r) (hG:fR 414 fk gZ el F) (dg:gh s bk eI) (Bp:aU (Fl.int .u8) o.Map CF F) (Bg:aa o.Map<=DJ) (oZ:ak jT 94 a.fF wj w6 vV) (oY:ak (Fl.int .i64) 3 a.iK wh wZ vU):
 QR 55 [(pp bk),(.agg #[(ii o.Kind),(ii o.A),(ii o.B),(ll CF o.Map DJ)]),(pp pS)] [eI,(cl pS 52 [(ii a.Code),(ii a.D),(ii a.cJ),(ii a.Id),(ll wj a.fF w6),(ll wh a.iK wZ),(uu a.Stats.bK),(uu a.Stats.bL),(uu a.Stats.bH),(uu a.Stats.bG),(uu a.Stats.bR),(uu a.Stats.bM)]),vV,vU] [] F (tL.R el bk pS r):=by
 unfold tL.f at H;refine aH Tryz.func55 J J (λW=>rc T 2 (nc T J (λb5=>fz J (ro T 5 (mq H [0,2,4] [4,0,0,0,0,0] (λz2 (x1:Bool)=>(x1=z2,[(7,(bb x1))],[])) J J (λz2 Z1 _=>?_) ?_)))))
 ·refine rc T 2 (lf T 5 J (ro T 2 (ab 11 J Z1 (λZ1=>?_) (λZ1=>?_))))
  ·refine ro T 7 (am _ [4,0,0,0,0,0] (oi Z1) J J)
  refine lm T 5 J (k [] J afK Z1 (DQ.c · (rO Bp 4) Bg) (λv3 Z1=>ro T 5 (am _ [4,0,0,0,0,0] (oi Z1) J J)))
 rintro _ x1 rfl H;refine cb J H (λH=>?_) (λH=>?_)
 ·refine rc T 2 (lg T J (tm (j:=0) J hG (g:=0) (by decide)) (ro T 6 ?_))
  cases H;refine aq J (p1 T J [6,1,1,1,1,0] ⟨(.iface 414 (.pointer (some (el 0)))),[],eI,wj,w6,vV,wh,wZ,vU,py,dg,oZ,oY,J,J⟩ J)
 refine mq H [0,2,4] [0,0,0,0,0,0] (λz5 (x4:Bool)=>(x4=z5,[(17,(bb x4))],[])) J J (λz5 Z5 _=>?_) ?_
 ·obtain⟨b8,H8,alT,H9,s8,s9,s_⟩:=(λx=>x) dg;refine bY 1 (congrArg some s_) (fz J ?_);rcases q6:s.eT with _ |x6
  ·replace Z5:=fx q6 Z5;rw[q6] at s9;obtain⟨rfl,rfl⟩:=s9;refine rc T 4 (lf T 5 J (ro T 3 (lf T 4 J (ro T 3 (ab 28 J Z5 (λZ5=>?_) (λZ5=>?_))))))
   ·refine ro T 1 (lf T 4 J (ro T 5 (cq [5,5,5] J s_ (am _ [0,4,0,0,0,0] (oi Z5) J J))))
   refine ro T 7 (cq [5,5,5] J s_ (am _ [0,4,0,0,0,0] (oi Z5) J J))
  replace Z5:=fy q6 Z5;rw[q6] at s9;obtain⟨j7,cM,dr,rfl,Ul⟩:=s9;refine bY 7 (congrArg some Ul) (fz J (rc T 4 (lf T 5 J (ro T 14 (cq [7] J Ul (cq [5,5,5] J s_ (am _ [0,4,0,0,0,0] (oi Z5) J J)))))))
 rintro _ x4 rfl H;refine cb J H (λH=>?_) (λH=>?_)
 ·refine rc T 2 (bz J (iG T J J J J) (ro T 6 ?_))
  cases H;refine aq J (p1 T J [6,1,1,1,1,0] ⟨(.iface 148 (ii 4)),[],eI,wj,w6,vV,wh,wZ,vU,sV,dg,oZ,oY,J,J⟩ J)
 refine rc T 7 (lm T 5 J (kr (rk.R el) [1] [1] J afL H (rk.c · (dE hG (j:=0) J) dg (rO Bp 0) Bg) (λv7 H=>?_)));rintro iB _ ⟨iB,fe,dF,rfl,rfl⟩;refine fz J (ro T 6 (bz J (EY T J J J (sW dF (j:=5) J)) (ro T 2 (cb J H (λH=>?_) (λH=>?_)))))
 ·refine rc T 8 ?_
  cases H;exact p1 T J [5,5,1,1,1,0] ⟨iB,fe,eI,wj,w6,vV,wh,wZ,vU,dF,dg,oZ,oY,J,J⟩ J
 refine rc T 2 (mq H [] [0] (λz22 (⟨x8,x9,aN,bj,bA,aT,bd,cE,ez,du,eH,dh,lW,eX,MF,gf,kC,n15,dT,kD,n16,gB,eZ⟩:Er×Int×Int×Int×Int×List fw×List Int×Int×Int×Int×Int×Int×Int×bJ×Value×Hp×Option Addr×Nat×Hp×Option Addr×Nat×Hp×Hp)=>((x8,x9,aN,bj,bA,aT,bd,cE,ez,du,eH,dh,lW,eX)=z22/\gz 414 el x8 MF gf/\ak jT 94 aT kC n15 dT/\ak (Fl.int .i64) 3 bd kD n16 gB/\gh eX bk eZ,[(6,MF)],[gf,(cl pS 52 [(ii x9),(ii aN),(ii bj),(ii bA),(ll kC aT n15),(ll kD bd n16),(uu cE),(uu ez),(uu du),(uu eH),(uu dh),(uu lW)]),dT,gB,eZ])) J J (λz22 bh _=>?_) ?_)
 ·refine rc T 3 (lf T 4 J (ro T 9 (cb J bh (λbh=>?_) (λbh=>?_))))
  ·refine rc T 3 (lf T 4 J (kr (vL.R el bk) [] [6] J afM bh (vL.c · (dE hG (j:=0) J) dg (rO Bp 0) Bg) (λv23 bh=>?_)));rintro fq _ ⟨fq,fE,lB,fP,iz,rfl,rfl⟩;refine fz J (ro T 4 (am (_,_,_,_,_,_,_,_,_,_,_,_,_,_,_,_,_,_,_,_,_,_,_) [0,5,0,0,0,2] ⟨oi bh,fP,oZ,oY,iz⟩ J J))
  refine rc T 6 (cb J bh (λbh=>?_) (λbh=>?_))
  ·obtain⟨CM,lY,Zc,nI,kt,jd,adK⟩:=(λx=>x) dg;refine bY 6 (congrArg some adK) (fz J (rc T 4 (lf T 6 J (kr (yI.R CM) [] [7] J afN bh (yI.c · kt) (λv24 bh=>?_)))));rintro _ _ ⟨j5,iA,rfl,rfl⟩;refine fz J (ro T 3 (gq [6,7,6] J (am (_,_,_,_,_,_,_,_,_,_,_,_,_,_,_,_,_,_,_,_,_,_,_) [0,4,0,0,0,1] ⟨oi bh,dF,oZ,oY,(show gh (bJ.mk s.most v24 s.eT) bk (bo [(cl bk 103 [(ii s.most),(pp CM),Zc]),j5,nI]) from⟨CM,j5,Zc,nI,iA,jd,J⟩)⟩ J J)))
  refine rc T 6 (cb J bh (λbh=>?_) (λbh=>?_))
  ·refine rc T 3 (lf T 4 J (ro T 1 (lf T 4 J (kr (yY.R el bk) [] [6] J afO bh (yY.c · (dE hG (j:=0) J) dg) (λv25 bh=>?_)))));rintro v24 _ ⟨v24,sF,iD,mL,jW,rfl,rfl⟩;refine fz J (ro T 4 (am (_,_,_,_,_,_,_,_,_,_,_,_,_,_,_,_,_,_,_,_,_,_,_) [0,5,0,0,0,2] ⟨oi bh,mL,oZ,oY,jW⟩ J J))
  refine rc T 6 (cb J bh (λbh=>?_) (λbh=>?_))
  ·refine rc T 4 (lf T 4 J (ro T 1 (lf T 4 J (kr (yZ.R el bk) [] [6] J afP bh (yZ.c · (dE hG (j:=0) J) dg) (λv26 bh=>?_)))));rintro _ _ ⟨v26,pM,Gg,oX,xm,rfl,rfl⟩;refine fz J (ro T 5 (ku T 1 J (ro T 4 (am (_,_,_,_,_,_,_,_,_,_,_,_,_,_,_,_,_,_,_,_,_,_,_) [0,5,0,0,0,2] ⟨oi bh,oX,oZ,oY,xm⟩ J J))))
  refine rc T 6 (cb J bh (λbh=>?_) (λbh=>?_))
  ·obtain⟨Bb,sG,alR,sH,sb,qo,KV⟩:=(λx=>x) dg;refine bY 6 (congrArg some KV) (fz J ?_);rcases FJ:s.eT with _ |mQ
   ·replace bh:=fx FJ bh;rw[FJ] at qo;obtain⟨rfl,rfl⟩:=qo;refine ke [0,4] [0,0,0,0,0,1,1,1] J J (fz J (rq [] [0,0,0,0,0,0,0,0] J mix (bU bT) (λhg pf=>ha T 8 [0,1,2] sz hg pf J (al T 3 5 sz hg pf J J J (ha T 6 [4] sz hg pf J (al T 5 4 sz hg pf J J J (ha T 4 [6] sz hg pf J (al T 7 4 sz hg pf J J J (ao 8 (kh [] J Vq bh (G2.c ·) (λv28 bh=>an sz (ao 9 (kR (fX.R el) [] [] J wJ bh (fX.c · (dE hG (j:=0) J)) (λrm bh=>?_))))))))))))));rintro v33 _ ⟨v33,JN,xn,rfl,rfl⟩;refine fz J (an (so [0,0,0,0,0,0,0,0]) (ha T 0 [10] (so [0,0,0,0,0,0,0,0]) hg pf J (ae (rx T 2 (cq [5,5,5] J KV (am (_,_,_,_,_,_,_,_,_,_,_,_,_,_,_,_,_,_,_,_,_,_,_) [0,4,0,0,0,1] ⟨oi bh,xn,oZ,oY,dg⟩ J J))))))
   replace bh:=fy FJ bh;rw[FJ] at qo;obtain⟨xU,JM,AE,rfl,adN⟩:=qo;refine bY 8 (congrArg some adN) (fz J (ke [0,4] [0,0,0,0,0,1,1,1] J J (fz J (rq [8] [0,0,0,0,0,0,0,0] J mix (bU bT) (λhg pf=>ha T 8 [0,1,2] sz hg pf J (al T 3 5 sz hg pf J J J (ha T 6 [4] sz hg pf J (al T 5 4 sz hg pf J J J (ha T 4 [6] sz hg pf J (al T 7 4 sz hg pf J J J (ao 8 (kR (xZ.R xU) [] [7] J Vq bh (xZ.c · AE) (λv30 bh=>?_)))))))))))));rintro _ _ ⟨vT,yV,rfl,rfl⟩;refine fz J (an sl (ao 9 (kR (fX.R el) [] [] J wJ bh (fX.c · (dE hG (j:=0) J)) (λv31 bh=>?_))));rintro v35 _ ⟨v35,JO,Mj,rfl,rfl⟩;refine fz J (an sl (hb T 10 sl hg pf J (ae (rx T 2 (gq [7] J (gq [5,5,6] J (am (_,_,_,_,_,_,_,_,_,_,_,_,_,_,_,_,_,_,_,_,_,_,_) [0,4,0,0,0,1] ⟨oi bh,Mj,oZ,oY,(show gh (bJ.mk s.most s.nav (some v30.2)) bk (bo [(cl bk 103 [(ii s.most),(pp Bb),(pp xU)]),sG,(bo [vT])]) from⟨Bb,sG,(pp xU),(bo [vT]),sb,(show Cu (some v30.2) (pp xU) (bo [vT]) from⟨xU,vT,yV,J,J⟩),J⟩)⟩ J J)))))))
  refine rc T 6 (cb J bh (λbh=>?_) (λbh=>?_))
  ·obtain⟨Sv,A4,alS,MV,BR,BS,Uh⟩:=(λx=>x) dg;refine bY 6 (congrArg some Uh) (fz J ?_);rcases IY:s.eT with _ |xG
   ·replace bh:=fx IY bh;rw[IY] at BS;obtain⟨rfl,rfl⟩:=BS;refine ke [0,4] [0,0,0,0,0,1,1,1] J J (fz J (rq [] [0,0,0,0,0,0,0,0] J mix (bU bT) (λhg pf=>ha T 6 [0,1,2] sz hg pf J (al T 3 5 sz hg pf J J J (ha T 4 [4] sz hg pf J (al T 5 4 sz hg pf J J J (ao 6 (kh [] J Vr bh (G1.c ·) (λv33 bh=>an sz (ao 7 (kR (fX.R el) [] [] J wJ bh (fX.c · (dE hG (j:=0) J)) (λRi bh=>?_))))))))))));rintro MH _ ⟨MH,lZ,QP,rfl,rfl⟩;refine fz J (an (so [0,0,0,0,0,0,0,0]) (ha T 0 [8] (so [0,0,0,0,0,0,0,0]) hg pf J (ae (rx T 2 (cq [5,5,5] J Uh (am (_,_,_,_,_,_,_,_,_,_,_,_,_,_,_,_,_,_,_,_,_,_,_) [0,4,0,0,0,1] ⟨oi bh,QP,oZ,oY,dg⟩ J J))))))
   replace bh:=fy IY bh;rw[IY] at BS;obtain⟨GR,Gi,AF,rfl,adO⟩:=BS;refine bY 8 (congrArg some adO) (fz J (ke [0,4] [0,0,0,0,0,1,1,1] J J (fz J (rq [6] [0,0,0,0,0,0,0,0] J mix (bU bT) (λhg pf=>ha T 6 [0,1,2] sz hg pf J (al T 3 5 sz hg pf J J J (ha T 4 [4] sz hg pf J (al T 5 4 sz hg pf J J J (ao 6 (kR (xY.R GR) [] [7] J Vr bh (xY.c · AF) (λv35 bh=>?_)))))))))));rintro _ _ ⟨gR,uH,rfl,rfl⟩;refine fz J (an sl (ao 7 (kR (fX.R el) [] [] J wJ bh (fX.c · (dE hG (j:=0) J)) (λZd bh=>?_))));rintro v44 _ ⟨v44,Zu,D_,rfl,rfl⟩;refine fz J (an sl (hb T 8 sl hg pf J (ae (rx T 2 (gq [7] J (gq [5,5,6] J (am (_,_,_,_,_,_,_,_,_,_,_,_,_,_,_,_,_,_,_,_,_,_,_) [0,4,0,0,0,1] ⟨oi bh,D_,oZ,oY,(show gh (bJ.mk s.most s.nav (some v35.2)) bk (bo [(cl bk 103 [(ii s.most),(pp Sv),(pp GR)]),A4,(bo [gR])]) from⟨Sv,A4,(pp GR),(bo [gR]),BR,(show Cu (some v35.2) (pp GR) (bo [gR]) from⟨GR,gR,uH,J,J⟩),J⟩)⟩ J J)))))))
  refine rc T 6 (cb J bh (λbh=>?_) (λbh=>?_))
  ·refine rc T 4 (lf T 4 J (ro T 1 (lf T 4 J (kr (vM.R el bk pS) [] [6,1,1,1] J afQ bh (vM.c · (dE hG (j:=0) J) dg oZ oY) (λv37 bh=>?_)))));rintro v46 _ ⟨v46,Zv,Gj,Gv,n48,Gk,a49,n49,Zw,QQ,I9,Mk,s49,rfl,rfl⟩;refine fz J (ro T 4 (am (_,_,_,_,_,_,_,_,_,_,_,_,_,_,_,_,_,_,_,_,_,_,_) [0,2,3,3,3,2] ⟨oi bh,QQ,Mk,s49,I9⟩ J J))
  refine rc T 6 (cb J bh (λbh=>?_) (λbh=>?_))
  ·refine rc T 3 (kr (xz.R el bk pS) [] [6,1,1,1] J afR bh (xz.c · (dE hG (j:=0) J) dg oZ oY) (λpL bh=>?_));rintro v50 _ ⟨v50,Zx,Zy,M6,n52,MX,a53,n53,Zz,QS,Ml,FQ,QT,rfl,rfl⟩;refine fz J (ro T 4 (am (_,_,_,_,_,_,_,_,_,_,_,_,_,_,_,_,_,_,_,_,_,_,_) [0,2,3,3,3,2] ⟨oi bh,QS,FQ,QT,Ml⟩ J J))
  refine rc T 3 (am (_,_,_,_,_,_,_,_,_,_,_,_,_,_,_,_,_,_,_,_,_,_,_) [0,4,0,0,0,1] ⟨oi bh,dF,oZ,oY,dg⟩ J J)
 rintro _ ⟨x8,x9,aN,bj,bA,aT,bd,cE,ez,du,eH,dh,lW,eX,MF,gf,kC,n15,dT,kD,n16,gB,eZ⟩ ⟨rfl,gQ,eG,gw,fO⟩ H;refine rc T 7 ?_
 cases H;exact p1 T J [1,4,1,1,1,0] ⟨MF,gf,eZ,kC,n15,dT,kD,n16,gB,gQ,fO,eG,gw,J,J⟩ J
def Eo.f (err:Er):Option Int:=(wA.f err (Er.dW 0)).bind λv1=>if v1=true then(some 5) else((G7.f err).bind λv2=>if(Option.isSome v2)=true then(some (Option.getD v2 0)) else(some 0))
theorem Eo.c (H:Eo.f err=some r) (hG:fR 414 fk gZ el F) (ET:ml 414 el err Rj F):
 QU 56 [Rj] [] F (ii r):=by
 unfold Eo.f at H;refine aH Tryz.func56 J J (λW=>rc T 7 (nc T J (λb1=>fz J (ro T 7 (lg T J (tm (j:=0) J hG (g:=0) (by decide)) (k [] J K7 H (wA.c err (Er.dW 0) _ _ · (dE hG (j:=0) J) (G8 ET (j:=0) J) Ks) (λv1 H=>ro T 3 (cb J H (λH=>?_) (λH=>?_)))))))))
 ·refine rc T 8 ?_
  cases H;exact p0 T J [0] J
 refine rc T 3 (bz J (iG T J J J J) ?_);obtain⟨v2,V3,H⟩:=fY H;refine ba (wm (As:=[(cl b1 148 [(ii 0)])]) (R:=[F]) (B:=λ_=>[(cl b1 148 [(ii (Option.getD v2 0))])]) [1] J J J J K8 J J (G7.c err v2 _ V3 (dE hG (j:=0) J) (G8 ET (j:=0) J)) (λ_=>ro T 3 (cb J H (λH=>?_) (λH=>?_))))
 ·refine rc T 2 (lf T 1 J (ro T 6 ?_))
  cases H;exact p0 T J [0] J
 refine rc T 9 ?_
 cases H;exact p0 T J [0] J
theorem Y0.c {b:Nat} {c0 c1 c2:Value} (F:Hp) (m:(b,Obj.cells #[c0,c1,c2] 103 (0,0))∈F):
 QU 42 [(pp b)] [] F c1:=by
 refine aH Tryz.func42 J J (λW=>rc T 12 (fj J (rc T 7 (lg T J (oP (j:=0) m J J) (ro T 4 (GP (T:=T) J (.tmp J .nil) (λw o=>⟨(),J,DT [0] J o⟩)))))))
def AN.f (s:bJ):Option gD:=(DL.f s.nav).bind λv1=>some v1
theorem AN.c (H:AN.f s=some r) (dg:gh s bk eI):
 QU 22 [(pp bk)] [eI] F (.agg #[(uu r.bK),(uu r.bL),(uu r.bH),(uu r.bG),(uu r.bR),(uu r.bM)]):=by
 unfold AN.f at H;refine aH Tryz.func22 J J (λW=>rc T 2 (nc T J (λb2=>fz J (ro T 3 ?_))));obtain⟨b4,H4,zj,H5,s4,s5,dI⟩:=(λx=>x) dg;refine bY 0 (congrArg some dI) (fz J (rc T 2 (ba (wm (B:=λ_=>[]) [] J J J J Vi J J (Y0.c _ (DE (j:=2) J)) (λ_=>k [3] J afA H (DL.c · s4) (λv1 H=>ku T 1 J (ro T 3 ?_)))))))
 cases H;refine cq [2,2,2] J dI (pb T J (.c_ (j:=1) [(uu r.bK),(uu r.bL),(uu r.bH),(uu r.bG),(uu r.bR),(uu r.bM)] J J J J J J J .nil) [2,0] () J J)
def jZ.f (s:bJ) (o:cR):Option (jn×bJ):=(tL.f s o (jn.mk 0 0 5 (-1) ([]:List fw) ([]:List Int) (gD.mk 0 0 0 0 0 0))).bind λv1=>if(!(Er.isNil v1.1))=true then((Eo.f (Er.wrap 110 [o.Kind] v1.1)).bind λv2=>(AN.f v1.2.1).bind λv3=>some ((jn.mk v2 v1.2.2.D v1.2.2.cJ v1.2.2.Id v1.2.2.fF v1.2.2.iK v3),v1.2.1)) else((AN.f v1.2.1).bind λv4=>some ((jn.mk v1.2.2.Code v1.2.2.D v1.2.2.cJ v1.2.2.Id v1.2.2.fF v1.2.2.iK v4),v1.2.1))
def jZ.R (el:Nat->Addr) (nf:Nat) (r:(jn×bJ)):bm:=λu G=> ∃(a0 n0 H0:_) (a1 n1 H1:_) (H2:Hp),ak jT 94 r.1.fF a0 n0 H0/\ak (Fl.int .i64) 3 r.1.iK a1 n1 H1/\gh r.2 nf H2/\u=(.agg #[(ii r.1.Code),(ii r.1.D),(ii r.1.cJ),(ii r.1.Id),(ll a0 r.1.fF n0),(ll a1 r.1.iK n1),(uu r.1.Stats.bK),(uu r.1.Stats.bL),(uu r.1.Stats.bH),(uu r.1.Stats.bG),(uu r.1.Stats.bR),(uu r.1.Stats.bM)])/\G=[H0,H1,H2]
theorem jZ.c (H:jZ.f s o=some r) (hG:fR 414 fk gZ el F) (dg:gh s bk eI) (Bp:aU (Fl.int .u8) o.Map CF F) (Bg:aa o.Map<=DJ):
 QR 24 [(pp bk),(.agg #[(ii o.Kind),(ii o.A),(ii o.B),(ll CF o.Map DJ)])] [eI] [] F (jZ.R el bk r):=by
 unfold jZ.f at H;refine aH Tryz.func24 J J (λW=>rc T 2 (nc T J (λb2=>fz J (nc T J (λb3=>fz J (ro T 5 (nc T J (λb4=>fz J (ku T 4 J (ro T 9 (fj J (rc T 5 (ku T 4 J (ro T 1 (ks [0,3,4,5] J (rx T 1 (rc T 4 (lm T 2 J (aq J (aq J (kr (tL.R el bk b4) [] [0,3,3,3] J afB H (tL.c (a:=(jn.mk 0 0 5 (-1) ([]:List fw) ([]:List Int) (gD.mk 0 0 0 0 0 0))) · (dE hG (j:=0) J) dg (rO Bp 0) Bg (ak.nil (k:=jT) (E:=94)) (ak.nil (k:=(Fl.int .i64)) (E:=3))) (λv1 H=>?_))))))))))))))))))))));rintro v7 _ ⟨v7,H7,H8,a9,n9,H9,cK,n10,cu,s7,s8,s9,bX,rfl,rfl⟩;refine fz J (ro T 6 (bz J (EY T J J J (sW s7 (j:=3) J)) (ro T 2 (cb J H (λH=>?_) (λH=>?_)))))
 ·refine rc T 2 (lf T 1 J (ro T 1 (bz J (TN (vs:=[(0,(ii o.Kind)),(1,v7)]) T [(0,[(ii o.Kind)]),(1,[v7])] J J J J J (by simp only[List.map,Tt s7];rfl) J) ?_)))
  refine nc T J (λj7=>fz J (gq [8,3] J (bz J (iG T J J J J) (k [] J afC H (Eo.c · (dE hG (j:=0) J) (sW (qL s7) (j:=7) J)) (λv2 H=>ro T 1 (ku T 4 J (ro T 5 (k [3] J U6 H (AN.c · s8) (λv3 H=>ro T 1 (ku T 4 J (ro T 1 (ke [4,5] [0,1,1,1,1,1] J J (rx T 3 (lm T 3 J (ku T 1 J (ro T 1 (rx T 2 ?_)))))))))))))))))
  cases H;exact pb T J (.c_ (j:=1) [(ii v2),(ii v1.2.2.D),(ii v1.2.2.cJ),(ii v1.2.2.Id),(ll a9 v1.2.2.fF n9),(ll cK v1.2.2.iK n10),(uu v3.bK),(uu v3.bL),(uu v3.bH),(uu v3.bG),(uu v3.bR),(uu v3.bM)] J J J J J J J .nil) [4,4,2,0] ⟨(_,_),a9,n9,H9,cK,n10,cu,H8,s9,bX,s8,J,J⟩ J J
 refine rc T 5 (k [4] J U6 H (AN.c · s8) (λv4 H=>ro T 1 (ku T 5 J (ro T 4 (lm T 5 J (ku T 2 J (ro T 1 (ke [4] [0,1,2,3,3] J J (rx T 1 (rc T 1 ?_))))))))))
 cases H;exact pb T J (.c_ (j:=1) [(ii v1.2.2.Code),(ii v1.2.2.D),(ii v1.2.2.cJ),(ii v1.2.2.Id),(ll a9 v1.2.2.fF n9),(ll cK v1.2.2.iK n10),(uu v4.bK),(uu v4.bL),(uu v4.bH),(uu v4.bG),(uu v4.bR),(uu v4.bM)] J J J J J J J .nil) [3,3,2,0] ⟨(_,_),a9,n9,H9,cK,n10,cu,H8,s9,bX,s8,J,J⟩ J J
def tK.f (s:bJ):Option aJ:=(w9.f s.nav).bind λv1=>some v1
def tK.R (r:aJ):bm:=λu G=> ∃a0 n0 H0,ak (Fl.int .u8) 5 r.C a0 n0 H0/\u=(.agg #[(ii r.W),(ii r.H),(ll a0 r.C n0)])/\G=[H0]
theorem tK.c (H:tK.f s=some r) (dg:gh s bk eI):
 QR 14 [(pp bk)] [eI] [eI] F (tK.R r):=by
 unfold tK.f at H;refine aH Tryz.func14 J J (λW=>rc T 2 (nc T J (λb2=>fz J (ro T 3 ?_))));obtain⟨b4,H4,zj,H5,s4,s5,dI⟩:=(λx=>x) dg;refine bY 0 (congrArg some dI) (fz J (rc T 2 (ba (wm (B:=λ_=>[]) [] J J J J Vi J J (Y0.c _ (DE (j:=2) J)) (λ_=>kr w9.R [3] [3] J afw H (w9.c · s4) (λv1 H=>?_))))));rintro _ _ ⟨a6,n6,H6,s6,rfl,rfl⟩;refine fz J (ku T 1 J (ro T 3 ?_))
 cases H;refine cq [2,4,2] J dI (pb T J (.c_ (j:=1) [(ii r.W),(ii r.H),(ll a6 r.C n6)] J J J J J J J .nil) [2,2,0] ⟨(_,_),a6,n6,H6,s6,J,J⟩ J J)
theorem Y1.c {b:Nat} {c0 c1 c2:Value} (F:Hp) (m:(b,Obj.cells #[c0,c1,c2] 103 (0,0))∈F):
 QU 53 [(pp b)] [] F c2:=by
 refine aH Tryz.func53 J J (λW=>rc T 12 (fj J (rc T 7 (lg T J (oP (j:=0) m J J) (ro T 4 (GP (T:=T) J (.tmp J .nil) (λw o=>⟨(),J,DT [0] J o⟩)))))))
def B6.f (s:bJ):Option (List aI):=dA s.eT ((Bk.f).bind λv2=>some v2) (λx1=>(qH.f x1).bind λv3=>some v3)
def B6.R (r:(List aI)):bm:=λu G=> ∃a0 n0 H0,ak mc 67 r a0 n0 H0/\u=(ll a0 r n0)/\G=[H0]
theorem B6.c (H:B6.f s=some r) (dg:gh s bk eI):
 QR 23 [(pp bk)] [eI] [eI] F (B6.R r):=by
 unfold B6.f at H;refine aH Tryz.func23 J J (λW=>rc T 6 ?_);obtain⟨b3,H3,vP,H4,s3,s4,cL⟩:=(λx=>x) dg;refine bY 0 (congrArg some cL) (fz J ?_);rcases q1:s.eT with _ |x1
 ·replace H:=fx q1 H;rw[q1] at s4;obtain⟨rfl,rfl⟩:=s4;refine rc T 2 (ba (wm (B:=λ_=>[]) [] J J J J Vk J J (Y1.c _ (DE (j:=1) J)) (λ_=>kr Bk.R [] [] J K6 H (Bk.c ·) (λv2 H=>?_))));rintro _ _ ⟨a7,n7,H7,s7,rfl,rfl⟩;refine fz J (ro T 4 ?_)
  cases H;refine cq [1,1,1] J cL (p1 T J [1,1,0] ⟨a7,n7,H7,s7,J,J⟩ J)
 replace H:=fy q1 H;rw[q1] at s4;obtain⟨b6,H6,s6,rfl,yg⟩:=s4;refine bY 3 (congrArg some yg) (fz J (rc T 2 (ba (wm (B:=λ_=>[]) [] J J J J Vk J J (Y1.c _ (DE (j:=1) J)) (λ_=>kr qH.R [3] [3] J K6 H (qH.c · s6) (λv3 H=>?_))))));rintro _ _ ⟨a8,n8,H8,s8,rfl,rfl⟩;refine fz J (ro T 4 ?_)
 cases H;refine cq [4] J yg (cq [1,1,2] J cL (p1 T J [1,1,0] ⟨a8,n8,H8,s8,J,J⟩ J))
end
noncomputable section
def xi.l0:Nat->(List fw)->(List fw)->Int->Option Bool
 |0,_,_,_=>none
 |k3+1,a,b,x2=>if x2<(aa a:Int) then(if(0<=x2/\x2<(aa a:Int)) then(if(0<=x2/\x2<(aa b:Int)) then(if(!(((rd a x2).Id==(rd b x2).Id)&&(((rd a x2).To==(rd b x2).To)&&true)))=true then(some false) else(xi.l0 k3 a b (af (x2+1)))) else none) else none) else(some true)
def xi.f (a:(List fw)) (b:(List fw)):Option Bool:=if((aa a:Int)!=(aa b:Int))=true then(some false) else(xi.l0 fuel a b 0)
theorem xi.c (H:xi.f a b=some r) (E8:aU jT a Gz F) (NI:aa a<=IK) (iH:aU jT b kE F) (gN:aa b<=ki):
 QU 46 [(ll Gz a IK),(ll kE b ki)] [] F (bb r):=by
 unfold xi.f at H;refine aH Tryz.func46 J J (λW=>rc T 15 (cb J H (λH=>?_) (λH=>?_)))
 ·refine rc T 7 ?_
  cases H;exact p0 T J [0] J
 refine rc T 9 (lq [0,1] [0] (λ(⟨k3,x2⟩:Nat×Int)=>(xi.l0 k3 a b x2=some r,[(5,(ii x2))],[])) J J (fuel,0) [0] H J J ?_);rintro k3 x2 Z2;replace Z2:xi.l0 (k3+1) a b x2=some r:=Z2;rw[xi.l0] at Z2;refine rc T 9 (cd J Z2 (λZ2=>?_) (λZ2=>?_))
 ·refine rc T 5 (dy mix aA (au T J (au T J ?_)));obtain⟨c4,Z2⟩:=aF Z2;obtain⟨q1,o1,e1⟩:=E8.addr c4.1 c4.2;refine br J J J (cV T J J J J J e1 c4.1 c4.2) (br J J J (gp T (cs:=[(ii (rd a x2).Id),(ii (rd a x2).To)]) J J J J J J (iI (k:=jT) (rO E8 0) e1 c4 J)) (au T J (au T J ?_)));obtain⟨c5,Z2⟩:=aF Z2;obtain⟨q2,o2,e2⟩:=iH.addr c5.1 c5.2;refine br J J J (cV T J J J J J e2 c5.1 c5.2) (br J J J (gp T (cs:=[(ii (rd b x2).Id),(ii (rd b x2).To)]) J J J J J J (iI (k:=jT) (rO iH 0) e2 c5 J)) (br J J J (Oe T (((rd a x2).Id==(rd b x2).Id)&&(((rd a x2).To==(rd b x2).To)&&true)) J J J J akh aA J) (cU (rx T 1 (cb J Z2 (λZ2=>?_) (λZ2=>?_))))))
  ·refine rc T 11 ?_
   cases Z2;exact p0 T J [0] J
  refine rc T 9 (ar _ [0] Z2 J J)
 refine rc T 11 ?_
 cases Z2;exact p0 T J [0] J
end
noncomputable section
def yR.f (x:p9) (n:Int):Option cR:=((fo.f x.B 1 6).bind λv6=>(fo.f x.A 0 5).bind λv7=>(fo.f x.A 0 9).bind λv8=>some (v6,(af (n+v7)),v8,([]:List Int))).bind λ(x1,x2,x3,x4)=>if(x1==1)=true then(some (cR.mk x1 0 0 [2,0,1,0,1,(bP x.A),(bP x.B)])) else(if(x1==2)=true then((fo.f x.A 0 (af (n-1))).bind λdC=>(fo.f x.A 0 1).bind λcP=>some (cR.mk x1 dC (af (cP*255)) x4)) else(if(x1==5)=true then(some (cR.mk x1 x2 0 x4)) else(some (cR.mk x1 x2 x3 x4))))
def yR.R (r:cR):bm:=λu G=> ∃a0 n0 H0,ak (Fl.int .u8) 5 r.Map a0 n0 H0/\u=(.agg #[(ii r.Kind),(ii r.A),(ii r.B),(ll a0 r.Map n0)])/\G=[H0]
theorem yR.c (H:yR.f x n=some r):
 QR 50 [(.agg #[(ii x.Kind),(ii x.A),(ii x.B)]),(ii n)] [] [] F (yR.R r):=by
 unfold yR.f at H;refine aH Tryz.func50 J J (λW=>rc T 2 (nc T J (λb1=>nc T J (λb2=>ro T 2 (mq H [1,2,4] [0,0,0] (λz5 (⟨x1,x2,x3,x4,b3,a4,n4,H4⟩:Int×Int×Int×List Int×Nat×Option Addr×Nat×Hp)=>((x1,x2,x3,x4)=z5/\ak (Fl.int .u8) 5 x4 a4 n4 H4,[(5,(pp b3))],[(cl b3 55 [(ii x1),(ii x2),(ii x3),(ll a4 x4 n4)]),H4])) J J (λz5 Z1 _=>?_) ?_)))))
 ·refine ks [1,2,4] J (fz J (rz [] mix (bU bT) (λhg pf=>ha T 13 [0] sz hg pf J (al T 1 1 sz hg pf J J J (ha T 10 [3,4] sz hg pf J (al T 5 1 sz hg pf J J J (ha T 8 [8] sz hg pf J (al T 9 1 sz hg pf J J J (gV 2 12 ?_ ?_)))))))))
  ·refine kh [] J lL Z1 (fo.c ·) (λv6 Z1=>an sz (gV 6 12 ?_ ?_))
   ·refine kh [] J lL Z1 (fo.c ·) (λv7 Z1=>an sz (ha T 4 [7] sz hg pf J (gV 10 12 ?_ ?_)))
    ·refine kh [] J lL Z1 (fo.c ·) (λv8 Z1=>an sz (ha T 2 [11] sz hg pf J (ao 12 (nw T J (λb5=>an (so [0,0,0]) (ao 13 (sf T 3 J (an (so [0,0,0]) (ae (rx T 1 (bC (am (_,_,_,_,_,_,_,_) [0,0,0,0,0] ⟨oi Z1,ak.nil⟩ J J))))))))))))
    refine nw T J (λb6=>an (so [0,0,0]) (ao 10 (kh [] J lL Z1 (fo.c ·) (λv9 Z1=>an (so [0,0,0]) (ha T 1 [11] (so [0,0,0]) hg pf J (ao 13 (sf T 3 J (an (so [0,0,0]) (ae (rx T 1 (bC (am (_,_,_,_,_,_,_,_) [0,0,0,0,0] ⟨oi Z1,ak.nil⟩ J J))))))))))))
   refine nw T J (λb7=>an (so [0,0,0]) (ao 6 (kh [] J lL Z1 (fo.c ·) (λv10 Z1=>an (so [0,0,0]) (ha T 3 [7] (so [0,0,0]) hg pf J (ao 10 (kh [] J lL Z1 (fo.c ·) (λv11 Z1=>an (so [0,0,0]) (ha T 1 [11] (so [0,0,0]) hg pf J (ao 13 (sf T 3 J (an (so [0,0,0]) (ae (rx T 1 (bC (am (_,_,_,_,_,_,_,_) [0,0,0,0,0] ⟨oi Z1,ak.nil⟩ J J))))))))))))))))
  refine nw T J (λb8=>an (so [0,0,0]) (ao 2 (kh [] J lL Z1 (fo.c ·) (λv12 Z1=>an (so [0,0,0]) (ao 6 (kh [] J lL Z1 (fo.c ·) (λiB Z1=>an (so [0,0,0]) (ha T 3 [7] (so [0,0,0]) hg pf J (ao 10 (kh [] J lL Z1 (fo.c ·) (λeN Z1=>an (so [0,0,0]) (ha T 1 [11] (so [0,0,0]) hg pf J (ao 13 (sf T 3 J (an (so [0,0,0]) (ae (rx T 1 (bC (am (_,_,_,_,_,_,_,_) [0,0,0,0,0] ⟨oi Z1,ak.nil⟩ J J)))))))))))))))))))
 rintro _ ⟨x1,x2,x3,x4,b3,a4,n4,H4⟩ ⟨rfl,s4⟩ H;refine rc T 4 (lf T 3 J (ro T 9 (cb J H (λH=>?_) (λH=>?_))))
 ·refine fz J (rg [12] [0,0,0,1] mix (bU bT) (λhg pf=>ha T 12 [0] (so [0,0,0,1]) hg pf J (al T 1 1 (so [0,0,0,1]) hg pf J J J (ha T 9 [2,3] (so [0,0,0,1]) hg pf J (al T 4 1 (so [0,0,0,1]) hg pf J J J (ha T 6 [5,7] (so [0,0,0,1]) hg pf J (gV 6 8 ?_ ?_)))))))
  ·refine dp (k:=(Fl.int .u8)) T [2,0,1,0,1,(bP x.A),(bP x.B)] J J J J J J J J J (λa9 H9 s9=>an (so [0,0,0,1]) (ao 8 (sf T 3 J (an (so [0,0,0,1]) (ha T 3 [9] (so [0,0,0,1]) hg pf J (ao 10 (sf T 3 J (an (so [0,0,0,1]) (ha T 1 [11] (so [0,0,0,1]) hg pf J (ao 12 (sf T 3 J (an sl (ae (rx T 4 (lm T 3 J (sg T 2 J (ro T 3 ?_)))))))))))))))))
   cases H;exact pb T J (.c_ (j:=2) [(ii x1),(ii 0),(ii 0),(ll a9 [2,0,1,0,1,(bP x.A),(bP x.B)] (aa [2,0,1,0,1,(bP x.A),(bP x.B)]))] J J J J J J J .nil) [5,0] ⟨(_,_),a9,(aa [2,0,1,0,1,(bP x.A),(bP x.B)]),H9,s9,J,J⟩ J J
  refine sf T 3 J (an (so [0,0,0,1]) (ha T 4 [9] (so [0,0,0,1]) hg pf J (gV 6 10 ?_ ?_)))
  ·refine dp (k:=(Fl.int .u8)) T [2,0,1,0,1,(bP x.A),(bP x.B)] J J J J J J J J J (λcK cu bX=>an (so [0,0,0,1]) (ao 10 (sf T 3 J (an (so [0,0,0,1]) (ha T 1 [11] (so [0,0,0,1]) hg pf J (ao 12 (sf T 3 J (an sl (ae (rx T 4 (lm T 3 J (sg T 2 J (ro T 3 ?_)))))))))))))
   cases H;exact pb T J (.c_ (j:=2) [(ii x1),(ii 0),(ii 0),(ll cK [2,0,1,0,1,(bP x.A),(bP x.B)] (aa [2,0,1,0,1,(bP x.A),(bP x.B)]))] J J J J J J J .nil) [5,0] ⟨(_,_),cK,(aa [2,0,1,0,1,(bP x.A),(bP x.B)]),cu,bX,J,J⟩ J J
  refine sf T 3 J (an (so [0,0,0,1]) (ao 6 (dp (k:=(Fl.int .u8)) T [2,0,1,0,1,(bP x.A),(bP x.B)] J J J J J J J J J (λdG cM dr=>an (so [0,0,0,1]) (ha T 1 [11] (so [0,0,0,1]) hg pf J (ao 12 (sf T 3 J (an sl (ae (rx T 4 (lm T 3 J (sg T 2 J (ro T 3 ?_)))))))))))))
  cases H;exact pb T J (.c_ (j:=2) [(ii x1),(ii 0),(ii 0),(ll dG [2,0,1,0,1,(bP x.A),(bP x.B)] (aa [2,0,1,0,1,(bP x.A),(bP x.B)]))] J J J J J J J .nil) [5,0] ⟨(_,_),dG,(aa [2,0,1,0,1,(bP x.A),(bP x.B)]),cM,dr,J,J⟩ J J
 refine rc T 6 (cb J H (λH=>?_) (λH=>?_))
 ·refine rc T 3 (lf T 1 J (ro T 2 (k [] J lL H (fo.c ·) (λdC H=>ro T 1 (sg T 3 J (ro T 4 (lf T 1 J (k [] J lL H (fo.c ·) (λcP H=>ro T 2 (sg T 3 J (ro T 5 (lm T 3 J (sg T 2 J (ro T 1 (ke [4] [0,1,2] J J (rx T 1 (rc T 1 ?_)))))))))))))))))
  cases H;exact pb T J (.c_ (j:=1) [(ii x1),(ii dC),(ii (af (cP*255))),(ll a4 x4 n4)] J J J J J J J .nil) [2,0] ⟨(_,_),a4,n4,H4,s4,J,J⟩ J J
 refine rc T 6 (cb J H (λH=>?_) (λH=>?_))
 ·refine rc T 2 (sg T 3 J (ro T 5 (lm T 3 J (sg T 2 J (ro T 3 ?_)))))
  cases H;exact pb T J (.c_ (j:=2) [(ii x1),(ii x2),(ii 0),(ll a4 x4 n4)] J J J J J J J .nil) [4,0] ⟨(_,_),a4,n4,H4,s4,J,J⟩ J J
 refine rc T 5 (lm T 3 J (sg T 2 J (ro T 3 ?_)))
 cases H;exact pb T J (.c_ (j:=2) [(ii x1),(ii x2),(ii x3),(ll a4 x4 n4)] J J J J J J J .nil) [4,0] ⟨(_,_),a4,n4,H4,s4,J,J⟩ J J
def lv.l0:Nat->Int->Int->(List Int)->(List p9)->Int->Int->List Int->List cR->Int->Int->Option (List cR)
 |0,_,_,_,_,_,_,_,_,_,_=>none
 |ma+1,w,h,p2,l,x9,aN,bj,bA,aT,bd=>if((decide (bd<(aa l:Int)))&&(decide (bd<60)))=true then(if(0<=bd/\bd<(aa l:Int)) then(((fo.f ((rd l bd).A) 0 (af (aT-1))).bind λv21=>(fo.f ((rd l bd).B) 0 (af (aT-1))).bind λv22=>some ((0:Int),v21,v22,([]:List Int))).bind λ(ez,du,eH,dh)=>((fo.f ((rd l bd).Kind) 0 15).bind λv35=>(if(v35==0)=true then(some (v35==0)) else(if(v35==1)=true then(some (v35==1)) else(some (v35==2)))).bind λxH=>if xH=true then(some (x9,aN,bj,aT,(3:Int),du,eH,dh)) else(if(v35==3)=true then((fo.f ((rd l bd).A) 0 9).bind λpL=>some (x9,aN,bj,aT,(4:Int),pL,eH,dh)) else(if(v35==4)=true then((fo.f ((rd l bd).A) 0 9).bind λv39=>some (x9,aN,bj,aT,(5:Int),v39,(0:Int),dh)) else((if(v35==5)=true then(some (v35==5)) else(some (v35==6))).bind λgL=>if gL=true then((xf.f (bP ((rd l bd).B))).bind λMH=>some (x9,aN,bj,aT,(2:Int),du,(af MH),dh)) else((if(v35==7)=true then(some (v35==7)) else(some (v35==8))).bind λfQ=>if fQ=true then(some (x9,aN,bj,aT,(6:Int),du,eH,dh)) else(if(v35==9)=true then(some (x9,aN,bj,aT,(8:Int),(0:Int),(0:Int),([]:List Int))) else(if(v35==10)=true then(if((fJ (rd l bd).A 4)==0)=true then((lS.f (af (w+(af (dm (rd l bd).A 4)))) (af (h+(rd l bd).B)) p2).bind λv45=>(lT.f v45).bind λv46=>some (v45.W,v45.H,v45.C,(aa v45.C:Int),(1:Int),(0:Int),(0:Int),v46)) else((fo.f ((rd l bd).B) 0 200).bind λrn=>some (x9,aN,bj,aT,(0:Int),(af (9+rn)),(0:Int),([]:List Int)))) else(if(v35==11)=true then((yR.f (rd l bd) aT).bind λJr=>some (x9,aN,bj,aT,Jr.Kind,Jr.A,Jr.B,Jr.Map)) else(some (x9,aN,bj,aT,(7:Int),(0:Int),(0:Int),([]:List Int))))))))))).bind λ(kA,mQ,oh,jw,Ci,Cj,xG,pj)=>if(aa bA+1<=1099511627776) then(lv.l0 ma w h p2 l kA mQ oh (bA++[(cR.mk Ci Cj xG pj)]) jw (af (bd+1))) else none) else none) else(some bA)
def lv.f (w:Int) (h:Int) (p2:(List Int)) (l:(List p9)):Option (List cR):=(lS.f w h p2).bind λv1=>(lT.f v1).bind λv2=>lv.l0 fuel w h p2 l v1.W v1.H v1.C [(cR.mk 1 0 0 v2)] (aa v1.C:Int) 0
def lv.R (r:(List cR)):bm:=λu G=> ∃a0 n0 H0,gT IZ 55 r a0 n0 H0/\u=(ll a0 r n0)/\G=[H0]
theorem lv.c (H:lv.f w h p2 l=some r) (C5:aU (Fl.int .u8) p2 GB F) (GX:aa p2<=IM) (dt:aU Fu l ig F) (gn:aa l<=g_):
 QR 20 [(ii w),(ii h),(ll GB p2 IM),(ll ig l g_)] [] [] F (lv.R r):=by
 unfold lv.f at H;refine aH Tryz.func20 J J (λW=>rc T 10 (kr lS.R [] [] J Vj H (lS.c · (rO C5 0) GX) (λv1 H=>?_)));rintro _ _ ⟨a1,n1,H1,s1,rfl,rfl⟩;refine fz J (nc T J (λb2=>sg T 2 J (ro T 4 (lm T 2 J (kr lT.R [] [] J OX H (lT.c · (oO s1 1) s1.ck) (λv2 H=>?_))))));rintro _ _ ⟨a3,n3,H3,s3,rfl,rfl⟩;refine fz J (ro T 1 (gM [3] J (ba (GN (kd:=IZ) (E:=55) (q:=3) (c:=[(ii 1),(ii 0),(ii 0),(ll a3 v2 n3)]) T (cR.mk 1 0 0 v2) J J J J J J J J J J ⟨a3,n3,H3,s3,J,J⟩ (λa5 H5 s5=>ro T 6 (lf T 2 J (ro T 11 (lq [0,1,2,3,9] [0] (λ(⟨ma,x9,aN,bj,bA,aT,bd,a8,n8,H8,a9,n9,H9⟩:Nat×Int×Int×List Int×List cR×Int×Int×Option Addr×Nat×Hp×Option Addr×Nat×Hp)=>(lv.l0 ma w h p2 l x9 aN bj bA aT bd=some r/\ak (Fl.int .u8) 5 bj a8 n8 H8/\gT IZ 55 bA a9 n9 H9,[(10,(ll a9 bA n9)),(11,(ii aT)),(12,(ii bd))],[(cl b2 30 [(ii x9),(ii aN),(ll a8 bj n8)]),H8,H9])) J J (fuel,v1.W,v1.H,v1.C,[(cR.mk 1 0 0 v2)],(aa v1.C:Int),0,a1,n1,H1,a5,(aa [(cR.mk 1 0 0 v2)]),H5) [0,1,0,1] ⟨H,s1,s5⟩ J J ?_))))))));rintro ma ⟨x9,aN,bj,bA,aT,bd,a8,n8,H8,a9,n9,H9⟩ ⟨Z3,s8,s9⟩;rw[lv.l0] at Z3;refine rc T 8 (ga T [5,6,7] 30 [0,1,2,3,9,10,11,12] 33 J J J J J J J (ro T 2 (cb J Z3 (λZ3=>?_) (λZ3=>?_))))
 ·refine rc T 8 ?_;obtain⟨c5,Z3⟩:=aF Z3;obtain⟨Mf,L9,qK⟩:=dt.addr c5.1 c5.2;refine ix T J qK c5 (bz J (gp T (cs:=[(ii (rd l bd).Kind),(ii (rd l bd).A),(ii (rd l bd).B)]) J J J J J J (iI (k:=Fu) (rO dt 0) qK c5 J)) (nc T J (λj7=>sg T 4 J (ro T 2 (mq Z3 [0,1,2,3,9,10,11,12,13] [0,0,0,0,0] (λz20 (⟨ez,du,eH,dh,lE,dQ,n13,fe⟩:Int×Int×Int×List Int×Nat×Option Addr×Nat×Hp)=>((ez,du,eH,dh)=z20/\ak (Fl.int .u8) 5 dh dQ n13 fe,[(14,(pp lE))],[(cl lE 55 [(ii ez),(ii du),(ii eH),(ll dQ dh n13)]),fe])) J J (λz20 Z6 _=>?_) ?_)))))
  ·refine ks [0,1,2,3,9,10,11,12,13] J (fz J (rz [] mix (bU bT) (λhg pf=>ha T 12 [0] sz hg pf J (al T 1 4 sz hg pf J J J (ha T 8 [2,3,5] sz hg pf J (al T 6 4 sz hg pf J J J (ha T 5 [7,8] sz hg pf J (gV 4 11 ?_ ?_))))))))
   ·refine kh [] J lL Z6 (fo.c ·) (λv21 Z6=>an sz (gV 9 11 ?_ ?_))
    ·refine kh [] J lL Z6 (fo.c ·) (λv22 Z6=>an sz (ha T 2 [10] sz hg pf J (ao 11 (nw T J (λKg=>an (so [0,0,0,0,0]) (ao 12 (sf T 5 J (an (so [0,0,0,0,0]) (ae (rx T 1 (bC (am (_,_,_,_,_,_,_,_) [0,0,0,0,0,0,0] ⟨oi Z6,ak.nil⟩ J J))))))))))))
    refine nw T J (λpw=>an (so [0,0,0,0,0]) (ao 9 (kh [] J lL Z6 (fo.c ·) (λv23 Z6=>an (so [0,0,0,0,0]) (ha T 1 [10] (so [0,0,0,0,0]) hg pf J (ao 12 (sf T 5 J (an (so [0,0,0,0,0]) (ae (rx T 1 (bC (am (_,_,_,_,_,_,_,_) [0,0,0,0,0,0,0] ⟨oi Z6,ak.nil⟩ J J))))))))))))
   refine nw T J (λrE=>an (so [0,0,0,0,0]) (ao 4 (kh [] J lL Z6 (fo.c ·) (λv24 Z6=>an (so [0,0,0,0,0]) (ao 9 (kh [] J lL Z6 (fo.c ·) (λv25 Z6=>an (so [0,0,0,0,0]) (ha T 1 [10] (so [0,0,0,0,0]) hg pf J (ao 12 (sf T 5 J (an (so [0,0,0,0,0]) (ae (rx T 1 (bC (am (_,_,_,_,_,_,_,_) [0,0,0,0,0,0,0] ⟨oi Z6,ak.nil⟩ J J)))))))))))))))
  rintro _ ⟨ez,du,eH,dh,lE,dQ,n13,fe⟩ ⟨rfl,dF⟩ Z3;refine mq Z3 [0,1,2,3,9,10,12,14] [0,2] (λZs (⟨kA,mQ,oh,jw,Ci,Cj,xG,pj,a17,n17,eZ,jA,n18,fE⟩:Int×Int×List Int×Int×Int×Int×Int×List Int×Option Addr×Nat×Hp×Option Addr×Nat×Hp)=>((kA,mQ,oh,jw,Ci,Cj,xG,pj)=Zs/\ak (Fl.int .u8) 5 oh a17 n17 eZ/\ak (Fl.int .u8) 5 pj jA n18 fE,[(11,(ii jw))],[(cl b2 30 [(ii kA),(ii mQ),(ll a17 oh n17)]),eZ,(cl lE 55 [(ii Ci),(ii Cj),(ii xG),(ll jA pj n18)]),fE])) J J (λZs bp _=>?_) ?_
  ·refine rc T 3 (lf T 4 J (k [] J lL bp (fo.c ·) (λv35 bp=>ro T 3 (mq bp [0,1,2,3,9,10,11,12,13,14,53] [0,0,0,0,0,0,0] (λz37 (xH:Bool)=>(xH=z37,[(55,(bb xH))],[])) J J (λz37 cj _=>?_) ?_))))
   ·refine rc T 6 (cb J cj (λcj=>?_) (λcj=>?_))
    ·refine rc T 2 (am _ [0,0,0,0,0,0,0] (oi cj) J J)
    refine rc T 6 (cb J cj (λcj=>?_) (λcj=>?_))
    ·refine rc T 2 (am _ [0,0,0,0,0,0,0] (oi cj) J J)
    refine rc T 5 (am _ [0,0,0,0,0,0,0] (oi cj) J J)
   rintro _ xH rfl bp;refine cb J bp (λbp=>?_) (λbp=>?_)
   ·refine rc T 2 (sg T 5 J (ro T 3 (am (_,_,_,_,_,_,_,_,_,_,_,_,_,_) [0,2,0,0,1,1] ⟨oi bp,s8,dF⟩ J J)))
   refine rc T 6 (cb J bp (λbp=>?_) (λbp=>?_))
   ·refine rc T 2 (lf T 4 J (k [] J lL bp (fo.c ·) (λpL bp=>ro T 1 (sg T 5 J (ro T 1 (sg T 5 J (ro T 3 (am (_,_,_,_,_,_,_,_,_,_,_,_,_,_) [0,2,0,0,1,1] ⟨oi bp,s8,dF⟩ J J))))))))
   refine rc T 6 (cb J bp (λbp=>?_) (λbp=>?_))
   ·refine rc T 2 (lf T 4 J (k [] J lL bp (fo.c ·) (λv39 bp=>ro T 1 (sg T 5 J (ro T 1 (sg T 5 J (ro T 1 (sg T 5 J (ro T 3 (am (_,_,_,_,_,_,_,_,_,_,_,_,_,_) [0,2,0,0,1,1] ⟨oi bp,s8,dF⟩ J J))))))))))
   refine mq bp [0,1,2,3,9,10,11,12,13,14,53] [0,0,0,0,0,0,0] (λz41 (gL:Bool)=>(gL=z41,[(75,(bb gL))],[])) J J (λz41 Gr _=>?_) ?_
   ·refine rc T 6 (cb J Gr (λGr=>?_) (λGr=>?_))
    ·refine rc T 2 (am _ [0,0,0,0,0,0,0] (oi Gr) J J)
    refine rc T 5 (am _ [0,0,0,0,0,0,0] (oi Gr) J J)
   rintro _ gL rfl bp;refine cb J bp (λbp=>?_) (λbp=>?_)
   ·refine rc T 2 (lf T 4 J (ro T 1 (k [] J OY bp (xf.c ·) (λMH bp=>ro T 2 (sg T 5 J (ro T 1 (sg T 5 J (ro T 3 (am (_,_,_,_,_,_,_,_,_,_,_,_,_,_) [0,2,0,0,1,1] ⟨oi bp,s8,dF⟩ J J)))))))))
   refine mq bp [0,1,2,3,9,10,11,12,13,14,53] [0,0,0,0,0,0,0] (λz44 (fQ:Bool)=>(fQ=z44,[(85,(bb fQ))],[])) J J (λz44 Gs _=>?_) ?_
   ·refine rc T 6 (cb J Gs (λGs=>?_) (λGs=>?_))
    ·refine rc T 2 (am _ [0,0,0,0,0,0,0] (oi Gs) J J)
    refine rc T 5 (am _ [0,0,0,0,0,0,0] (oi Gs) J J)
   rintro _ fQ rfl bp;refine cb J bp (λbp=>?_) (λbp=>?_)
   ·refine rc T 2 (sg T 5 J (ro T 3 (am (_,_,_,_,_,_,_,_,_,_,_,_,_,_) [0,2,0,0,1,1] ⟨oi bp,s8,dF⟩ J J)))
   refine rc T 6 (cb J bp (λbp=>?_) (λbp=>?_))
   ·refine rc T 2 (sg T 5 J (ro T 3 (bC (am (_,_,_,_,_,_,_,_,_,_,_,_,_,_) [0,2,0,0,1,2] ⟨oi bp,s8,ak.nil⟩ J J))))
   refine rc T 6 (cb J bp (λbp=>?_) (λbp=>?_))
   ·refine rc T 3 (lf T 4 J (ro T 4 (cb J bp (λbp=>?_) (λbp=>?_))))
    ·refine rc T 4 (lf T 4 J (ro T 4 (lf T 4 J (ro T 2 (kr lS.R [] [] J Vj bp (lS.c · (rO C5 0) GX) (λv45 bp=>?_))))));rintro _ _ ⟨mY,n19,lB,iz,rfl,rfl⟩;refine fz J (sg T 1 J (ro T 5 (lf T 1 J (ro T 5 (lm T 1 J (kr lT.R [] [] J OX bp (lT.c · (oO iz 7) iz.ck) (λv46 bp=>?_)))))));rintro _ _ ⟨a20,n20,pk,mJ,rfl,rfl⟩;refine fz J (ro T 1 (sg T 5 J (ro T 3 (am (_,_,_,_,_,_,_,_,_,_,_,_,_,_) [0,2,0,4,2,3] ⟨oi bp,iz,mJ⟩ J J))))
    refine rc T 2 (lf T 4 J (k [] J lL bp (fo.c ·) (λrn bp=>ro T 2 (sg T 5 J (ro T 3 (bC (am (_,_,_,_,_,_,_,_,_,_,_,_,_,_) [0,2,0,0,1,2] ⟨oi bp,s8,ak.nil⟩ J J)))))))
   refine rc T 6 (cb J bp (λbp=>?_) (λbp=>?_))
   ·refine rc T 1 (lm T 4 J (ro T 1 (kr yR.R [] [] J afy bp (yR.c ·) (λJr bp=>?_))));rintro _ _ ⟨a21,n21,lY,kt,rfl,rfl⟩;refine fz J (sg T 5 J (ro T 3 (am (_,_,_,_,_,_,_,_,_,_,_,_,_,_) [0,2,0,0,1,2] ⟨oi bp,s8,kt⟩ J J)))
   refine rc T 2 (sg T 5 J (ro T 3 (bC (am (_,_,_,_,_,_,_,_,_,_,_,_,_,_) [0,2,0,0,1,2] ⟨oi bp,s8,ak.nil⟩ J J))))
  rintro _ ⟨kA,mQ,oh,jw,Ci,Cj,xG,pj,a17,n17,eZ,jA,n18,fE⟩ ⟨rfl,fO,fP⟩ Z3;refine rc T 2 (lm T 4 J (gM [5] J (ba (GN (kd:=IZ) (E:=55) (q:=5) (c:=[(ii Ci),(ii Cj),(ii xG),(ll jA pj n18)]) T (cR.mk Ci Cj xG pj) J J J J J J J J J J ⟨jA,n18,fE,fP,J,J⟩ (λa23 j5 iA=>?_)))));obtain⟨c37,Z3⟩:=aF Z3;refine ba (GM (kd:=IZ) (xs:=bA) (ys:=[(cR.mk Ci Cj xG pj)]) T (g:=1) (q:=6) J J J J J J J J J J s9 J J iA c37 J (λa24 n24 sF mL=>ro T 10 (ar (_,_,_,_,_,_,_,_,_,_,_,_) [0,1,1,0] ⟨Z3,fO,mL⟩ J J)))
 refine rc T 12 ?_
 cases Z3;exact p1 T J [3,0] ⟨a9,n9,H9,s9,J,J⟩ J
end
noncomputable section
def xA.f (l:(List p9)) (n:Int):Option Int:=if(0<=(0:Int)/\(0:Int)<=(if n<(aa l:Int) then n else(aa l:Int))/\(if n<(aa l:Int) then n else(aa l:Int))<=(aa l:Int)) then(some (if n<(aa l:Int) then n else(aa l:Int))) else none
theorem xA.c (H:xA.f l n=some r) (dt:aU Fu l ig F) (gn:aa l<=g_):
 QU 13 [(ll ig l g_),(ii n)] [] F (ll (gy ig g_ (ax 0) 3) (aB l 0 r) (g_-ax 0)):=by
 unfold xA.f at H;refine aH Tryz.func13 J J (λW=>rc T 12 ?_);obtain⟨c1,H⟩:=aF H;refine bz J (lb T J J J J J J c1 gn) (ro T 4 ?_);obtain rfl:=Option.some.inj H;exact GP (T:=T) J (.tmp J .nil) (λw o=>⟨(),J,DT [0] J o⟩)
theorem xA.b {l:(List p9)} {n:Int} {r:Int} (H:xA.f l n=some r):(0<=(0:Int)/\(0:Int)<=r/\r<=(aa l:Int)):=by
 unfold xA.f at H;obtain⟨c,H⟩:=aF H;obtain rfl:=Option.some.inj H;exact c
def og.l0:Nat->(List cR)->bJ->Int->Option (Option bJ)
 |0,_,_,_=>none
 |k7+1,v2,x5,x6=>if x6<(aa v2:Int) then(if(0<=x6/\x6<(aa v2:Int)) then((jZ.f x5 (rd v2 x6)).bind λv8=>og.l0 k7 v2 v8.2 (af (x6+1))) else none) else((tK.f x5).bind λv9=>(D3.f v9).bind λv10=>if(!v10)=true then(some none) else(some (some x5)))
def og.f (ai:Int) (most:Int) (w:Int) (h:Int) (p4:(List Int)) (l:(List p9)):Option (Option bJ):=(uU.f ai most).bind λv1=>dA v1 (some none) (λeY=>(lv.f w h p4 l).bind λv2=>og.l0 fuel v2 eY 0)
def og.R (el:Nat->Addr) (r:(Option bJ)):bm:=λu G=> ∃(u0:Value) (G0:List Hp),RF r u0 G0/\u=u0/\G=G0
theorem og.c (H:og.f ai most w h p4 l=some r) (hG:fR 414 fk gZ el F) (adR:aU (Fl.int .u8) p4 aae F) (ab0:aa p4<=ahL) (dt:aU Fu l ig F) (gn:aa l<=g_):
 QR 11 [(ii ai),(ii most),(ii w),(ii h),(ll aae p4 ahL),(ll ig l g_)] [] [] F (og.R el r):=by
 unfold og.f at H;refine aH Tryz.func11 J J (λW=>rc T 9 (kr uU.R [] [] J U3 H (uU.c ·) (λv1 H=>?_)));rintro _ _ ⟨_,_,O2,rfl,rfl⟩;rcases v1 with _ |eY
 ·replace H:=fx J H;obtain⟨rfl,rfl⟩:=O2;refine ro T 10 (oA J (rc T 7 ?_))
  cases H;exact p1 T J [0] ⟨_,_,⟨J,J⟩,J,J⟩ J
 replace H:=fy J H;obtain⟨b1,H1,s1,rfl,rfl⟩:=O2;refine ro T 10 (fj J (rc T 8 (kr lv.R [] [] J aez H (lv.c · (rO adR 0) ab0 (rO dt 0) gn) (λv2 H=>?_))));rintro _ _ ⟨a2,n2,H2,s2,rfl,rfl⟩;refine fz J (ro T 10 (lq [13,14] [0,1] (λ(⟨k7,x5,x6,H4⟩:Nat×bJ×Int×Hp)=>(og.l0 k7 v2 x5 x6=some r/\gh x5 b1 H4,[(15,(ii x6))],[H4])) J J (fuel,eY,0,H1) [0,1,0] ⟨H,s1⟩ J J ?_));rintro k7 ⟨x5,x6,H4⟩ ⟨Z4,s4⟩;rw[og.l0] at Z4;refine rc T 9 (cd J Z4 (λZ4=>?_) (λZ4=>?_))
 ·refine rc T 8 ?_;obtain⟨c6,Z4⟩:=aF Z4;obtain⟨q5,o5,e5⟩:=s2.r.addr c6.1 c6.2;refine ix T J e5 c6 ?_;obtain⟨_,w7,⟨a6,n6,⟨r6,m6⟩,rfl⟩⟩:=ov.view s2.r c6;refine bz J (gp T (cs:=[(ii (rd v2 x6).Kind),(ii (rd v2 x6).A),(ii (rd v2 x6).B),(ll a6 (rd v2 x6).Map n6)]) J J J J J J (PT (j:=1) J w7 e5 0 J)) (kr (jZ.R el b1) [] [2] J Fa Z4 (jZ.c · (dE hG (j:=0) J) s4 (rO r6 1) m6) (λv8 Z4=>?_));rintro _ _ ⟨a8,n8,H8,a9,n9,H9,cu,s8,s9,bX,rfl,rfl⟩;refine fz J (ro T 9 (ar (_,_,_) [0,0,2] ⟨Z4,bX⟩ J J))
 refine rc T 9 (kr tK.R [2] [2] J UD Z4 (tK.c · s4) (λv9 Z4=>?_));rintro _ _ ⟨dG,n11,cM,dr,rfl,rfl⟩;refine fz J (k [] J afv Z4 (D3.c · (oO dr 2) dr.ck) (λv10 Z4=>ro T 3 (cb J Z4 (λZ4=>?_) (λZ4=>?_))))
 ·refine rc T 7 ?_
  cases Z4;exact p1 T J [0] ⟨_,_,⟨J,J⟩,J,J⟩ J
 refine rc T 9 ?_
 cases Z4;exact p1 T J [3,0] ⟨_,_,⟨b1,H4,s4,J,J⟩,J,J⟩ J
def sw.f (s:bJ) (goal:Int) (cell:Int):Option (Int×Int×Bool×bJ):=(jZ.f s (cR.mk 6 goal cell [])).bind λv1=>some (v1.1.D,v1.1.cJ,(v1.1.Code==0),v1.2)
def sw.R (el:Nat->Addr) (nf:Nat) (r:(Int×Int×Bool×bJ)):bm:=λu G=> ∃(H0:Hp),gh r.2.2.2 nf H0/\u=(.tuple #[(ii r.1),(ii r.2.1),(bb r.2.2.1)])/\G=[H0]
theorem sw.c (H:sw.f s goal cell=some r) (hG:fR 414 fk gZ el F) (dg:gh s bk eI):
 QR 16 [(pp bk),(ii goal),(ii cell)] [eI] [] F (sw.R el bk r):=by
 unfold sw.f at H;refine aH Tryz.func16 J J (λW=>rc T 13 (kr (jZ.R el bk) [] [0] J Fa H (jZ.c (o:=(cR.mk 6 goal cell [])) · (dE hG (j:=0) J) dg (.inl J) (l7 _)) (λv1 H=>?_)));rintro _ _ ⟨a2,n2,H2,a3,n3,H3,H4,s2,s3,s4,rfl,rfl⟩;refine fz J (nc T J (λb5=>sg T 4 J (ro T 3 (dy mix aA (au T J (cB T 4 J J J (au T J (cB T 4 J J J (au T J (cB T 4 J J J ?_))))))))))
 iterate 4 refine au T J ?_
 refine cU (rx T 2 ?_)
 cases H;exact p1 T J [3,0] ⟨H4,s4,J,J⟩ J
def zb.f:Option Bool:=(uU.f 1 2).bind λv1=>dA v1 (some false) (λeY=>(lT.f (aJ.mk 3 1 [5,2,9])).bind λv2=>(jZ.f eY (cR.mk 1 0 0 v2)).bind λv3=>(jZ.f v3.2 (cR.mk 3 0 2 [])).bind λv4=>(jZ.f v4.2 (cR.mk 6 2 0 [])).bind λv5=>(jZ.f v5.2 (cR.mk 7 0 0 [])).bind λv6=>(if(v3.1.Code==0)=true then(if(v4.1.Id==0)=true then(if(v5.1.D==11)=true then(if(v5.1.cJ==1)=true then((xi.f v6.1.fF [(fw.mk 0 1)]).bind λv9=>if v9=true then((B6.f v6.2).bind λv10=>some ((aa v10:Int)==1)) else(some false)) else(some false)) else(some false)) else(some false)) else(some false)).bind λx7=>some x7)
theorem zb.c (H:zb.f=some r) (hG:fR 414 fk gZ el F):
 QU 18 [] [] F (bb r):=by
 unfold zb.f at H;refine aH Tryz.func18 J J (λW=>rc T 7 (kr uU.R [] [] J U3 H (uU.c ·) (λv1 H=>?_)));rintro _ _ ⟨_,_,O2,rfl,rfl⟩;rcases v1 with _ |eY
 ·replace H:=fx J H;obtain⟨rfl,rfl⟩:=O2;refine ro T 10 (oA J (rc T 7 ?_))
  cases H;exact p0 T J [0] J
 replace H:=fy J H;obtain⟨b1,H1,s1,rfl,rfl⟩:=O2;refine ro T 10 (fj J (rc T 4 (ba (dp (k:=(Fl.int .u8)) T [5,2,9] J J J J J J J J J (λa2 H2 s2=>ro T 1 (nc T J (λb3=>sg T 3 J (ro T 5 (lm T 3 J (kr lT.R [] [] J OX H (lT.c (m:=(aJ.mk 3 1 [5,2,9])) · (oO s2 2) s2.ck) (λv2 H=>?_)))))))))));rintro _ _ ⟨a4,n4,H4,s4,rfl,rfl⟩;refine fz J (ro T 1 (kr (jZ.R el b1) [] [1] J Fa H (jZ.c (o:=(cR.mk 1 0 0 v2)) · (dE hG (j:=0) J) s1 (oO s4 3) s4.ck) (λv3 H=>?_)));rintro _ _ ⟨a5,n5,H5,a6,n6,H6,H7,s5,s6,s7,rfl,rfl⟩;refine fz J (nc T J (λb8=>sg T 7 J (ro T 1 (ke [1,3] [0,3,3,3,3] J J (rx T 5 (kr (jZ.R el b1) [] [3] J Fa H (jZ.c (o:=(cR.mk 3 0 2 [])) · (dE hG (j:=0) J) s7 (.inl J) (l7 _)) (λv4 H=>?_)))))));rintro _ _ ⟨a9,n9,H9,cK,n10,cu,cM,s9,bX,dr,rfl,rfl⟩;refine fz J (nc T J (λlE=>sg T 7 J (ro T 6 (kr (jZ.R el b1) [] [6] J Fa H (jZ.c (o:=(cR.mk 6 2 0 [])) · (dE hG (j:=0) J) dr (.inl J) (l7 _)) (λv5 H=>?_)))));rintro _ _ ⟨dQ,n13,fe,jk,n14,gf,dT,dF,gQ,eG,rfl,rfl⟩;refine fz J (nc T J (λrE=>sg T 10 J (ro T 6 (kr (jZ.R el b1) [] [9] J Fa H (jZ.c (o:=(cR.mk 7 0 0 [])) · (dE hG (j:=0) J) eG (.inl J) (l7 _)) (λv6 H=>?_)))));rintro _ _ ⟨a17,n17,eZ,jA,n18,fE,lB,fO,fP,iz,rfl,rfl⟩;refine fz J (nc T J (λKh=>sg T 13 J (ro T 1 (ks [1,3,4,5,6] J (rx T 1 (mq H [] [0] (λz8 (x7:Bool)=>(x7=z8,[(0,(bb x7))],[])) J J (λz8 Z8 _=>?_) ?_))))))
 ·refine rc T 2 (lf T 3 J (ro T 2 (ab 29 J Z8 (λZ8=>?_) (λZ8=>?_))))
  ·refine ro T 1 (lf T 6 J (ro T 3 (ab 34 J Z8 (λZ8=>?_) (λZ8=>?_))))
   ·refine ro T 1 (lf T 9 J (ro T 3 (ab 39 J Z8 (λZ8=>?_) (λZ8=>?_))))
    ·refine ro T 1 (lf T 9 J (ro T 3 (ab 44 J Z8 (λZ8=>?_) (λZ8=>?_))))
     ·refine ro T 1 (lf T 13 J (ro T 1 (ba (dp (k:=jT) T [(fw.mk 0 1)] J J J J J J J J J (λa21 lY kt=>k [] J afx Z8 (xi.c (b:=[(fw.mk 0 1)]) · (oO fO 10) fO.ck (oO kt 14) kt.ck) (λv9 Z8=>ro T 2 (ab 51 J Z8 (λZ8=>?_) (λZ8=>?_))))))))
      ·refine ro T 1 (kr B6.R [12] [12] J aeP Z8 (B6.c · iz) (λv10 Z8=>?_));rintro _ _ ⟨a22,n22,nI,jd,rfl,rfl⟩;refine fz J (ro T 6 (am _ [0] (oi Z8) J J))
      refine ro T 8 (am _ [0] (oi Z8) J J)
     refine ro T 15 (am _ [0] (oi Z8) J J)
    refine ro T 20 (am _ [0] (oi Z8) J J)
   refine ro T 25 (am _ [0] (oi Z8) J J)
  refine ro T 30 (am _ [0] (oi Z8) J J)
 rintro _ x7 rfl H;refine rc T 1 ?_
 cases H;exact p0 T J [0] J
end
end Go.Proofs.YthodkonhneebbaaGreatDoor
