/- What the functions of some packages compute, each as a function of plain Lean, with its contract. No condition. -/
import Derived.Test.YthodkonhneebbaaGreatDoorKWT
import Derived.Test.YthodkonhneebbaaGreatDoorKW6
import Derived.Test.YthodkonhneebbaaGreatDoorKW7
import Derived.Test.YthodkonhneebbaaGreatDoorKW11
import Derived.Test.YthodkonhneebbaaGreatDoorKW10
import Derived.Test.YthodkonhneebbaaGreatDoorKW5
namespace Go.Hx
section
variable {W : World} {P : Program} {n : Nat} {F K : Act -> World -> Prop} {Q : Exit -> Act -> World -> Prop} {env : Env} {HL : List Hp} {ops : Array Oper} {i : Nat} {rest : List Nat}
def gqF (js:List Nat) (HL:List Hp):Option (List Hp):=fH (sR js HL++[(sA js HL).flatten])
theorem gq (js:List Nat) {ko:List Hp} (hs:gqF js HL=some ko) (h:aH W n F env ko):aH W n F env HL:=gw js (Bc js HL) (by rw[B0 hs];exact h)
def Rk (js:List Nat) (HL:List Hp):Option (List Hp×List Hp):=match fH (sA js HL),fH (sR js HL) with
 |some A,some R=>some (A,R)
 |_,_=>none
theorem cq (js:List Nat) {As R:List Hp} {H:Hp} (hs:Rk js HL=some (As,R)) (hH:H=As.flatten) (h:aH W n F env (R++[H])):aH W n F env HL:=by
 unfold Rk at hs;split at hs
 ·rename_i A R' h1 h2;simp only[Option.some.injEq,Prod.mk.injEq] at hs;obtain⟨rfl,rfl⟩:=hs;exact dr js (by rw[Bc,B0 h1,B0 h2]) hH h
 ·cases hs
theorem aq {ko:List Hp} (hs:fH (HL++[[]])=some ko) (h:aH W n F env ko):aH W n F env HL:=bC (by rw[B0 hs];exact h)
theorem rq (late js:List Nat) {id:Nat} {H0:List Hp} (h0:nH js HL=some H0) (hm:P.follows .mixedOrders=true) (ka:PF Q)
 (h:pj ops (DD ops)=true->PF Q->aH W n (gO P ops Q (SO W H0) late ops.size (Array.replicate ops.size false)) env HL) (hg:pj ops (DD ops)=true:=by kernel_rfl):
 aH W n ((Code.region id ops true).wp P Q) env HL:=rg late js hm ka (by rw[Ha h0];exact h) hg
def K2 (T:Ty P) (ops:Array Oper) (env:Env) (i j:Nat) (HL:List Hp):Option (Nat×Nat×List Hp):=match HS T ops env i j HL with
 |some (a,b,L)=>match fH L with
  |some L'=>some (a,b,L')
  |none=>none
 |none=>none
theorem W9 {T:Ty P} {j:Nat} {a b:Nat} {ko:List Hp} (h:K2 T ops env i j HL=some (a,b,ko)):HS T ops env i j HL=some (a,b,ko):=by
 unfold K2 at h;split at h
 ·rename_i a' b' L h1;split at h
  ·rename_i L' h2;simp only[Option.some.injEq,Prod.mk.injEq] at h;obtain⟨rfl,rfl,rfl⟩:=h;rw[h1,B0 h2]
  ·cases h
 ·cases h
theorem ja (T:Ty P) {b:Nat} {ko:List Hp} (j:Nat) (h1:K2 T ops env i j HL=some (b,b,ko)) (h:aH W n K env ko):aH W n (wpOp P ops Q i K) env HL:=sf T j (W9 h1) h
theorem jZ (T:Ty P) {b:Nat} {ko:List Hp} (j:Nat) (h1:K2 T ops env i j HL=some (b,b,ko)) (h:aH W n (wpOps P ops Q rest) env ko):aH W n (wpOps P ops Q (i::rest)) env HL:=sg T j (W9 h1) h
theorem afa {A B X:Hp} (h:X=List.flatten [A,B]): ∃C:Hp,C=B/\X=List.flatten [A,C]:=⟨_,J,h⟩
end
end Go.Hx
namespace Go.Proofs.YthodkonhneebbaaGreatDoor
open Go.Hx
set_option maxRecDepth 100000
set_option linter.unusedSimpArgs false
set_option linter.unusedVariables false
set_option maxHeartbeats 4000000
set_option autoImplicit true
set_option relaxedAutoImplicit true
noncomputable section
def xB.f (ag:Int):Option (Option bQ):=if ag<1 then(some none) else((xM.f ag).bind λv1=>du v1 (none) (λfc=>some (some (bQ.mk none fc (fx.mk 0 0 0 0 0 0)))))
def xB.R (r:(Option bQ)):bm:=λu G=> ∃(u0:Value) (G0:List Hp),X1 r u0 G0/\u=u0/\G=G0
theorem xB.c (H:xB.f ag=some r):
 QR 51 [(ii ag)] [] [] F (xB.R r):=by
 unfold xB.f at H;refine aG Tryz.func51 J J (λW=>rc T 12 (cd J H (λH=>?_) (λH=>?_)))
 ·refine rc T 7 ?_
  cases H;exact p1 T J [0] ⟨_,_,⟨J,J⟩,J,J⟩ J
 refine rc T 5 (kr xM.R [] [] J ad5 H (xM.c ·) (λv1 H=>?_));rintro _ _ ⟨_,_,O3,rfl,rfl⟩;rcases v1 with _ |fc
 ·replace H:=fi J H
  cases H
 replace H:=fj J H;obtain⟨b1,H1,s1,rfl,rfl⟩:=O3;refine ro T 1 (nc T J (λb2=>fz J (ro T 4 ?_)))
 cases H;refine aq J (gq [2,1,1] J (p1 T J [1,0] ⟨_,_,⟨b2,(List.flatten [(cl b2 135 [(.pointer none),(.pointer none),(.pointer none),(pp b1),(uu 0),(uu 0),(uu 0),(uu 0),(uu 0),(uu 0)]),H1,[]]),(show gT (bQ.mk none fc (fx.mk 0 0 0 0 0 0)) b2 (List.flatten [(cl b2 135 [(.pointer none),(.pointer none),(.pointer none),(pp b1),(uu 0),(uu 0),(uu 0),(uu 0),(uu 0),(uu 0)]),H1,[]]) from⟨b1,H1,(.pointer none),(.pointer none),(.pointer none),[],s1,(show uO none (.pointer none) (.pointer none) (.pointer none) [] from⟨J,J,J,J⟩),J⟩),J,J⟩,J,J⟩ J))
def vL.f (n:bQ):Option aM:=du n.core ((Ax.f).bind λv2=>some v2) (λx1=>(w9.f x1.ay).bind λv3=>some v3)
def vL.R (r:aM):bm:=λu G=> ∃a0 n0 H0,aj (Fl.int .u8) 5 r.C a0 n0 H0/\u=(.agg #[(ii r.W),(ii r.H),(ll a0 r.C n0)])/\G=[H0]
theorem vL.c (H:vL.f n=some r) (i_:gT n cW je):
 QR 43 [(pp cW)] [je] [je] F (vL.R r):=by
 unfold vL.f at H;refine aG Tryz.func43 J J (λW=>rc T 2 (nc T J (λb2=>fz J (ro T 9 (eY J (rc T 3 ?_))))));obtain⟨b4,H4,ya,EX,EY,H5,s4,s5,dt⟩:=(λx=>x) i_;refine bS 0 (congrArg some dt) (fz J ?_);rcases q1:n.core with _ |x1
 ·replace H:=fi q1 H;rw[q1] at s5;obtain⟨rfl,rfl,rfl,rfl⟩:=s5;refine rc T 4 (lf T 2 J (kr Ax.R [] [] J TE H (Ax.c ·) (λv2 H=>?_)));rintro _ _ ⟨cw,n10,bZ,bU,rfl,rfl⟩;refine fz J (jZ T 1 J (ro T 3 ?_))
  cases H;refine cq [2,2,2] J dt (pb T J (.cN (j:=1) [(ii r.W),(ii r.H),(ll cw r.C n10)] J J J J J J J .nil) [2,2,0] ⟨(_,_),cw,n10,bZ,bU,J,J⟩ J J)
 replace H:=fj q1 H;rw[q1] at s5;obtain⟨b7,H7,b8,H8,b9,H9,s7,s8,s9,rfl,rfl,rfl,oB⟩:=s5;refine bS 4 (congrArg some oB) (fz J (rc T 4 (lf T 2 J (kr w9.R [4] [4] J TE H (w9.c · s7) (λv3 H=>?_)))));rintro _ _ ⟨dA,n11,cB,dj,rfl,rfl⟩;refine fz J (jZ T 1 J (ro T 3 ?_))
 cases H;refine cq [7,4,4] J oB (cq [2,2,3] J dt (pb T J (.cN (j:=1) [(ii r.W),(ii r.H),(ll dA r.C n11)] J J J J J J J .nil) [2,2,0] ⟨(_,_),dA,n11,cB,dj,J,J⟩ J J))
def zj.f (n:bQ):Option fx:=du n.core ((G5.f).bind λv2=>(Hu.f).bind λv3=>some (fx.mk v2 v3 0 0 0 0)) (λx1=>(G6.f x1.fZ x1.ay).bind λv4=>(Hv.f x1.gJ x1.fZ x1.ay).bind λv5=>some (fx.mk v4 v5 0 0 0 0))
theorem zj.c (H:zj.f n=some r) (i_:gT n cW je):
 QU 79 [(pp cW)] [je] F (.agg #[(uu r.bB),(uu r.bw),(uu r.bk),(uu r.bn),(uu r.bF),(uu r.bE)]):=by
 unfold zj.f at H;refine aG Tryz.func79 J J (λW=>rc T 2 (nc T J (λb2=>fz J (ro T 3 ?_))));obtain⟨b4,H4,ya,EX,EY,H5,s4,s5,dt⟩:=(λx=>x) i_;refine bS 0 (congrArg some dt) (fz J ?_);rcases q1:n.core with _ |x1
 ·replace H:=fi q1 H;rw[q1] at s5;obtain⟨rfl,rfl,rfl,rfl⟩:=s5;refine ks [0,2] J (fz J (rz [11] mix (bM bL) (λhg pf=>ha T 9 [0,1,2] sz hg pf J (av 3 sz hg pf J (aw T J J J J (aI (j:=2) J J)) (ha T 5 [5,6,7] sz hg pf J (av 8 sz hg pf J (aw T J J J J (aI (j:=2) J J)) (ao 4 (kh [] J SI H (G5.c ·) (λv2 H=>an sz (ao 9 (kh [] J SJ H (Hu.c ·) (λv3 H=>an sz (ha T 1 [10] sz hg pf J (ao 11 (ja T 1 J (an sl (ae (rx T 2 ?_))))))))))))))))))
  cases H;refine cq [2,2,2] J dt (pb T J (.cN (j:=1) [(uu v2),(uu v3),(uu 0),(uu 0),(uu 0),(uu 0)] J J J J J J J .nil) [2,0] () J J)
 replace H:=fj q1 H;rw[q1] at s5;obtain⟨b7,H7,b8,H8,b9,H9,s7,s8,s9,rfl,rfl,rfl,oB⟩:=s5;refine bS 4 (congrArg some oB) (fz J (ks [0,2] J (fz J (rz [11] mix (bM bL) (λhg pf=>ha T 9 [0,1,2] sz hg pf J (av 3 sz hg pf J (aw T J J J J (aI (j:=2) J J)) (ha T 5 [5,6,7] sz hg pf J (av 8 sz hg pf J (aw T J J J J (aI (j:=2) J J)) (ao 4 (kh [5,4] J SI H (G6.c · s8 s7) (λv4 H=>an sz (ao 9 (kh [6,5,4] J SJ H (Hv.c · s9 s8 s7) (λv5 H=>an sz (ha T 1 [10] sz hg pf J (ao 11 (ja T 1 J (an sl (ae (rx T 2 ?_))))))))))))))))))))
 cases H;refine cq [4,4,4] J oB (cq [2,2,2] J dt (pb T J (.cN (j:=1) [(uu v4),(uu v5),(uu 0),(uu 0),(uu 0),(uu 0)] J J J J J J J .nil) [2,0] () J J))
def CH.f (n:bQ):Option fx:=(zj.f n).bind λv1=>(mM.f n.aV v1).bind λv2=>(EO.f n.cz).bind λv3=>(mM.f v2 v3).bind λv4=>some v4
theorem CH.c (H:CH.f n=some r) (i_:gT n cW je):
 QU 52 [(pp cW)] [je] F (.agg #[(uu r.bB),(uu r.bw),(uu r.bk),(uu r.bn),(uu r.bF),(uu r.bE)]):=by
 unfold CH.f at H;refine aG Tryz.func52 J J (λW=>rc T 2 (nc T J (λb2=>fz J (ro T 9 (eY J (rc T 3 ?_))))));obtain⟨b4,H4,ya,EX,EY,H5,s4,s5,dt⟩:=(λx=>x) i_;refine bS 0 (congrArg some dt) (fz J (ks [0,2] J (fz J (rz [13] mix (bM bL) (λhg pf=>ha T 11 [0,1,2] sz hg pf J (av 3 sz hg pf J (gA T 2 J J J J J J J) (ha T 6 [4,7,8,9] sz hg pf J (av 10 sz hg pf J (aw T J J J J (aI (j:=2) J J)) (ao 5 ?_)))))))));obtain⟨v1,V1,H⟩:=gx H;refine I1 (As:=[(cl cW 135 [ya,EX,EY,(pp b4),(uu n.aV.bB),(uu n.aV.bw),(uu n.aV.bk),(uu n.aV.bn),(uu n.aV.bF),(uu n.aV.bE)]),H4,H5]) [2,2,2] J J J J TF J J (I9 (A:=[je]) (by simp only[dt,List.flatten_cons,List.flatten_append,List.flatten_nil,List.append_nil,List.append_assoc]) (zj.c V1 i_)) (an sz (ao 6 (kh [] J Nw H (mM.c ·) (λv2 H=>an sz (ao 11 (kh [3] J ad6 H (EO.c · s4) (λv3 H=>an sz (ao 12 (kh [] J Nw H (mM.c ·) (λv4 H=>an sz (ao 13 (ja T 1 J (an sl (ae (rx T 2 ?_)))))))))))))))
 cases H;refine cq [2,2,2] J dt (pb T J (.cN (j:=1) [(uu r.bB),(uu r.bw),(uu r.bk),(uu r.bn),(uu r.bF),(uu r.bE)] J J J J J J J .nil) [2,0] () J J)
def sV.f (n:bQ) (cell:Int):Option Int:=du n.core (none) (λx1=>(jh.f x1.ay cell).bind λv2=>some v2)
theorem sV.c (H:sV.f n cell=some r) (i_:gT n cW je):
 QU 113 [(pp cW),(ii cell)] [je] F (ii r):=by
 unfold sV.f at H;refine aG Tryz.func113 J J (λW=>rc T 12 (eY J (rc T 3 ?_)));obtain⟨b3,H3,uG,PL,PM,H4,s3,s4,cy⟩:=(λx=>x) i_;refine bS 0 (congrArg some cy) (fz J ?_);rcases q1:n.core with _ |x1
 ·replace H:=fi q1 H
  cases H
 replace H:=fj q1 H;rw[q1] at s4;obtain⟨b6,H6,b7,H7,b8,H8,s6,s7,s8,rfl,rfl,rfl,xa⟩:=s4;refine bS 3 (congrArg some xa) (fz J (rc T 4 (lf T 1 J (ro T 1 (k [3] J vn H (jh.c · s6) (λv2 H=>ro T 4 ?_))))))
 cases H;refine cq [3,3,3] J xa (cq [1,1,1] J cy (p0 T J [1,0] J))
def xz.f (n:bQ) (m:aM):Option (Int×bQ):=(yw.f m).bind λv1=>if(!v1)=true then(some (6,n)) else((zj.f n).bind λv2=>(mM.f n.aV v2).bind λv3=>du n.core ((F0.f).bind λv5=>(l7.f m v5).bind λv6=>du v6 (none) (λye=>(rP.f ye).bind λv7=>du v7 (none) (λrj=>(tc.f rj ye).bind λv8=>du v8 (none) (λE5=>(pM.f n.cz).bind λv9=>some (0,(bQ.mk (some (dK.mk ye rj E5)) v9 v3)))))) (λx4=>(pk.f x4.ay).bind λv10=>(l7.f m v10).bind λv11=>du v11 (none) (λzS=>(rP.f zS).bind λv12=>du v12 (none) (λIr=>(tc.f Ir zS).bind λlz=>du lz (none) (λLk=>(pM.f n.cz).bind λdq=>some (0,(bQ.mk (some (dK.mk zS Ir Lk)) dq v3)))))))
def xz.R (sx:Nat) (r:(Int×bQ)):bm:=λu G=> ∃(H0:Hp),gT r.2 sx H0/\u=(ii r.1)/\G=[H0]
theorem xz.c (H:xz.f n m=some r) (i_:gT n cW je) (sJ:aU (Fl.int .u8) m.C oX F) (uZ:List.length m.C<=oG):
 QR 115 [(pp cW),(.agg #[(ii m.W),(ii m.H),(ll oX m.C oG)])] [je] [] F (xz.R cW r):=by
 unfold xz.f at H;refine aG Tryz.func115 J J (λW=>rc T 2 (nc T J (λb2=>fz J (ro T 12 (eY J (rc T 2 (lm T 2 J (k [] J SR H (yw.c · (rO sJ 1) uZ) (λv1 H=>ro T 4 (cb J H (λH=>?_) (λH=>?_)))))))))))
 ·refine rc T 8 ?_
  cases H;exact p1 T J [0,0] ⟨je,i_,J,J⟩ J
 refine rc T 4 ?_;obtain⟨b4,H4,ya,EX,EY,H5,s4,s5,dt⟩:=(λx=>x) i_;refine bS 0 (congrArg some dt) (fz J (ks [0,3] J (fz J (rz [10] mix (bM bL) (λhg pf=>ha T 7 [0,1,2,3] sz hg pf J (av 4 sz hg pf J (gA T 2 J J J J J J J) (ha T 5 [5] sz hg pf J (ao 6 ?_))))))));obtain⟨v2,V3,H⟩:=gx H;refine I1 (As:=[(cl cW 135 [ya,EX,EY,(pp b4),(uu n.aV.bB),(uu n.aV.bw),(uu n.aV.bk),(uu n.aV.bn),(uu n.aV.bF),(uu n.aV.bE)]),H4,H5]) [2,2,2] J J J J TF J J (I9 (A:=[je]) (by simp only[dt,List.flatten_cons,List.flatten_append,List.flatten_nil,List.append_nil,List.append_assoc]) (zj.c V3 i_)) (an sz (ao 7 (kh [] J Nw H (mM.c ·) (λv3 H=>an sz (ha T 1 [8,9] sz hg pf J (ao 10 (ja T 2 J (an sl (ae (rx T 2 ?_))))))))))
 rcases q5:n.core with _ |x4
 ·replace H:=fi q5 H;rw[q5] at s5;obtain⟨rfl,rfl,rfl,rfl⟩:=s5;refine ks [0,3] J (fz J (rq [10] [0,0,0,0,0] J mix (bM bL) (λhg pf=>ha T 10 [0] sz hg pf J (av 1 sz hg pf J (gA T 1 J J J J J J J) (ha T 6 [2,3,4] sz hg pf J (av 5 sz hg pf J (aw T J J J J (aI (j:=2) J J)) (ao 6 (kh [] J B6 H (F0.c ·) (λv5 H=>an sz (ao 7 (kR l7.R [] [] J SS H (l7.c · (rO sJ 0) uZ) (λv6 H=>?_))))))))))));rintro _ _ ⟨_,_,O8,rfl,rfl⟩;rcases v6 with _ |ye
  ·replace H:=fi J H
   cases H
  replace H:=fj J H;obtain⟨fR,bZ,bU,rfl,rfl⟩:=O8;refine an (so [0,0,0,0,0]) (ha T 1 [8,9] (so [0,0,0,0,0]) hg pf J (ao 10 (ja T 2 J (an sl (ae (rx T 7 (lf T 2 J (kr (rP.R fR) [5] [5] J SU H (rP.c · bU) (λv7 H=>?_)))))))));rintro _ _ ⟨_,_,Lt,rfl,rfl⟩;rcases v7 with _ |rj
  ·replace H:=fi J H
   cases H
  replace H:=fj J H;obtain⟨jC,cB,dj,rfl,rfl⟩:=Lt;refine ro T 2 (jZ T 2 J (ro T 3 (ke [0] [0,1,1,1,1,1] J J (fz J (rq [12] [0,0,0,0,0,0] J mix (bM bL) (λhg pf=>ha T 9 [0,1,2,3] sz hg pf J (av 4 sz hg pf J (aw T J J J J (aI (j:=1) J J)) (ha T 5 [5,6,7] sz hg pf J (av 8 sz hg pf J (aw T J J J J (aI (j:=1) J J)) (ao 9 (kR (tc.R jC fR) [4,4] [4,4] J SV H (tc.c · dj bU) (λv8 H=>?_))))))))))));rintro _ _ ⟨_,_,XQ,rfl,rfl⟩;rcases v8 with _ |E5
  ·replace H:=fi J H
   cases H
  replace H:=fj J H;obtain⟨kz,dz,dL,rfl,rfl⟩:=XQ;refine an (so [0,0,0,0,1,1]) (ha T 1 [10,11] (so [0,0,0,0,1,1]) hg pf J (ao 12 (ja T 1 J (an sl (ae (rx T 6 (lf T 1 J (kr (pM.R b4) [] [2] J M9 H (pM.c · s4) (λv9 H=>?_)))))))));rintro _ _ ⟨eJ,dm,rfl,rfl⟩;refine fz J (ro T 8 ?_)
  cases H;refine gq [5,4,3] J (gq [1,2,2] J (p1 T J [2,0] ⟨(List.flatten [(cl cW 135 [(pp fR),(pp jC),(pp kz),(pp b4),(uu v3.bB),(uu v3.bw),(uu v3.bk),(uu v3.bn),(uu v3.bF),(uu v3.bE)]),eJ,(List.flatten [bZ,cB,dz])]),(show gT (bQ.mk (some (dK.mk ye rj E5)) v9 v3) cW (List.flatten [(cl cW 135 [(pp fR),(pp jC),(pp kz),(pp b4),(uu v3.bB),(uu v3.bw),(uu v3.bk),(uu v3.bn),(uu v3.bF),(uu v3.bE)]),eJ,(List.flatten [bZ,cB,dz])]) from⟨b4,eJ,(pp fR),(pp jC),(pp kz),(List.flatten [bZ,cB,dz]),dm,(show uO (some (dK.mk ye rj E5)) (pp fR) (pp jC) (pp kz) (List.flatten [bZ,cB,dz]) from⟨fR,bZ,jC,cB,kz,dz,bU,dj,dL,J,J,J,J⟩),J⟩),J,J⟩ J))
 replace H:=fj q5 H;rw[q5] at s5;obtain⟨b7,H7,b8,H8,b9,H9,s7,s8,s9,rfl,rfl,rfl,oB⟩:=s5;refine bS 4 (congrArg some oB) (fz J (ks [0,3] J (fz J (rq [10] [0,0,0,0,0,0,0] J mix (bM bL) (λhg pf=>ha T 10 [0] sz hg pf J (av 1 sz hg pf J (gA T 1 J J J J J J J) (ha T 6 [2,3,4] sz hg pf J (av 5 sz hg pf J (aw T J J J J (aI (j:=2) J J)) (ao 6 (kh [4] J B6 H (pk.c · s7) (λv10 H=>an sz (ao 7 (kR l7.R [] [] J SS H (l7.c · (rO sJ 0) uZ) (λv11 H=>?_))))))))))))));rintro _ _ ⟨_,_,XR,rfl,rfl⟩;rcases v11 with _ |zS
 ·replace H:=fi J H
  cases H
 replace H:=fj J H;obtain⟨nt,dP,dV,rfl,rfl⟩:=XR;refine an (so [0,0,0,0,0,0,0]) (ha T 1 [8,9] (so [0,0,0,0,0,0,0]) hg pf J (ao 10 (ja T 2 J (an sl (ae (rx T 7 (lf T 2 J (kr (rP.R nt) [7] [7] J SU H (rP.c · dV) (λv12 H=>?_)))))))));rintro _ _ ⟨_,_,XS,rfl,rfl⟩;rcases v12 with _ |Ir
 ·replace H:=fi J H
  cases H
 replace H:=fj J H;obtain⟨pV,gk,gd,rfl,rfl⟩:=XS;refine ro T 2 (jZ T 2 J (ro T 3 (ke [0] [0,1,1,1,1,1,1,1] J J (fz J (rq [12] [0,0,0,0,0,0,0,0] J mix (bM bL) (λhg pf=>ha T 9 [0,1,2,3] sz hg pf J (av 4 sz hg pf J (aw T J J J J (aI (j:=1) J J)) (ha T 5 [5,6,7] sz hg pf J (av 8 sz hg pf J (aw T J J J J (aI (j:=1) J J)) (ao 9 (kR (tc.R pV nt) [6,6] [6,6] J SV H (tc.c · gd dV) (λlz H=>?_))))))))))));rintro _ _ ⟨_,_,XT,rfl,rfl⟩;rcases lz with _ |Lk
 ·replace H:=fi J H
  cases H
 replace H:=fj J H;obtain⟨Ab,eF,fq,rfl,rfl⟩:=XT;refine an (so [0,0,0,0,0,0,1,1]) (ha T 1 [10,11] (so [0,0,0,0,0,0,1,1]) hg pf J (ao 12 (ja T 1 J (an sl (ae (rx T 6 (lf T 1 J (kr (pM.R b4) [] [2] J M9 H (pM.c · s4) (λdq H=>?_)))))))));rintro _ _ ⟨fe,ft,rfl,rfl⟩;refine fz J (ro T 8 ?_)
 cases H;refine gq [7,6,5] J (gq [1,4,4] J (p1 T J [4,0] ⟨(List.flatten [(cl cW 135 [(pp nt),(pp pV),(pp Ab),(pp b4),(uu v3.bB),(uu v3.bw),(uu v3.bk),(uu v3.bn),(uu v3.bF),(uu v3.bE)]),fe,(List.flatten [dP,gk,eF])]),(show gT (bQ.mk (some (dK.mk zS Ir Lk)) dq v3) cW (List.flatten [(cl cW 135 [(pp nt),(pp pV),(pp Ab),(pp b4),(uu v3.bB),(uu v3.bw),(uu v3.bk),(uu v3.bn),(uu v3.bF),(uu v3.bE)]),fe,(List.flatten [dP,gk,eF])]) from⟨b4,fe,(pp nt),(pp pV),(pp Ab),(List.flatten [dP,gk,eF]),ft,(show uO (some (dK.mk zS Ir Lk)) (pp nt) (pp pV) (pp Ab) (List.flatten [dP,gk,eF]) from⟨nt,dP,pV,gk,Ab,eF,dV,gd,fq,J,J,J,J⟩),J⟩),J,J⟩ J))
def xy.f (n:bQ):Option bQ:=(pM.f n.cz).bind λv1=>du n.core ((Hw.f).bind λv3=>some (bQ.mk none v1 n.aV)) (λx2=>(A6.f x2.gJ x2.fZ x2.ay).bind λv4=>some (bQ.mk (some (dK.mk x2.ay x2.fZ v4)) v1 n.aV))
def xy.R (sx:Nat) (r:bQ):bm:=λu G=> ∃(H0:Hp),gT r sx H0/\u=(.tuple #[])/\G=[H0]
theorem xy.c (H:xy.f n=some r) (i_:gT n cW je):
 QR 85 [(pp cW)] [je] [] F (xy.R cW r):=by
 unfold xy.f at H;refine aG Tryz.func85 J J (λW=>rc T 6 (ov J (rc T 1 ?_)));obtain⟨b3,H3,uG,PL,PM,H4,s3,s4,cy⟩:=(λx=>x) i_;refine bS 0 (congrArg some cy) (fz J (rc T 4 (lf T 1 J (kr (pM.R b3) [] [2] J M9 H (pM.c · s3) (λv1 H=>?_)))));rintro _ _ ⟨H5,s5,rfl,rfl⟩;refine fz J (ro T 2 ?_);rcases q2:n.core with _ |x2
 ·replace H:=fi q2 H;rw[q2] at s4;obtain⟨rfl,rfl,rfl,rfl⟩:=s4;refine rc T 4 (lf T 1 J (k [] J SL H (Hw.c ·) (λv3 H=>ro T 1 (jf ?_))))
  cases H;refine aq J (gq [1,2,2] J (p1 T J [2,0] ⟨(List.flatten [(cl cW 135 [(.pointer none),(.pointer none),(.pointer none),(pp b3),(uu n.aV.bB),(uu n.aV.bw),(uu n.aV.bk),(uu n.aV.bn),(uu n.aV.bF),(uu n.aV.bE)]),H5,[]]),(show gT (bQ.mk none v1 n.aV) cW (List.flatten [(cl cW 135 [(.pointer none),(.pointer none),(.pointer none),(pp b3),(uu n.aV.bB),(uu n.aV.bw),(uu n.aV.bk),(uu n.aV.bn),(uu n.aV.bF),(uu n.aV.bE)]),H5,[]]) from⟨b3,H5,(.pointer none),(.pointer none),(.pointer none),[],s5,(show uO none (.pointer none) (.pointer none) (.pointer none) [] from⟨J,J,J,J⟩),J⟩),J,J⟩ J))
 replace H:=fj q2 H;rw[q2] at s4;obtain⟨b7,H7,b8,H8,b9,H9,s7,s8,s9,rfl,rfl,rfl,oB⟩:=s4;refine bS 2 (congrArg some oB) (fz J (rc T 4 (lf T 1 J (kr (A6.R b9 b8 b7) [4,3] [5,4,3] J SL H (A6.c · s9 s8 s7) (λv4 H=>?_)))));rintro _ _ ⟨cB,dj,rfl,rfl⟩;refine fz J (ro T 1 (jf ?_))
 cases H;refine gq [5,4,3] J (gq [1,1,1] J (p1 T J [1,0] ⟨(List.flatten [(cl cW 135 [(pp b7),(pp b8),(pp b9),(pp b3),(uu n.aV.bB),(uu n.aV.bw),(uu n.aV.bk),(uu n.aV.bn),(uu n.aV.bF),(uu n.aV.bE)]),H5,(List.flatten [H7,H8,cB])]),(show gT (bQ.mk (some (dK.mk x2.ay x2.fZ v4)) v1 n.aV) cW (List.flatten [(cl cW 135 [(pp b7),(pp b8),(pp b9),(pp b3),(uu n.aV.bB),(uu n.aV.bw),(uu n.aV.bk),(uu n.aV.bn),(uu n.aV.bF),(uu n.aV.bE)]),H5,(List.flatten [H7,H8,cB])]) from⟨b3,H5,(pp b7),(pp b8),(pp b9),(List.flatten [H7,H8,cB]),s5,(show uO (some (dK.mk x2.ay x2.fZ v4)) (pp b7) (pp b8) (pp b9) (List.flatten [H7,H8,cB]) from⟨b7,H7,b8,H8,b9,cB,s7,s8,dj,J,J,J,J⟩),J⟩),J,J⟩ J))
def xx.f (n:bQ) (cell:Int) (cost:Int):Option (Int×bQ):=du n.core (none) (λx1=>(w8.f x1.ay cell cost).bind λv2=>some (v2.1,(bQ.mk (some (dK.mk v2.2 x1.fZ x1.gJ)) n.cz n.aV)))
def xx.R (sx:Nat) (r:(Int×bQ)):bm:=λu G=> ∃(H0:Hp),gT r.2 sx H0/\u=(ii r.1)/\G=[H0]
theorem xx.c (H:xx.f n cell cost=some r) (i_:gT n cW je):
 QR 120 [(pp cW),(ii cell),(ii cost)] [je] [] F (xx.R cW r):=by
 unfold xx.f at H;refine aG Tryz.func120 J J (λW=>rc T 12 (eY J (rc T 3 ?_)));obtain⟨b3,H3,uG,PL,PM,H4,s3,s4,cy⟩:=(λx=>x) i_;refine bS 0 (congrArg some cy) (fz J ?_);rcases q1:n.core with _ |x1
 ·replace H:=fi q1 H
  cases H
 replace H:=fj q1 H;rw[q1] at s4;obtain⟨b6,H6,b7,H7,b8,H8,s6,s7,s8,rfl,rfl,rfl,xa⟩:=s4;refine bS 3 (congrArg some xa) (fz J (rc T 4 (lf T 1 J (ro T 2 (kr (w8.R b6) [] [3] J acA H (w8.c · s6) (λv2 H=>?_))))));rintro _ _ ⟨H9,s9,rfl,rfl⟩;refine fz J (ro T 4 ?_)
 cases H;refine gq [5,3,3] J (gq [1,1,1] J (p1 T J [1,0] ⟨(List.flatten [(cl cW 135 [(pp b6),(pp b7),(pp b8),(pp b3),(uu n.aV.bB),(uu n.aV.bw),(uu n.aV.bk),(uu n.aV.bn),(uu n.aV.bF),(uu n.aV.bE)]),H3,(List.flatten [H9,H7,H8])]),(show gT (bQ.mk (some (dK.mk v2.2 x1.fZ x1.gJ)) n.cz n.aV) cW (List.flatten [(cl cW 135 [(pp b6),(pp b7),(pp b8),(pp b3),(uu n.aV.bB),(uu n.aV.bw),(uu n.aV.bk),(uu n.aV.bn),(uu n.aV.bF),(uu n.aV.bE)]),H3,(List.flatten [H9,H7,H8])]) from⟨b3,H3,(pp b6),(pp b7),(pp b8),(List.flatten [H9,H7,H8]),s3,(show uO (some (dK.mk v2.2 x1.fZ x1.gJ)) (pp b6) (pp b7) (pp b8) (List.flatten [H9,H7,H8]) from⟨b6,H9,b7,H7,b8,H8,s9,s7,s8,J,J,J,J⟩),J⟩),J,J⟩ J))
def zi.f (n:bQ):Option (Int×Int):=du n.core (none) (λx1=>(iJ.f x1.ay).bind λv2=>some (v2.1,v2.2))
theorem zi.c (H:zi.f n=some r) (i_:gT n cW je):
 QU 164 [(pp cW)] [je] F (.tuple #[(ii r.1),(ii r.2)]):=by
 unfold zi.f at H;refine aG Tryz.func164 J J (λW=>rc T 13 (eY J (rc T 3 ?_)));obtain⟨b3,H3,uG,PL,PM,H4,s3,s4,cy⟩:=(λx=>x) i_;refine bS 0 (congrArg some cy) (fz J ?_);rcases q1:n.core with _ |x1
 ·replace H:=fi q1 H
  cases H
 replace H:=fj q1 H;rw[q1] at s4;obtain⟨b6,H6,b7,H7,b8,H8,s6,s7,s8,rfl,rfl,rfl,xa⟩:=s4;refine bS 3 (congrArg some xa) (fz J (rc T 4 (lf T 1 J (k [3] J tZ H (iJ.c · s6) (λv2 H=>ro T 7 ?_)))))
 cases H;refine cq [3,3,3] J xa (cq [1,1,1] J cy (p0 T J [1,0] J))
def qL.f (n:bQ) (goal:Int) (bG:Int):Option (fQ×Er×bQ):=(du n.core (some true) (λx3=>some false)).bind λx1=>if x1=true then((some (Er.wrap 222 [goal] (Er.eB 2))).bind λx4=>some ((fQ.mk [] []),x4,n)) else(du n.core (none) (λx6=>(l6.f x6.ay bG).bind λv7=>(jh.f x6.ay goal).bind λv8=>if((v8==0)||(!v7.2))=true then((some (Er.wrap 222 [goal] (Er.eB 3))).bind λx9=>some ((fQ.mk [] []),x9,n)) else((xJ.f x6.gJ goal x6.fZ x6.ay).bind λv11=>du v11.1 ((AQ.f x6.ay bG).bind λv12=>((p_.f x6.ay bG).bind λfG=>(mH.f n.cz goal bG fG v7.1 v12).bind λnj=>some (nj.1.eW,nj.1.cx,nj.2.1,nj.2.2)).bind λ(aS,bf,cm,dR)=>if(cm !=0)=true then((some (Er.wrap 222 [goal] (Er.eB 4))).bind λeh=>some ((fQ.mk [] []),eh,(bQ.mk (some (dK.mk x6.ay v11.2.2 v11.2.1)) dR n.aV))) else(some ((fQ.mk aS bf),Er.nil,(bQ.mk (some (dK.mk x6.ay v11.2.2 v11.2.1)) dR n.aV)))) (λzS=>(ik.f x6.ay zS bG).bind λv25=>((p_.f x6.ay bG).bind λv31=>(mH.f n.cz goal bG v31 v7.1 v25).bind λv32=>some (v32.1.eW,v32.1.cx,v32.2.1,v32.2.2)).bind λ(j5,mj,nk,jc)=>if(nk !=0)=true then((some (Er.wrap 222 [goal] (Er.eB 4))).bind λwA=>some ((fQ.mk [] []),wA,(bQ.mk (some (dK.mk x6.ay v11.2.2 v11.2.1)) jc n.aV))) else(some ((fQ.mk j5 mj),Er.nil,(bQ.mk (some (dK.mk x6.ay v11.2.2 v11.2.1)) jc n.aV)))))))
def qL.R (el:Nat->Addr) (sx:Nat) (r:(fQ×Er×bQ)):bm:=λu G=> ∃(a0 n0 H0:_) (a1 n1 H1:_) (v2:Value) (H2:Hp) (H3:Hp),aj (Fl.int .i64) 3 r.1.eW a0 n0 H0/\aj (Fl.int .i64) 3 r.1.cx a1 n1 H1/\gj 414 el r.2.1 v2 H2/\gT r.2.2 sx H3/\u=(.tuple #[(.agg #[(ll a0 r.1.eW n0),(ll a1 r.1.cx n1)]),v2])/\G=[H0,H1,H2,H3]
theorem qL.c (H:qL.f n goal bG=some r) (hG:fU 414 fh il el F) (i_:gT n cW je):
 QR 100 [(pp cW),(ii goal),(ii bG)] [je] [] F (qL.R el cW r):=by
 unfold qL.f at H;refine aG Tryz.func100 J J (λW=>rc T 2 (nc T J (λb2=>fz J (ro T 4 (mq H [0,1,2,6] [1,0,0] (λz2 (x1:Bool)=>(x1=z2,[(21,(bb x1))],[])) J J (λz2 Z1 _=>?_) ?_)))))
 ·obtain⟨b4,H4,ya,EX,EY,H5,s4,s5,dt⟩:=(λx=>x) i_;refine bS 0 (congrArg some dt) (fz J ?_);rcases q2:n.core with _ |x3
  ·replace Z1:=fi q2 Z1;rw[q2] at s5;obtain⟨rfl,rfl,rfl,rfl⟩:=s5;refine rc T 7 (lf T 2 J (ro T 4 (cq [2,2,2] J dt (am _ [0,1,0] (oi Z1) J J))))
  replace Z1:=fj q2 Z1;rw[q2] at s5;obtain⟨b7,H7,b8,H8,b9,H9,s7,s8,s9,rfl,rfl,rfl,oB⟩:=s5;refine bS 4 (congrArg some oB) (fz J (rc T 7 (lf T 2 J (ro T 4 (cq [4,4,4] J oB (cq [2,2,2] J dt (am _ [0,1,0] (oi Z1) J J)))))))
 rintro _ x1 rfl H;refine cb J H (λH=>?_) (λH=>?_)
 ·refine mq H [6] [0,1,0] (λz5 (⟨x4,La,bZ⟩:Er×Value×Hp)=>(x4=z5/\gj 414 el x4 La bZ,[(7,La)],[bZ])) J J (λz5 Z4 _=>?_) ?_
  ·refine fz J (rz [] mix (bM bL) (λhg pf=>ha T 6 [0,1] sz hg pf J (av 2 sz hg pf J (aw T J J J J (rM (j:=0) J hG (g:=2) (by decide))) (ha T 4 [3] sz hg pf J (fk 4 6 ?_ ?_)))))
   ·refine nw T J (λjC=>fz J (an (so [0,0,0]) (fk 5 6 ?_ ?_)))
    ·refine aq J (gq [3,3] J (lF J (hZ T J J J J) (an (so [0,0,0]) (ao 6 (ja T 2 J (an (so [0,0,0]) (ha T 0 [7] (so [0,0,0]) hg pf J (ae (rx T 1 (am (_,_,_) [0,1,0,0] ⟨oi Z4,(p7 oA)⟩ J J))))))))))
    refine ja T 2 J (an (so [0,0,0]) (ao 5 (aq J (gq [3,3] J (lF J (hZ T J J J J) (an (so [0,0,0]) (ha T 0 [7] (so [0,0,0]) hg pf J (ae (rx T 1 (am (_,_,_) [0,1,0,0] ⟨oi Z4,(p7 oA)⟩ J J))))))))))
   refine ja T 2 J (an sz (ao 4 (nw T J (λpV=>fz J (an (so [0,0,0]) (ao 5 (aq J (gq [3,3] J (lF J (hZ T J J J J) (an (so [0,0,0]) (ha T 0 [7] (so [0,0,0]) hg pf J (ae (rx T 1 (am (_,_,_) [0,1,0,0] ⟨oi Z4,(p7 oA)⟩ J J))))))))))))))
  rintro _ ⟨x4,La,bZ⟩ ⟨rfl,bU⟩ H;refine rc T 2 ?_
  cases H;refine aq J (aq J (pb T J (.cN (j:=1) [nl,nl] J J J J J J J (.tmp J .nil)) [4,4,3,2,0] ⟨(_,_),none,0,[],none,0,[],La,bZ,je,aj.nil,aj.nil,bU,i_,J,J⟩ J J))
 refine rc T 3 ?_;obtain⟨kA,mN,aj7,aj8,aj9,jQ,iO,g_,Sq⟩:=(λx=>x) i_;refine bS 1 (congrArg some Sq) (fz J ?_);rcases q5:n.core with _ |x6
 ·replace H:=fi q5 H
  cases H
 replace H:=fj q5 H;rw[q5] at g_;obtain⟨kV,gS,kW,oo,lG,E9,jt,mF,vX,rfl,rfl,rfl,Sv⟩:=g_;refine bS 4 (congrArg some Sv) (fz J (rc T 4 (lf T 2 J (ro T 1 (kr l6.R [4] [4] J SN H (l6.c · jt) (λv7 H=>?_))))));rintro _ _ ⟨a28,n28,uH,ki,rfl,rfl⟩;refine fz J (ro T 3 (nc T J (λAd=>fz J (jZ T 8 J (ro T 9 (lf T 2 J (ro T 1 (k [7] J vn H (jh.c · jt) (λv8 H=>ro T 2 (go T [8,9,10] 44 [0,1,2,6,8] 47 J J J J J J J (ro T 2 (cb J H (λH=>?_) (λH=>?_)))))))))))))
 ·refine mq H [6] [0,0,0,4,1,1,0] (λoe (⟨x9,Ld,rl⟩:Er×Value×Hp)=>(x9=oe/\gj 414 el x9 Ld rl,[(7,Ld)],[rl])) J J (λoe Z9 _=>?_) ?_
  ·refine ke [1,6] [0,0,0,0,0,0,1] J J (fz J (rz [] mix (bM bL) (λhg pf=>ha T 6 [0,1] sz hg pf J (av 2 sz hg pf J (aw T J J J J (rM (j:=0) J hG (g:=3) (by decide))) (ha T 4 [3] sz hg pf J (fk 4 6 ?_ ?_))))))
   ·refine nw T J (λZP=>fz J (an (so [0,0,0,0,0,0,0]) (fk 5 6 ?_ ?_)))
    ·refine aq J (gq [7,7] J (lF J (hZ T J J J J) (an (so [0,0,0,0,0,0,0]) (ao 6 (ja T 1 J (an (so [0,0,0,0,0,0,0]) (ha T 0 [7] (so [0,0,0,0,0,0,0]) hg pf J (ae (rx T 1 (am (_,_,_) [0,0,0,3,1,1,0,0] ⟨oi Z9,(p7 oA)⟩ J J))))))))))
    refine ja T 1 J (an (so [0,0,0,0,0,0,0]) (ao 5 (aq J (gq [7,7] J (lF J (hZ T J J J J) (an (so [0,0,0,0,0,0,0]) (ha T 0 [7] (so [0,0,0,0,0,0,0]) hg pf J (ae (rx T 1 (am (_,_,_) [0,0,0,3,1,1,0,0] ⟨oi Z9,(p7 oA)⟩ J J))))))))))
   refine ja T 1 J (an sz (ao 4 (nw T J (λb36=>fz J (an (so [0,0,0,0,0,0,0]) (ao 5 (aq J (gq [7,7] J (lF J (hZ T J J J J) (an (so [0,0,0,0,0,0,0]) (ha T 0 [7] (so [0,0,0,0,0,0,0]) hg pf J (ae (rx T 1 (am (_,_,_) [0,0,0,3,1,1,0,0] ⟨oi Z9,(p7 oA)⟩ J J))))))))))))))
  rintro _ ⟨x9,Ld,rl⟩ ⟨rfl,pH⟩ H;refine rc T 2 ?_
  cases H;refine cq [3,3,3] J Sv (cq [2,2,3] J Sq (aq J (aq J (pb T J (.cN (j:=1) [nl,nl] J J J J J J J (.tmp J .nil)) [4,4,2,2,0] ⟨(_,_),none,0,[],none,0,[],Ld,rl,je,aj.nil,aj.nil,pH,i_,J,J⟩ J J))))
 refine rc T 3 (ks [0,1,2,6,8] J (fz J (rq [] [0,0,0,0,2,2,2] J mix (bM bL) (λhg pf=>ha T 10 [0,1,2] (so [0,0,0,0,2,2,2]) hg pf J (av 3 (so [0,0,0,0,2,2,2]) hg pf J (aw T J J J J (aI (j:=2) J J)) (ha T 6 [4,5,6] (so [0,0,0,0,2,2,2]) hg pf J (av 7 (so [0,0,0,0,2,2,2]) hg pf J (aw T J J J J (aI (j:=2) J J)) (ha T 3 [8,10] (so [0,0,0,0,2,2,2]) hg pf J (ao 9 (kR (xJ.R lG kW kV kW kV) [7] [5,4,5] J acw H (xJ.c · vX mF jt) (λv11 H=>?_)))))))))));rintro _ _ ⟨aj5,lD,gD,IG,tg,rfl,rfl⟩;refine fz J ?_;rcases J5:v11.1 with _ |zS
 ·replace H:=fi J5 H;rw[J5] at IG;obtain⟨rfl,C5⟩:=IG;refine an (so [0,0,0,0,0,3,0]) (ao 11 (kR AQ.R [8] [8] J SP H (AQ.c · jt) (λv12 H=>?_)));rintro _ _ ⟨a54,n54,H54,EI,rfl,rfl⟩;refine fz J (an (so [0,0,0,0,0,4,0]) (ha T 0 [12] (so [0,0,0,0,0,4,0]) hg pf J (ae (rx T 1 (mq H [1,6] [0,0,0,6,4,3] (λz17 (⟨aS,bf,cm,dR,LY,Fo,G8,IA,Fp,n57,IB,yj⟩:List Int×List Int×Int×ju×Nat×Option Addr×Nat×Hp×Option Addr×Nat×Hp×Hp)=>((aS,bf,cm,dR)=z17/\aj (Fl.int .i64) 3 aS Fo G8 IA/\aj (Fl.int .i64) 3 bf Fp n57 IB/\sk dR kA yj,[(11,(pp LY)),(12,(ii cm))],[(cl LY 79 [(ll Fo aS G8),(ll Fp bf n57)]),IA,IB,yj])) J J (λz17 cj _=>?_) ?_)))))
  ·refine ks [0,1,2,6,8,10] J (fz J (rz [14] mix (bM bL) (λhg pf=>ha T 18 [0,1,2] sz hg pf J (av 3 sz hg pf J (aw T J J J J (aI (j:=2) J J)) (ha T 12 [4,5,6,7,8] sz hg pf J (av 9 sz hg pf J (aw T J J J J (aI (j:=2) J J)) (ha T 10 [10] sz hg pf J (av 12 sz hg pf J (gA T 5 J J J J J J J) (ha T 8 [13] sz hg pf J (fk 11 18 ?_ ?_))))))))))
   ·refine kh [9] J B7 cj (p_.c · jt) (λfG cj=>an sz (fk 14 18 ?_ ?_))
    ·refine kR (mH.R kA) [] [3] J D1 cj (mH.c · iO (oO ki 3) ki.bW (oO EI 7) EI.bW) (λnj cj=>?_);rintro _ _ ⟨a59,n59,H59,a60,n60,H60,H61,s59,s60,s61,rfl,rfl⟩;refine fz J (an sl (hb T 15 sl hg pf J (hb T 16 sl hg pf J (hb T 17 sl hg pf J (ao 18 (nw T J (λb62=>fz J (an sl (ao 19 (ja T 12 J (an sl (hb T 20 sl hg pf J (ae (rx T 1 (am (_,_,_,_,_,_,_,_,_,_,_,_) [0,0,0,5,3,2,6,3,3,3] ⟨oi cj,s59,s60,s61⟩ J J)))))))))))))))
    refine nw T J (λb63=>fz J (an (so [0,0,0,0,0,0,0,0,0,0]) (ao 14 (kR (mH.R kA) [] [3] J D1 cj (mH.c · iO (oO ki 3) ki.bW (oO EI 7) EI.bW) (λv20 cj=>?_)))));rintro _ _ ⟨a64,n64,H64,a65,n65,H65,H66,s64,s65,s66,rfl,rfl⟩;refine fz J (an sl (hb T 15 sl hg pf J (hb T 16 sl hg pf J (hb T 17 sl hg pf J (ao 19 (ja T 9 J (an sl (hb T 20 sl hg pf J (ae (rx T 1 (am (_,_,_,_,_,_,_,_,_,_,_,_) [0,0,0,5,3,2,3,3,3,3] ⟨oi cj,s64,s65,s66⟩ J J)))))))))))
   refine nw T J (λb67=>fz J (an (so [0,0,0,0,0,0,0,0,0,0]) (ao 11 (kh [9] J B7 cj (p_.c · jt) (λv21 cj=>an (so [0,0,0,0,0,0,0,0,0,0]) (ao 14 (kR (mH.R kA) [] [3] J D1 cj (mH.c · iO (oO ki 3) ki.bW (oO EI 7) EI.bW) (λv22 cj=>?_))))))));rintro _ _ ⟨a68,n68,H68,a69,n69,H69,H70,s68,s69,s70,rfl,rfl⟩;refine fz J (an sl (hb T 15 sl hg pf J (hb T 16 sl hg pf J (hb T 17 sl hg pf J (ao 19 (ja T 9 J (an sl (hb T 20 sl hg pf J (ae (rx T 1 (am (_,_,_,_,_,_,_,_,_,_,_,_) [0,0,0,5,3,2,3,3,3,3] ⟨oi cj,s68,s69,s70⟩ J J)))))))))))
  rintro _ ⟨aS,bf,cm,dR,LY,Fo,G8,IA,Fp,n57,IB,yj⟩ ⟨rfl,s56,s57,WN⟩ H;refine rc T 7 (cb J H (λH=>?_) (λH=>?_))
  ·refine mq H [6] [0,0,0,0,0,0,3] (λz24 (⟨eh,Lf,IC⟩:Er×Value×Hp)=>(eh=z24/\gj 414 el eh Lf IC,[(7,Lf)],[IC])) J J (λz24 ss _=>?_) ?_
   ·refine fz J (rz [] mix (bM bL) (λhg pf=>ha T 6 [0,1] sz hg pf J (av 2 sz hg pf J (aw T J J J J (rM (j:=0) J hG (g:=4) (by decide))) (ha T 4 [3] sz hg pf J (fk 4 6 ?_ ?_)))))
    ·refine nw T J (λb72=>fz J (an (so [0,0,0,0,0,0,0,0,0,0]) (fk 5 6 ?_ ?_)))
     ·refine aq J (gq [10,10] J (lF J (hZ T J J J J) (an (so [0,0,0,0,0,0,0,0,0,0]) (ao 6 (ja T 1 J (an (so [0,0,0,0,0,0,0,0,0,0]) (ha T 0 [7] (so [0,0,0,0,0,0,0,0,0,0]) hg pf J (ae (rx T 1 (am (_,_,_) [0,0,0,0,0,0,3,3] ⟨oi ss,(p7 oA)⟩ J J))))))))))
     refine ja T 1 J (an (so [0,0,0,0,0,0,0,0,0,0]) (ao 5 (aq J (gq [10,10] J (lF J (hZ T J J J J) (an (so [0,0,0,0,0,0,0,0,0,0]) (ha T 0 [7] (so [0,0,0,0,0,0,0,0,0,0]) hg pf J (ae (rx T 1 (am (_,_,_) [0,0,0,0,0,0,3,3] ⟨oi ss,(p7 oA)⟩ J J))))))))))
    refine ja T 1 J (an sz (ao 4 (nw T J (λb77=>fz J (an (so [0,0,0,0,0,0,0,0,0,0]) (ao 5 (aq J (gq [10,10] J (lF J (hZ T J J J J) (an (so [0,0,0,0,0,0,0,0,0,0]) (ha T 0 [7] (so [0,0,0,0,0,0,0,0,0,0]) hg pf J (ae (rx T 1 (am (_,_,_) [0,0,0,0,0,0,3,3] ⟨oi ss,(p7 oA)⟩ J J))))))))))))))
   rintro _ ⟨eh,Lf,IC⟩ ⟨rfl,s71⟩ H;refine rc T 2 ?_
   cases H;refine gq [3,3,3] J (gq [2,2,3] J (aq J (aq J (pb T J (.cN (j:=1) [nl,nl] J J J J J J J (.tmp J .nil)) [4,4,2,2,0] ⟨(_,_),none,0,[],none,0,[],Lf,IC,(List.flatten [(cl cW 135 [(pp kV),(pp kW),(pp lG),(pp kA),(uu n.aV.bB),(uu n.aV.bw),(uu n.aV.bk),(uu n.aV.bn),(uu n.aV.bF),(uu n.aV.bE)]),yj,(List.flatten [gS,gD,lD])]),aj.nil,aj.nil,s71,(show gT (bQ.mk (some (dK.mk x6.ay v11.2.2 v11.2.1)) dR n.aV) cW (List.flatten [(cl cW 135 [(pp kV),(pp kW),(pp lG),(pp kA),(uu n.aV.bB),(uu n.aV.bw),(uu n.aV.bk),(uu n.aV.bn),(uu n.aV.bF),(uu n.aV.bE)]),yj,(List.flatten [gS,gD,lD])]) from⟨kA,yj,(pp kV),(pp kW),(pp lG),(List.flatten [gS,gD,lD]),WN,(show uO (some (dK.mk x6.ay v11.2.2 v11.2.1)) (pp kV) (pp kW) (pp lG) (List.flatten [gS,gD,lD]) from⟨kV,gS,kW,gD,lG,lD,jt,tg,C5,J,J,J,J⟩),J⟩),J,J⟩ J J))))
  refine rc T 4 (lm T 6 J (jZ T 1 J (ro T 4 ?_)))
  cases H;refine gq [3,3,3] J (gq [2,5,5] J (aq J (pb T J (.cN (j:=1) [(ll Fo aS G8),(ll Fp bf n57)] J J J J J J J (.tmp J .nil)) [3,3,4,3,0] ⟨(_,_),Fo,G8,IA,Fp,n57,IB,.nilIface,[],(List.flatten [(cl cW 135 [(pp kV),(pp kW),(pp lG),(pp kA),(uu n.aV.bB),(uu n.aV.bw),(uu n.aV.bk),(uu n.aV.bn),(uu n.aV.bF),(uu n.aV.bE)]),yj,(List.flatten [gS,gD,lD])]),s56,s57,tU,(show gT (bQ.mk (some (dK.mk x6.ay v11.2.2 v11.2.1)) dR n.aV) cW (List.flatten [(cl cW 135 [(pp kV),(pp kW),(pp lG),(pp kA),(uu n.aV.bB),(uu n.aV.bw),(uu n.aV.bk),(uu n.aV.bn),(uu n.aV.bF),(uu n.aV.bE)]),yj,(List.flatten [gS,gD,lD])]) from⟨kA,yj,(pp kV),(pp kW),(pp lG),(List.flatten [gS,gD,lD]),WN,(show uO (some (dK.mk x6.ay v11.2.2 v11.2.1)) (pp kV) (pp kW) (pp lG) (List.flatten [gS,gD,lD]) from⟨kV,gS,kW,gD,lG,lD,jt,tg,C5,J,J,J,J⟩),J⟩),J,J⟩ J J)))
 replace H:=fj J5 H;rw[J5] at IG;obtain⟨vQ,QP,Ly,n52,Ls,EH,rfl,Ss⟩:=IG;have WM:tN v11.2.1 lG kW kV lD:=⟨(pp QP),_,(by rw[vQ];exact⟨QP,Ly,n52,Ls,EH,J,J⟩),Ss⟩
 obtain⟨XL,MY,MV⟩:=afa Ss;refine bS 6 (congrArg some MV) (fz J (bS 9 (congrArg some MY) (fz J (an (so [0,0,0,0,0,2,0]) (ao 11 (kR ik.R [7,8,8] [7,8,8] J SP H (ik.c · jt EH) (λv25 H=>?_)))))));rintro _ _ ⟨a85,n85,H85,EJ,rfl,rfl⟩;refine fz J (an (so [0,0,0,0,0,4,0]) (ha T 0 [12] (so [0,0,0,0,0,4,0]) hg pf J (ae (rx T 1 (mq H [1,6] [0,0,0,6,3,3,4,4] (λXE (⟨j5,mj,nk,jc,L0,a87,G9,ID,Fq,G_,IE,yl⟩:List Int×List Int×Int×ju×Nat×Option Addr×Nat×Hp×Option Addr×Nat×Hp×Hp)=>((j5,mj,nk,jc)=XE/\aj (Fl.int .i64) 3 j5 a87 G9 ID/\aj (Fl.int .i64) 3 mj Fq G_ IE/\sk jc kA yl,[(11,(pp L0)),(12,(ii nk))],[(cl L0 79 [(ll a87 j5 G9),(ll Fq mj G_)]),ID,IE,yl])) J J (λXE su _=>?_) ?_)))))
 ·refine ks [0,1,2,6,8,10] J (fz J (rz [14] mix (bM bL) (λhg pf=>ha T 18 [0,1,2] sz hg pf J (av 3 sz hg pf J (aw T J J J J (aI (j:=2) J J)) (ha T 12 [4,5,6,7,8] sz hg pf J (av 9 sz hg pf J (aw T J J J J (aI (j:=2) J J)) (ha T 10 [10] sz hg pf J (av 12 sz hg pf J (gA T 5 J J J J J J J) (ha T 8 [13] sz hg pf J (fk 11 18 ?_ ?_))))))))))
  ·refine kh [9] J B7 su (p_.c · jt) (λv31 su=>an sz (fk 14 18 ?_ ?_))
   ·refine kR (mH.R kA) [] [3] J D1 su (mH.c · iO (oO ki 3) ki.bW (oO EJ 7) EJ.bW) (λv32 su=>?_);rintro _ _ ⟨a90,n90,H90,a91,n91,H91,H92,s90,s91,s92,rfl,rfl⟩;refine fz J (an sl (hb T 15 sl hg pf J (hb T 16 sl hg pf J (hb T 17 sl hg pf J (ao 18 (nw T J (λb93=>fz J (an sl (ao 19 (ja T 14 J (an sl (hb T 20 sl hg pf J (ae (rx T 1 (am (_,_,_,_,_,_,_,_,_,_,_,_) [0,0,0,5,2,2,3,3,6,3,3,3] ⟨oi su,s90,s91,s92⟩ J J)))))))))))))))
   refine nw T J (λb94=>fz J (an (so [0,0,0,0,0,0,0,0,0,0,0,0]) (ao 14 (kR (mH.R kA) [] [3] J D1 su (mH.c · iO (oO ki 3) ki.bW (oO EJ 7) EJ.bW) (λv33 su=>?_)))));rintro _ _ ⟨a95,n95,H95,a96,n96,H96,H97,s95,s96,s97,rfl,rfl⟩;refine fz J (an sl (hb T 15 sl hg pf J (hb T 16 sl hg pf J (hb T 17 sl hg pf J (ao 19 (ja T 11 J (an sl (hb T 20 sl hg pf J (ae (rx T 1 (am (_,_,_,_,_,_,_,_,_,_,_,_) [0,0,0,5,2,2,3,3,3,3,3,3] ⟨oi su,s95,s96,s97⟩ J J)))))))))))
  refine nw T J (λb98=>fz J (an (so [0,0,0,0,0,0,0,0,0,0,0,0]) (ao 11 (kh [9] J B7 su (p_.c · jt) (λPN su=>an (so [0,0,0,0,0,0,0,0,0,0,0,0]) (ao 14 (kR (mH.R kA) [] [3] J D1 su (mH.c · iO (oO ki 3) ki.bW (oO EJ 7) EJ.bW) (λv35 su=>?_))))))));rintro _ _ ⟨a99,n99,H99,ajE,n100,ajC,ajD,s99,ah2,ah3,rfl,rfl⟩;refine fz J (an sl (hb T 15 sl hg pf J (hb T 16 sl hg pf J (hb T 17 sl hg pf J (ao 19 (ja T 11 J (an sl (hb T 20 sl hg pf J (ae (rx T 1 (am (_,_,_,_,_,_,_,_,_,_,_,_) [0,0,0,5,2,2,3,3,3,3,3,3] ⟨oi su,s99,ah2,ah3⟩ J J)))))))))))
 rintro _ ⟨j5,mj,nk,jc,L0,a87,G9,ID,Fq,G_,IE,yl⟩ ⟨rfl,s87,s88,WO⟩ H;refine rc T 7 (cb J H (λH=>?_) (λH=>?_))
 ·refine mq H [6] [0,0,0,0,0,0,0,0,3] (λz37 (⟨wA,K_,Iw⟩:Er×Value×Hp)=>(wA=z37/\gj 414 el wA K_ Iw,[(7,K_)],[Iw])) J J (λz37 oV _=>?_) ?_
  ·refine fz J (rz [] mix (bM bL) (λhg pf=>ha T 6 [0,1] sz hg pf J (av 2 sz hg pf J (aw T J J J J (rM (j:=0) J hG (g:=4) (by decide))) (ha T 4 [3] sz hg pf J (fk 4 6 ?_ ?_)))))
   ·refine nw T J (λajF=>fz J (an (so [0,0,0,0,0,0,0,0,0,0,0,0]) (fk 5 6 ?_ ?_)))
    ·refine aq J (gq [12,12] J (lF J (hZ T J J J J) (an (so [0,0,0,0,0,0,0,0,0,0,0,0]) (ao 6 (ja T 1 J (an (so [0,0,0,0,0,0,0,0,0,0,0,0]) (ha T 0 [7] (so [0,0,0,0,0,0,0,0,0,0,0,0]) hg pf J (ae (rx T 1 (am (_,_,_) [0,0,0,0,0,0,0,0,3,3] ⟨oi oV,(p7 oA)⟩ J J))))))))))
    refine ja T 1 J (an (so [0,0,0,0,0,0,0,0,0,0,0,0]) (ao 5 (aq J (gq [12,12] J (lF J (hZ T J J J J) (an (so [0,0,0,0,0,0,0,0,0,0,0,0]) (ha T 0 [7] (so [0,0,0,0,0,0,0,0,0,0,0,0]) hg pf J (ae (rx T 1 (am (_,_,_) [0,0,0,0,0,0,0,0,3,3] ⟨oi oV,(p7 oA)⟩ J J))))))))))
   refine ja T 1 J (an sz (ao 4 (nw T J (λajG=>fz J (an (so [0,0,0,0,0,0,0,0,0,0,0,0]) (ao 5 (aq J (gq [12,12] J (lF J (hZ T J J J J) (an (so [0,0,0,0,0,0,0,0,0,0,0,0]) (ha T 0 [7] (so [0,0,0,0,0,0,0,0,0,0,0,0]) hg pf J (ae (rx T 1 (am (_,_,_) [0,0,0,0,0,0,0,0,3,3] ⟨oi oV,(p7 oA)⟩ J J))))))))))))))
  rintro _ ⟨wA,K_,Iw⟩ ⟨rfl,ah4⟩ H;refine rc T 2 ?_
  cases H;refine cq [6,6] J MY (cq [5,7] J MV (gq [3,3,5] J (gq [2,2,3] J (aq J (aq J (pb T J (.cN (j:=1) [nl,nl] J J J J J J J (.tmp J .nil)) [4,4,2,2,0] ⟨(_,_),none,0,[],none,0,[],K_,Iw,(List.flatten [(cl cW 135 [(pp kV),(pp kW),(pp lG),(pp kA),(uu n.aV.bB),(uu n.aV.bw),(uu n.aV.bk),(uu n.aV.bn),(uu n.aV.bF),(uu n.aV.bE)]),yl,(List.flatten [gS,gD,lD])]),aj.nil,aj.nil,ah4,(show gT (bQ.mk (some (dK.mk x6.ay v11.2.2 v11.2.1)) jc n.aV) cW (List.flatten [(cl cW 135 [(pp kV),(pp kW),(pp lG),(pp kA),(uu n.aV.bB),(uu n.aV.bw),(uu n.aV.bk),(uu n.aV.bn),(uu n.aV.bF),(uu n.aV.bE)]),yl,(List.flatten [gS,gD,lD])]) from⟨kA,yl,(pp kV),(pp kW),(pp lG),(List.flatten [gS,gD,lD]),WO,(show uO (some (dK.mk x6.ay v11.2.2 v11.2.1)) (pp kV) (pp kW) (pp lG) (List.flatten [gS,gD,lD]) from⟨kV,gS,kW,gD,lG,lD,jt,tg,WM,J,J,J,J⟩),J⟩),J,J⟩ J J))))))
 refine rc T 4 (lm T 8 J (jZ T 1 J (ro T 4 ?_)))
 cases H;refine cq [6,6] J MY (cq [5,9] J MV (gq [3,3,7] J (gq [2,5,5] J (aq J (pb T J (.cN (j:=1) [(ll a87 j5 G9),(ll Fq mj G_)] J J J J J J J (.tmp J .nil)) [3,3,4,3,0] ⟨(_,_),a87,G9,ID,Fq,G_,IE,.nilIface,[],(List.flatten [(cl cW 135 [(pp kV),(pp kW),(pp lG),(pp kA),(uu n.aV.bB),(uu n.aV.bw),(uu n.aV.bk),(uu n.aV.bn),(uu n.aV.bF),(uu n.aV.bE)]),yl,(List.flatten [gS,gD,lD])]),s87,s88,tU,(show gT (bQ.mk (some (dK.mk x6.ay v11.2.2 v11.2.1)) jc n.aV) cW (List.flatten [(cl cW 135 [(pp kV),(pp kW),(pp lG),(pp kA),(uu n.aV.bB),(uu n.aV.bw),(uu n.aV.bk),(uu n.aV.bn),(uu n.aV.bF),(uu n.aV.bE)]),yl,(List.flatten [gS,gD,lD])]) from⟨kA,yl,(pp kV),(pp kW),(pp lG),(List.flatten [gS,gD,lD]),WO,(show uO (some (dK.mk x6.ay v11.2.2 v11.2.1)) (pp kV) (pp kW) (pp lG) (List.flatten [gS,gD,lD]) from⟨kV,gS,kW,gD,lG,lD,jt,tg,WM,J,J,J,J⟩),J⟩),J,J⟩ J J)))))
def zk.f (n:bQ) (goal:Int) (cell:Int):Option (Int×Int×Er×bQ):=(zi.f n).bind λv1=>(gN.f v1.1 v1.2 cell).bind λv2=>(qL.f n goal v2).bind λv3=>if(!(Er.isNil v3.2.1))=true then(some (0,0,v3.2.1,v3.2.2)) else((ra.f v1.1 v1.2 cell).bind λv4=>if(0<=v4/\v4<(List.length v3.1.eW:Int)) then(if(0<=v4/\v4<(List.length v3.1.cx:Int)) then(some ((rd v3.1.eW v4),(rd v3.1.cx v4),Er.nil,v3.2.2)) else none) else none)
def zk.R (el:Nat->Addr) (sx:Nat) (r:(Int×Int×Er×bQ)):bm:=λu G=> ∃(v0:Value) (H0:Hp) (H1:Hp),gj 414 el r.2.2.1 v0 H0/\gT r.2.2.2 sx H1/\u=(.tuple #[(ii r.1),(ii r.2.1),v0])/\G=[H0,H1]
theorem zk.c (H:zk.f n goal cell=some r) (hG:fU 414 fh il el F) (i_:gT n cW je):
 QR 163 [(pp cW),(ii goal),(ii cell)] [je] [] F (zk.R el cW r):=by
 unfold zk.f at H;refine aG Tryz.func163 J J (λW=>rc T 10 (k [0] J S3 H (zi.c · i_) (λv1 H=>ro T 14 (k [] J rI H (gN.c ·) (λv2 H=>kr (qL.R el cW) [] [0] J SG H (qL.c · (dI hG (j:=0) J) i_) (λv3 H=>?_))))));rintro _ _ ⟨a2,n2,H2,a3,n3,H3,v4,H4,H5,s2,s3,s4,s5,rfl,rfl⟩;refine fz J (ro T 3 (nc T J (λb6=>fz J (jZ T 5 J (ro T 7 (bz J (DR T J J J (rD s4 (j:=3) J)) (ro T 2 (cb J H (λH=>?_) (λH=>?_)))))))))
 ·refine rc T 10 ?_
  cases H;exact p1 T J [3,3,0] ⟨v4,H4,H5,s4,s5,J,J⟩ J
 refine rc T 7 (k [] J F9 H (ra.c ·) (λv4 H=>ro T 4 (dD mix az (au T J (aO J J J (aw T J J J J (aI (j:=5) J J)) (au T J ?_))))));obtain⟨c6,H⟩:=aA H;obtain⟨q7,o7,e7⟩:=s2.r.addr c6.1 c6.2;refine aO J J J (cT T J J J J J e7 c6.1 c6.2) (aO J J J (aw T J J J J (iY (k:=(Fl.int .i64)) (oO s2 1) e7 c6 0 J)) (au T J (aO J J J (aw T J J J J (aI (j:=5) J J)) (au T J ?_))));obtain⟨c7,H⟩:=aA H;obtain⟨q8,o8,e8⟩:=s3.r.addr c7.1 c7.2;refine aO J J J (cT T J J J J J e8 c7.1 c7.2) (aO J J J (aw T J J J J (iY (k:=(Fl.int .i64)) (oO s3 2) e8 c7 0 J)) (au T J (au T J (au T J (dg (rx T 2 ?_))))))
 cases H;refine aq J (p1 T J [6,4,0] ⟨.nilIface,[],H5,tU,s5,J,J⟩ J)
def zl.f (err:Er):Option Int:=if(Er.isNil err)=true then(some 0) else((vc.f err (Er.eB 2)).bind λv1=>if v1=true then(some 4) else((vc.f err (Er.eB 3)).bind λv2=>if v2=true then(some 7) else(some 1)))
theorem zl.c (H:zl.f err=some r) (hG:fU 414 fh il el F) (DN:lU 414 el err PO F):
 QU 101 [PO] [] F (ii r):=by
 unfold zl.f at H;refine aG Tryz.func101 J J (λW=>rc T 10 (bz J (Jm T J J J (FX DN (j:=0) J)) (ro T 3 (cb J H (λH=>?_) (λH=>?_)))))
 ·refine rc T 8 ?_
  cases H;exact p0 T J [0] J
 refine rc T 3 (lg T J (rM (j:=0) J hG (g:=2) (by decide)) (k [] J JJ H (vc.c err (Er.eB 2) _ _ · (dI hG (j:=0) J) (FX DN (j:=0) J) Jb) (λv1 H=>ro T 3 (cb J H (λH=>?_) (λH=>?_)))))
 ·refine rc T 8 ?_
  cases H;exact p0 T J [0] J
 refine rc T 3 (lg T J (rM (j:=0) J hG (g:=3) (by decide)) (k [] J JJ H (vc.c err (Er.eB 3) _ _ · (dI hG (j:=0) J) (FX DN (j:=0) J) Jb) (λv2 H=>ro T 3 (cb J H (λH=>?_) (λH=>?_)))))
 ·refine rc T 8 ?_
  cases H;exact p0 T J [0] J
 refine rc T 9 ?_
 cases H;exact p0 T J [0] J
def xA.f (n:bQ) (goal:Int) (cell:Int):Option (Int×Int×Int×bQ):=(zk.f n goal cell).bind λv1=>(zl.f v1.2.2.1).bind λv2=>some (v1.1,v1.2.1,v2,v1.2.2.2)
def xA.R (el:Nat->Addr) (sx:Nat) (r:(Int×Int×Int×bQ)):bm:=λu G=> ∃(H0:Hp),gT r.2.2.2 sx H0/\u=(.tuple #[(ii r.1),(ii r.2.1),(ii r.2.2.1)])/\G=[H0]
theorem xA.c (H:xA.f n goal cell=some r) (hG:fU 414 fh il el F) (i_:gT n cW je):
 QR 127 [(pp cW),(ii goal),(ii cell)] [je] [] F (xA.R el cW r):=by
 unfold xA.f at H;refine aG Tryz.func127 J J (λW=>rc T 12 (kr (zk.R el cW) [] [0] J acE H (zk.c · (dI hG (j:=0) J) i_) (λv1 H=>?_)));rintro _ _ ⟨v2,H2,H3,s2,s3,rfl,rfl⟩;refine fz J (ro T 14 (k [] J SH H (zl.c · (dI hG (j:=0) J) (rD s2 (j:=1) J)) (λv2 H=>ro T 6 ?_)))
 cases H;exact p1 T J [2,0] ⟨H3,s3,J,J⟩ J
def uo.f (n:bQ) (goal:Int) (bG:Int):Option (fQ×Int×bQ):=(qL.f n goal bG).bind λv1=>(zl.f v1.2.1).bind λv2=>some (v1.1,v2,v1.2.2)
def uo.R (el:Nat->Addr) (sx:Nat) (r:(fQ×Int×bQ)):bm:=λu G=> ∃(a0 n0 H0:_) (a1 n1 H1:_) (H2:Hp),aj (Fl.int .i64) 3 r.1.eW a0 n0 H0/\aj (Fl.int .i64) 3 r.1.cx a1 n1 H1/\gT r.2.2 sx H2/\u=(.tuple #[(.agg #[(ll a0 r.1.eW n0),(ll a1 r.1.cx n1)]),(ii r.2.1)])/\G=[H0,H1,H2]
theorem uo.c (H:uo.f n goal bG=some r) (hG:fU 414 fh il el F) (i_:gT n cW je):
 QR 68 [(pp cW),(ii goal),(ii bG)] [je] [] F (uo.R el cW r):=by
 unfold uo.f at H;refine aG Tryz.func68 J J (λW=>rc T 2 (nc T J (λb2=>fz J (ro T 8 (kr (qL.R el cW) [] [0] J SG H (qL.c · (dI hG (j:=0) J) i_) (λv1 H=>?_))))));rintro _ _ ⟨a3,n3,H3,a4,n4,H4,v5,H5,H6,s3,s4,s5,s6,rfl,rfl⟩;refine fz J (ro T 3 (nc T J (λb7=>fz J (jZ T 6 J (ro T 4 (ks [6,8,9] J (fz J (rz [3] mix (bM bL) (λhg pf=>av 0 sz hg pf J (gA T 6 J J J J J J J) (ha T 3 [1] sz hg pf J (ao 2 (kh [] J SH H (zl.c · (dI hG (j:=0) J) (rD s5 (j:=4) J)) (λv2 H=>an sz (ao 3 (ja T 1 J (an sl (hb T 4 sl hg pf J (ae (rx T 2 ?_)))))))))))))))))))
 cases H;exact pb T J (.cN (j:=1) [(ll a3 v1.1.eW n3),(ll a4 v1.1.cx n4)] J J J J J J J (.tmp J .nil)) [2,2,3,0] ⟨(_,_),a3,n3,H3,a4,n4,H4,H6,s3,s4,s6,J,J⟩ J J
end
noncomputable section
def pD.f (kind:Int):Option (AZ×Bool):=if(kind==1)=true then(some ((AZ.mk 0 0 true),true)) else(if(kind==2)=true then(some ((AZ.mk 4 1 false),true)) else((if(kind==3)=true then(some (kind==3)) else(if(kind==4)=true then(some (kind==4)) else(some (kind==6)))).bind λx1=>if x1=true then(some ((AZ.mk 4 4 false),true)) else(if(kind==5)=true then(some ((AZ.mk 4 0 false),true)) else((if(kind==7)=true then(some (kind==7)) else(some (kind==8))).bind λx3=>if x3=true then(some ((AZ.mk 0 0 false),true)) else(some ((AZ.mk 0 0 false),false))))))
theorem pD.c (H:pD.f kind=some r):
 QU 111 [(ii kind)] [] F (.tuple #[(.agg #[(ii r.1.a),(ii r.1.b),(bb r.1.load)]),(bb r.2)]):=by
 unfold pD.f at H;refine aG Tryz.func111 J J (λW=>rc T 2 (nc T J (λb1=>ro T 5 (nc T J (λb2=>ro T 29 (cb J H (λH=>?_) (λH=>?_)))))))
 ·refine rc T 8 (sg T 2 J (ro T 1 (ks [2,4] J (rx T 16 (lm T 2 J (sg T 1 J (ro T 1 (ro T 3 ?_))))))))
  cases H;exact pb T J (.cN (j:=1) [(ii 0),(ii 0),(bb true)] J J J J J J J (.tmp J .nil)) [0] () J J
 refine rc T 9 (cb J H (λH=>?_) (λH=>?_))
 ·refine rc T 10 (sg T 2 J (ro T 1 (sg T 2 J (ro T 1 (ks [2,4] J (rx T 14 (lm T 2 J (sg T 1 J (ro T 4 ?_)))))))))
  cases H;exact pb T J (.cN (j:=1) [(ii 4),(ii 1),(bb false)] J J J J J J J (.tmp J .nil)) [0] () J J
 refine rc T 3 (mq H [2,4,5] [0,0,0] (λz2 (x1:Bool)=>(x1=z2,[(10,(bb x1))],[])) J J (λz2 Z3 _=>?_) ?_)
 ·refine rc T 6 (cb J Z3 (λZ3=>?_) (λZ3=>?_))
  ·refine rc T 2 (am _ [0,0,0] (oi Z3) J J)
  refine rc T 6 (cb J Z3 (λZ3=>?_) (λZ3=>?_))
  ·refine rc T 2 (am _ [0,0,0] (oi Z3) J J)
  refine rc T 5 (am _ [0,0,0] (oi Z3) J J)
 rintro _ x1 rfl H;refine cb J H (λH=>?_) (λH=>?_)
 ·refine rc T 11 (sg T 2 J (ro T 5 (sg T 2 J (ro T 10 (lm T 2 J (sg T 1 J (ro T 1 (ro T 1 (ke [2,3] [0,0] J J (rx T 2 ?_))))))))))
  cases H;exact pb T J (.cN (j:=1) [(ii 4),(ii 4),(bb false)] J J J J J J J (.tmp J .nil)) [0] () J J
 refine rc T 9 (cb J H (λH=>?_) (λH=>?_))
 ·refine rc T 13 (sg T 2 J (ro T 10 (lm T 2 J (sg T 1 J (ro T 4 ?_)))))
  cases H;exact pb T J (.cN (j:=1) [(ii 4),(ii 0),(bb false)] J J J J J J J (.tmp J .nil)) [0] () J J
 refine rc T 2 (mq H [2,4] [0,0,0] (λz4 (x3:Bool)=>(x3=z4,[(16,(bb x3))],[])) J J (λz4 Z8 _=>?_) ?_)
 ·refine rc T 6 (cb J Z8 (λZ8=>?_) (λZ8=>?_))
  ·refine rc T 2 (am _ [0,0,0] (oi Z8) J J)
  refine rc T 5 (am _ [0,0,0] (oi Z8) J J)
 rintro _ x3 rfl H;refine cb J H (λH=>?_) (λH=>?_)
 ·refine rc T 19 (lm T 2 J (sg T 1 J (ro T 4 ?_)))
  cases H;exact pb T J (.cN (j:=1) [(ii 0),(ii 0),(bb false)] J J J J J J J (.tmp J .nil)) [0] () J J
 refine rc T 19 (sg T 1 J (ro T 7 ?_))
 cases H;exact pb T J (.cN (j:=1) [(ii 0),(ii 0),(bb false)] J J J J J J J (.tmp J .nil)) [0] () J J
def qN.l0:Nat->(List Int)->Int->Int->Option Int
 |0,_,_,_=>none
 |k5+1,b,x3,x4=>if x4<(List.length b:Int) then(if(0<=x4/\x4<(List.length b:Int)) then(if(0<=(aa (8*x4))) then(qN.l0 k5 b (aa (BitVec.toNat (BitVec.ofInt (IntKind.bits .i64) x3|||BitVec.ofInt (IntKind.bits .i64) (aa ((aa (rd b x4))*(2^(min (Int.toNat (aa (8*x4))) (IntKind.bits .i64)))))))) (aa (x4+1))) else none) else none) else(some x3)
def qN.f (b:(List Int)):Option Int:=qN.l0 fuel b 0 0
theorem qN.c (H:qN.f b=some r) (ic:aU (Fl.int .u8) b j7 F) (gy:List.length b<=jU):
 QU 190 [(ll j7 b jU)] [] F (ii r):=by
 unfold qN.f at H;refine aG Tryz.func190 J J (λW=>rc T 19 (lq [6,7] [0] (λ(⟨k5,x3,x4⟩:Nat×Int×Int)=>(qN.l0 k5 b x3 x4=some r,[(3,(ii x3)),(8,(ii x4))],[])) J J (fuel,0,0) [0] H J J ?_));rintro k5 ⟨x3,x4⟩ Z1;replace Z1:qN.l0 (k5+1) b x3 x4=some r:=Z1;rw[qN.l0] at Z1;refine rc T 6 (cd J Z1 (λZ1=>?_) (λZ1=>?_))
 ·refine rc T 7 ?_;obtain⟨c3,Z1⟩:=aA Z1;obtain⟨q1,o1,e1⟩:=ic.addr c3.1 c3.2;refine ix T J e1 c3 (le T 0 (rO ic 0) e1 c3 J J (ro T 10 ?_));obtain⟨c4,Z1⟩:=aA Z1;refine bz J (R6 J J J c4) (ro T 10 (ar (_,_) [0] Z1 J J))
 refine rc T 12 ?_
 cases Z1;exact p0 T J [0] J
def AY.f (b:(List Int)):Option (cS×Int):=if(0<=(0:Int)/\(0:Int)<(List.length b:Int)) then(if(0<=(1:Int)/\(1:Int)<=(List.length b:Int)/\(List.length b:Int)<=(List.length b:Int)) then((pD.f (aa (rd b 0))).bind λv1=>if(!v1.2)=true then(some ((cS.mk 0 (aa (rd b 0)) 0 []),1)) else(if v1.1.load=true then(if(List.length (aB b 1 (List.length b:Int)):Int)<4 then(some ((cS.mk 0 0 0 []),0)) else(if(0<=(0:Int)/\(0:Int)<=(4:Int)/\(4:Int)<=(List.length (aB b 1 (List.length b:Int)):Int)) then((qN.f (aB (aB b 1 (List.length b:Int)) 0 4)).bind λv2=>if(aa ((List.length (aB b 1 (List.length b:Int)):Int)-4))<v2 then(some ((cS.mk 0 0 0 []),0)) else(if(0<=(4:Int)/\(4:Int)<=(aa (4+v2))/\(aa (4+v2))<=(List.length (aB b 1 (List.length b:Int)):Int)) then(if(List.length ([]:List Int)+List.length (aB (aB b 1 (List.length b:Int)) 4 (aa (4+v2)))<=1099511627776) then(some ((cS.mk (aa (rd b 0)) 0 0 ([]++(aB (aB b 1 (List.length b:Int)) 4 (aa (4+v2))))),(aa (5+v2)))) else none) else none)) else none)) else(if(List.length (aB b 1 (List.length b:Int)):Int)<(aa (v1.1.a+v1.1.b)) then(some ((cS.mk 0 0 0 []),0)) else(if(0<=(0:Int)/\(0:Int)<=v1.1.a/\v1.1.a<=(List.length (aB b 1 (List.length b:Int)):Int)) then(if(0<=v1.1.a/\v1.1.a<=(aa (v1.1.a+v1.1.b))/\(aa (v1.1.a+v1.1.b))<=(List.length (aB b 1 (List.length b:Int)):Int)) then((qN.f (aB (aB b 1 (List.length b:Int)) 0 v1.1.a)).bind λv3=>(qN.f (aB (aB b 1 (List.length b:Int)) v1.1.a (aa (v1.1.a+v1.1.b)))).bind λv4=>some ((cS.mk (aa (rd b 0)) v3 v4 []),(aa ((aa (1+v1.1.a))+v1.1.b)))) else none) else none)))) else none) else none
def AY.R (r:(cS×Int)):bm:=λu G=> ∃a0 n0 H0,aj (Fl.int .u8) 5 r.1.Map a0 n0 H0/\u=(.tuple #[(.agg #[(ii r.1.Kind),(ii r.1.A),(ii r.1.B),(ll a0 r.1.Map n0)]),(ii r.2)])/\G=[H0]
theorem AY.c (H:AY.f b=some r) (ic:aU (Fl.int .u8) b j7 F) (gy:List.length b<=jU):
 QR 146 [(ll j7 b jU)] [] [] F (AY.R r):=by
 unfold AY.f at H;refine aG Tryz.func146 J J (λW=>rc T 2 (nc T J (λb1=>ro T 4 (dD mix az (au T J ?_)))));obtain⟨c1,H⟩:=aA H;obtain⟨q2,o2,e2⟩:=ic.addr c1.1 c1.2;refine aO J J J (cT T J J J J J e2 c1.1 c1.2) (aO J J J (aw T J J J J (iY (k:=(Fl.int .u8)) (rO ic 0) e2 c1 0 J)) (au T J (au T J ?_)));obtain⟨c2,H⟩:=aA H;refine aO J J J (kF T J J J J J J c2 gy) (au T J (au T J (dg (rx T 4 (k [] J M7 H (pD.c ·) (λv1 H=>ro T 3 (nc T J (λb3=>sg T 2 J (ro T 10 (cb J H (λH=>?_) (λH=>?_)))))))))))
 ·refine rc T 4 (sg T 1 J (ro T 2 (ke [2,3] [0,0] J J (rx T 3 ?_))))
  cases H;refine bC (pb T J (.cN (j:=1) [(ii 0),(ii (aa (rd b 0))),(ii 0),nl] J J J J J J J (.tmp J .nil)) [2,0] ⟨(_,_),none,0,[],aj.nil,J,J⟩ J J)
 refine rc T 6 (lf T 2 J (ro T 2 (cb J H (λH=>?_) (λH=>?_))))
 ·refine rc T 8 (cd J H (λH=>?_) (λH=>?_))
  ·refine rc T 3 (sg T 1 J (ro T 6 ?_))
   cases H;refine bC (pb T J (.cN (j:=1) [(ii 0),(ii 0),(ii 0),nl] J J J J J J J (.tmp J .nil)) [3,0] ⟨(_,_),none,0,[],aj.nil,J,J⟩ J J)
  refine rc T 5 ?_;obtain⟨c7,H⟩:=aA H;refine bz J (kF T J J J J J J c7 (mL c2 gy)) (k [] J Nc H (qN.c · (ng (ng (rO ic 0) c2 gy) c7 (mL c2 gy)) (mL c7 (mL c2 gy))) (λv2 H=>ro T 13 (cd J H (λH=>?_) (λH=>?_))))
  ·refine rc T 3 (sg T 1 J (ro T 6 ?_))
   cases H;refine bC (pb T J (.cN (j:=1) [(ii 0),(ii 0),(ii 0),nl] J J J J J J J (.tmp J .nil)) [3,0] ⟨(_,_),none,0,[],aj.nil,J,J⟩ J J)
  refine rc T 8 ?_;obtain⟨iI,H⟩:=aA H;refine bz J (kF T J J J J J J iI (mL c2 gy)) (bC ?_);obtain⟨eH,H⟩:=aA H;refine aZ (ez (k:=(Fl.int .u8)) (xs:=([]:List Int)) T (g:=3) J J J J J J J J J J aj.nil (ng (ng (rO ic 0) c2 gy) iI (mL c2 gy)) eH J (λa8 n8 H8 s8=>ro T 3 (sg T 1 J (ro T 2 (ke [2,3] [0,0,1] J J (rx T 3 ?_))))))
  cases H;exact pb T J (.cN (j:=1) [(ii (aa (rd b 0))),(ii 0),(ii 0),(ll a8 ([]++(aB (aB b 1 (List.length b:Int)) 4 (aa (4+v2)))) n8)] J J J J J J J (.tmp J .nil)) [2,0] ⟨(_,_),a8,n8,H8,s8,J,J⟩ J J
 refine rc T 8 (lf T 2 J (ro T 1 (lf T 2 J (ro T 4 (cd J H (λH=>?_) (λH=>?_))))))
 ·refine rc T 3 (sg T 1 J (ro T 5 ?_))
  cases H;refine bC (pb T J (.cN (j:=1) [(ii 0),(ii 0),(ii 0),nl] J J J J J J J (.tmp J .nil)) [3,0] ⟨(_,_),none,0,[],aj.nil,J,J⟩ J J)
 refine rc T 3 (ks [2,4,5,6] J (fz J (rg [] [0,1] mix (bM bL) (λhg pf=>ha T 22 [0,1,2] (so [0,1]) hg pf J (av 3 (so [0,1]) hg pf J (aw T J J J J (aI (j:=1) J J)) ?_)))));obtain⟨jg,H⟩:=aA H;refine av 4 (so [0,1]) hg pf J (kF T J J J J J J jg (mL c2 gy)) (ha T 18 [6,7] (so [0,1]) hg pf J (av 8 (so [0,1]) hg pf J (aw T J J J J (aI (j:=1) J J)) (ha T 16 [9] (so [0,1]) hg pf J (av 10 (so [0,1]) hg pf J (aw T J J J J (aI (j:=1) J J)) (ha T 14 [11] (so [0,1]) hg pf J (av 12 (so [0,1]) hg pf J (aw T J J J J (aI (j:=1) J J)) (ha T 12 [13] (so [0,1]) hg pf J ?_)))))));obtain⟨pc,H⟩:=aA H;refine av 14 (so [0,1]) hg pf J (kF T J J J J J J pc (mL c2 gy)) (ha T 10 [17] (so [0,1]) hg pf J (av 18 (so [0,1]) hg pf J (aw T J J J J (aI (j:=1) J J)) (ha T 7 [19,20] (so [0,1]) hg pf J (av 21 (so [0,1]) hg pf J (aw T J J J J (aI (j:=1) J J)) (ha T 5 [22] (so [0,1]) hg pf J (ao 5 (kh [] J Nc H (qN.c · (ng (ng (rO ic 0) c2 gy) jg (mL c2 gy)) (mL jg (mL c2 gy))) (λv3 H=>an (so [0,1]) (ao 15 (kh [] J Nc H (qN.c · (ng (ng (rO ic 0) c2 gy) pc (mL c2 gy)) (mL pc (mL c2 gy))) (λv4 H=>an (so [0,1]) (ha T 2 [16] (so [0,1]) hg pf J (ao 23 (sf T 1 J (an (so [0,1]) (ha T 0 [24] (so [0,1]) hg pf J (ae (rx T 1 (rc T 1 ?_)))))))))))))))))))
 cases H;refine bC (pb T J (.cN (j:=1) [(ii (aa (rd b 0))),(ii v3),(ii v4),nl] J J J J J J J (.tmp J .nil)) [3,0] ⟨(_,_),none,0,[],aj.nil,J,J⟩ J J)
def Hg.f (b:(List Int)):Option Bool:=if((List.length b:Int)==0)=true then(some false) else((AY.f b).bind λv1=>some (v1.2==0))
theorem Hg.c (H:Hg.f b=some r) (ic:aU (Fl.int .u8) b j7 F) (gy:List.length b<=jU):
 QU 110 [(ll j7 b jU)] [] F (bb r):=by
 unfold Hg.f at H;refine aG Tryz.func110 J J (λW=>rc T 13 (cb J H (λH=>?_) (λH=>?_)))
 ·refine rc T 7 ?_
  cases H;exact p0 T J [0] J
 refine rc T 5 (kr AY.R [] [] J acx H (AY.c · (rO ic 0) gy) (λv1 H=>?_));rintro _ _ ⟨a1,n1,H1,s1,rfl,rfl⟩;refine fz J (ro T 3 (nc T J (λb2=>sg T 2 J (ro T 11 ?_))))
 cases H;exact p0 T J [0] J
def rQ.f (n:Int) (ai:Int):Option Bool:=if n≥0 then(if(0<=(aa (8*ai))) then(some (decide (n<(aa (1*(2^(min (Int.toNat (aa (8*ai))) (IntKind.bits .i64)))))))) else none) else(some false)
theorem rQ.c (H:rQ.f n ai=some r):
 QU 112 [(ii n),(ii ai)] [] F (bb r):=by
 unfold rQ.f at H;refine aG Tryz.func112 J J (λW=>rc T 10 (ad 7 J H (λH=>?_) (λH=>?_)))
 ·refine ro T 3 ?_;obtain⟨c2,H⟩:=aA H;refine bz J (R6 J J J c2) (ro T 6 ?_)
  cases H;exact p0 T J [0] J
 refine ro T 10 ?_
 cases H;exact p0 T J [0] J
def CM.f (o:cS):Option Bool:=if(o.Kind==0)=true then(if(o.A==(-1))=true then((if(o.B==0)=true then((Hg.f o.Map).bind λv3=>some v3) else(some false)).bind λx1=>some x1) else((pD.f o.A).bind λv4=>((rQ.f o.A 1).bind λv7=>if(v7&&(!v4.2))=true then(if(o.B==0)=true then(some ((List.length o.Map:Int)==0)) else(some false)) else(some false)).bind λx5=>some x5)) else((pD.f o.Kind).bind λv8=>(if v8.2=true then((rQ.f o.A v8.1.a).bind λv11=>if v11=true then((rQ.f o.B v8.1.b).bind λv12=>if v12=true then(if((List.length o.Map:Int)==0)=true then(some true) else(if v8.1.load=true then(some (decide ((List.length o.Map:Int)<=4294967295))) else(some false))) else(some false)) else(some false)) else(some false)).bind λx9=>some x9)
theorem CM.c (H:CM.f o=some r) (Ay:aU (Fl.int .u8) o.Map BK F) (Aj:List.length o.Map<=CF):
 QU 82 [(.agg #[(ii o.Kind),(ii o.A),(ii o.B),(ll BK o.Map CF)])] [] F (bb r):=by
 unfold CM.f at H;refine aG Tryz.func82 J J (λW=>rc T 2 (nc T J (λb1=>ro T 7 (lf T 1 J (ro T 3 (cb J H (λH=>?_) (λH=>?_)))))))
 ·refine rc T 4 (lf T 1 J (ro T 3 (cb J H (λH=>?_) (λH=>?_))))
  ·refine mq H [] [0] (λz2 (x1:Bool)=>(x1=z2,[(2,(bb x1))],[])) J J (λz2 Z3 _=>?_) ?_
   ·refine rc T 2 (lf T 1 J (ro T 2 (ab 16 J Z3 (λZ3=>?_) (λZ3=>?_))))
    ·refine ro T 1 (lf T 1 J (k [] J ach Z3 (Hg.c · (rO Ay 0) Aj) (λv3 Z3=>ro T 4 (am _ [0] (oi Z3) J J))))
    refine ro T 7 (am _ [0] (oi Z3) J J)
   rintro _ x1 rfl H;refine rc T 3 ?_
   cases H;exact p0 T J [0] J
  refine rc T 5 (lf T 1 J (k [] J M7 H (pD.c ·) (λv4 H=>ro T 3 (nc T J (λb2=>sg T 2 J (ro T 3 (mq H [] [0] (λz6 (x5:Bool)=>(x5=z6,[(2,(bb x5))],[])) J J (λz6 Z7 _=>?_) ?_)))))))
  ·refine rc T 2 (lf T 1 J (k [] J M8 Z7 (rQ.c ·) (λv7 Z7=>ro T 1 (ga T [4,5,6] 30 [1] 33 J J J J J J J (ro T 1 (ab 34 J Z7 (λZ7=>?_) (λZ7=>?_)))))))
   ·refine ro T 1 (lf T 1 J (ro T 3 (ab 39 J Z7 (λZ7=>?_) (λZ7=>?_))))
    ·refine ro T 1 (lf T 1 J (ro T 6 (am _ [0] (oi Z7) J J)))
    refine ro T 8 (am _ [0] (oi Z7) J J)
   refine ro T 13 (am _ [0] (oi Z7) J J)
  rintro _ x5 rfl H;refine rc T 2 ?_
  cases H;exact p0 T J [0] J
 refine rc T 5 (lf T 1 J (k [] J M7 H (pD.c ·) (λv8 H=>ro T 3 (nc T J (λb3=>sg T 2 J (ro T 3 (mq H [] [0] (λoe (x9:Bool)=>(x9=oe,[(2,(bb x9))],[])) J J (λoe bx _=>?_) ?_)))))))
 ·refine rc T 3 (ab 52 J bx (λbx=>?_) (λbx=>?_))
  ·refine ro T 1 (lf T 1 J (ro T 1 (lf T 2 J (k [] J M8 bx (rQ.c ·) (λv11 bx=>ro T 2 (ab 59 J bx (λbx=>?_) (λbx=>?_)))))))
   ·refine ro T 1 (lf T 1 J (ro T 1 (lf T 2 J (k [] J M8 bx (rQ.c ·) (λv12 bx=>ro T 2 (ab 66 J bx (λbx=>?_) (λbx=>?_)))))))
    ·refine ro T 1 (lf T 1 J (ro T 3 (ab 71 J bx (λbx=>?_) (λbx=>?_))))
     ·refine ro T 13 (am _ [0] (oi bx) J J)
     refine ro T 1 (lf T 2 J (ro T 1 (ab 74 J bx (λbx=>?_) (λbx=>?_))))
     ·refine ro T 1 (lf T 1 J (ro T 8 (am _ [0] (oi bx) J J)))
     refine ro T 10 (am _ [0] (oi bx) J J)
    refine ro T 18 (am _ [0] (oi bx) J J)
   refine ro T 25 (am _ [0] (oi bx) J J)
  refine ro T 32 (am _ [0] (oi bx) J J)
 rintro _ x9 rfl H;refine rc T 1 ?_
 cases H;exact p0 T J [0] J
end
end Go.Proofs.YthodkonhneebbaaGreatDoor
