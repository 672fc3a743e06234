/- What the functions of some packages compute, each as a function of plain Lean, with its contract. No condition. -/
import Derived.Test.YthodkonhneebbaaGreatDoorKDT
import Derived.Test.YthodkonhneebbaaGreatDoorKD6
import Derived.Test.YthodkonhneebbaaGreatDoorKD7
import Derived.Test.YthodkonhneebbaaGreatDoorKD11
import Derived.Test.YthodkonhneebbaaGreatDoorKD10
namespace Go.Hx
section
variable {W : World} {P : Program} {n : Nat} {F K : Act -> World -> Prop} {Q : Exit -> Act -> World -> Prop} {env : Env} {HL : List Hp} {ops : Array Oper} {i : Nat} {rest : List Nat}
def gqF (js:List Nat) (HL:List Hp):Option (List Hp):=fH (sR js HL++[(sA js HL).flatten])
theorem gq (js:List Nat) {jU:List Hp} (hs:gqF js HL=some jU) (h:aI W n F env jU):aI W n F env HL:=gn js (Ba js HL) (by rw[BZ hs];exact h)
def Rn (js:List Nat) (HL:List Hp):Option (List Hp×List Hp):=match fH (sA js HL),fH (sR js HL) with
 |some A,some R=>some (A,R)
 |_,_=>none
theorem cq (js:List Nat) {As R:List Hp} {H:Hp} (hs:Rn js HL=some (As,R)) (hH:H=As.flatten) (h:aI W n F env (R++[H])):aI W n F env HL:=by
 unfold Rn at hs;split at hs
 ·rename_i A R' h1 h2;simp only[Option.some.injEq,Prod.mk.injEq] at hs;obtain⟨rfl,rfl⟩:=hs;exact dp js (by rw[Ba,BZ h1,BZ h2]) hH h
 ·cases hs
theorem aq {jU:List Hp} (hs:fH (HL++[[]])=some jU) (h:aI W n F env jU):aI W n F env HL:=bw (by rw[BZ hs];exact h)
theorem rq (late js:List Nat) {id:Nat} {H0:List Hp} (h0:nH js HL=some H0) (hm:P.follows .mixedOrders=true) (j3:PF Q)
 (h:pe ops (Dz ops)=true->PF Q->aI W n (gI P ops Q (SO W H0) late ops.size (Array.replicate ops.size false)) env HL) (hg:pe ops (Dz ops)=true:=by kernel_rfl):
 aI W n ((Code.region id ops true).wp P Q) env HL:=rg late js hm j3 (by rw[G5 h0];exact h) hg
def K6 (T:Ty P) (ops:Array Oper) (env:Env) (i j:Nat) (HL:List Hp):Option (Nat×Nat×List Hp):=match HK T ops env i j HL with
 |some (a,b,L)=>match fH L with
  |some L'=>some (a,b,L')
  |none=>none
 |none=>none
theorem Xa {T:Ty P} {j:Nat} {a b:Nat} {jU:List Hp} (h:K6 T ops env i j HL=some (a,b,jU)):HK T ops env i j HL=some (a,b,jU):=by
 unfold K6 at h;split at h
 ·rename_i a' b' L h1;split at h
  ·rename_i L' h2;simp only[Option.some.injEq,Prod.mk.injEq] at h;obtain⟨rfl,rfl,rfl⟩:=h;rw[h1,BZ h2]
  ·cases h
 ·cases h
theorem iX (T:Ty P) {b:Nat} {jU:List Hp} (j:Nat) (h1:K6 T ops env i j HL=some (b,b,jU)) (h:aI W n K env jU):aI W n (wpOp P ops Q i K) env HL:=sf T j (Xa h1) h
theorem jP (T:Ty P) {b:Nat} {jU:List Hp} (j:Nat) (h1:K6 T ops env i j HL=some (b,b,jU)) (h:aI W n (wpOps P ops Q rest) env jU):aI W n (wpOps P ops Q (i::rest)) env HL:=sg T j (Xa h1) h
theorem ae7 {A B X:Hp} (h:X=List.flatten [A,B]): ∃C:Hp,C=B/\X=List.flatten [A,C]:=⟨_,J,h⟩
end
end Go.Hx
namespace Go.Proofs.YthodkonhneebbaaGreatDoor
open Go.Hx
set_option maxRecDepth 100000
set_option linter.unusedSimpArgs false
set_option linter.unusedVariables false
set_option maxHeartbeats 4000000
set_option autoImplicit true
set_option relaxedAutoImplicit true
noncomputable section
def xD.f (ag:Int):Option (Option b_):=if ag<1 then(some none) else((xQ.f ag).bind λv1=>dm v1 (none) (λeZ=>some (some (b_.mk none eZ (fP.mk 0 0 0 0 0 0)))))
def xD.R (r:(Option b_)) (u:Value) (G:List Hp):Prop:= ∃(u0:Value) (G0:List Hp),X4 r u0 G0/\u=u0/\G=G0
theorem xD.c (H:xD.f ag=some r):
 QR 51 [(ii ag)] [] [] F (xD.R r):=by
 unfold xD.f at H;refine aD Tryz.func51 J J (λW=>rc T 12 (cd J H (λH=>?_) (λH=>?_)))
 ·refine rc T 7 ?_
  cases H;exact p1 T J [0] ⟨_,_,⟨J,J⟩,J,J⟩ J
 refine rc T 5 (kr xQ.R [] [] J ad7 H (xQ.c ·) (λv1 H=>?_));rintro _ _ ⟨_,_,O3,rfl,rfl⟩;rcases v1 with _ |eZ
 ·replace H:=eV J H
  cases H
 replace H:=eW J H;obtain⟨b1,H1,s1,rfl,rfl⟩:=O3;refine ro T 1 (nc T J (λb2=>fz J (ro T 4 ?_)))
 cases H;refine aq J (gq [2,1,1] J (p1 T J [1,0] ⟨_,_,⟨b2,(List.flatten [(cl b2 135 [(.pointer none),(.pointer none),(.pointer none),(pp b1),(uu 0),(uu 0),(uu 0),(uu 0),(uu 0),(uu 0)]),H1,[]]),(show gy (b_.mk none eZ (fP.mk 0 0 0 0 0 0)) b2 (List.flatten [(cl b2 135 [(.pointer none),(.pointer none),(.pointer none),(pp b1),(uu 0),(uu 0),(uu 0),(uu 0),(uu 0),(uu 0)]),H1,[]]) from⟨b1,H1,(.pointer none),(.pointer none),(.pointer none),[],s1,(show uS none (.pointer none) (.pointer none) (.pointer none) [] from⟨J,J,J,J⟩),J⟩),J,J⟩,J,J⟩ J))
def zk.f (n:b_):Option fP:=dm n.core ((GY.f).bind λv2=>(Hg.f).bind λv3=>some (fP.mk v2 v3 0 0 0 0)) (λx1=>(GZ.f x1.eD x1.aB).bind λv4=>(Hh.f x1.iT x1.eD x1.aB).bind λv5=>some (fP.mk v4 v5 0 0 0 0))
theorem zk.c (H:zk.f n=some r) (iy:gy n cN ic):
 QU 79 [(pp cN)] [ic] F (.agg #[(uu r.bn),(uu r.bB),(uu r.bz),(uu r.bx),(uu r.bE),(uu r.bC)]):=by
 unfold zk.f at H;refine aD Tryz.func79 J J (λW=>rc T 2 (nc T J (λb2=>fz J (ro T 3 ?_))));obtain⟨b4,H4,yg,EO,EP,H5,s4,s5,dq⟩:=(λx=>x) iy;refine bQ 0 (congrArg some dq) (fz J ?_);rcases q1:n.core with _ |x1
 ·replace H:=eV q1 H;rw[q1] at s5;obtain⟨rfl,rfl,rfl,rfl⟩:=s5;refine ks [0,2] J (fz J (rz [11] mix (bP bO) (λhg pf=>ha T 9 [0,1,2] sz hg pf J (av 3 sz hg pf J (aw T J J J J (aH (j:=2) J J)) (ha T 5 [5,6,7] sz hg pf J (av 8 sz hg pf J (aw T J J J J (aH (j:=2) J J)) (ao 4 (kh [] J SQ H (GY.c ·) (λv2 H=>an sz (ao 9 (kh [] J SR H (Hg.c ·) (λv3 H=>an sz (ha T 1 [10] sz hg pf J (ao 11 (iX T 1 J (an sl (ae (rx T 2 ?_))))))))))))))))))
  cases H;refine cq [2,2,2] J dq (pb T J (.cK (j:=1) [(uu v2),(uu v3),(uu 0),(uu 0),(uu 0),(uu 0)] J J J J J J J .nil) [2,0] () J J)
 replace H:=eW q1 H;rw[q1] at s5;obtain⟨b7,H7,b8,H8,b9,H9,s7,s8,s9,rfl,rfl,rfl,ou⟩:=s5;refine bQ 4 (congrArg some ou) (fz J (ks [0,2] J (fz J (rz [11] mix (bP bO) (λhg pf=>ha T 9 [0,1,2] sz hg pf J (av 3 sz hg pf J (aw T J J J J (aH (j:=2) J J)) (ha T 5 [5,6,7] sz hg pf J (av 8 sz hg pf J (aw T J J J J (aH (j:=2) J J)) (ao 4 (kh [5,4] J SQ H (GZ.c · s8 s7) (λv4 H=>an sz (ao 9 (kh [6,5,4] J SR H (Hh.c · s9 s8 s7) (λv5 H=>an sz (ha T 1 [10] sz hg pf J (ao 11 (iX T 1 J (an sl (ae (rx T 2 ?_))))))))))))))))))))
 cases H;refine cq [4,4,4] J ou (cq [2,2,2] J dq (pb T J (.cK (j:=1) [(uu v4),(uu v5),(uu 0),(uu 0),(uu 0),(uu 0)] J J J J J J J .nil) [2,0] () J J))
def CE.f (n:b_):Option fP:=(zk.f n).bind λv1=>(mB.f n.aV v1).bind λv2=>(EG.f n.fx).bind λv3=>(mB.f v2 v3).bind λv4=>some v4
theorem CE.c (H:CE.f n=some r) (iy:gy n cN ic):
 QU 52 [(pp cN)] [ic] F (.agg #[(uu r.bn),(uu r.bB),(uu r.bz),(uu r.bx),(uu r.bE),(uu r.bC)]):=by
 unfold CE.f at H;refine aD Tryz.func52 J J (λW=>rc T 2 (nc T J (λb2=>fz J (ro T 9 (eN J (rc T 3 ?_))))));obtain⟨b4,H4,yg,EO,EP,H5,s4,s5,dq⟩:=(λx=>x) iy;refine bQ 0 (congrArg some dq) (fz J (ks [0,2] J (fz J (rz [13] mix (bP bO) (λhg pf=>ha T 11 [0,1,2] sz hg pf J (av 3 sz hg pf J (gA T 2 J J J J J J J) (ha T 6 [4,7,8,9] sz hg pf J (av 10 sz hg pf J (aw T J J J J (aH (j:=2) J J)) (ao 5 ?_)))))))));obtain⟨v1,V1,H⟩:=f_ H;refine IV (As:=[(cl cN 135 [yg,EO,EP,(pp b4),(uu n.aV.bn),(uu n.aV.bB),(uu n.aV.bz),(uu n.aV.bx),(uu n.aV.bE),(uu n.aV.bC)]),H4,H5]) [2,2,2] J J J J TK J J (I' (A:=[ic]) (by simp only[dq,List.flatten_cons,List.flatten_append,List.flatten_nil,List.append_nil,List.append_assoc]) (zk.c V1 iy)) (an sz (ao 6 (kh [] J NA H (mB.c ·) (λv2 H=>an sz (ao 11 (kh [3] J ad8 H (EG.c · s4) (λv3 H=>an sz (ao 12 (kh [] J NA H (mB.c ·) (λv4 H=>an sz (ao 13 (iX T 1 J (an sl (ae (rx T 2 ?_)))))))))))))))
 cases H;refine cq [2,2,2] J dq (pb T J (.cK (j:=1) [(uu r.bn),(uu r.bB),(uu r.bz),(uu r.bx),(uu r.bE),(uu r.bC)] J J J J J J J .nil) [2,0] () J J)
def sT.f (n:b_) (cell:Int):Option Int:=dm n.core (none) (λx1=>(jc.f x1.aB cell).bind λv2=>some v2)
theorem sT.c (H:sT.f n cell=some r) (iy:gy n cN ic):
 QU 113 [(pp cN),(ii cell)] [ic] F (ii r):=by
 unfold sT.f at H;refine aD Tryz.func113 J J (λW=>rc T 12 (eN J (rc T 3 ?_)));obtain⟨b3,H3,rW,Lg,Lh,H4,s3,s4,cm⟩:=(λx=>x) iy;refine bQ 0 (congrArg some cm) (fz J ?_);rcases q1:n.core with _ |x1
 ·replace H:=eV q1 H
  cases H
 replace H:=eW q1 H;rw[q1] at s4;obtain⟨b6,H6,b7,H7,b8,H8,s6,s7,s8,rfl,rfl,rfl,sH⟩:=s4;refine bQ 3 (congrArg some sH) (fz J (rc T 4 (lf T 1 J (ro T 1 (k [3] J vt H (jc.c · s6) (λv2 H=>ro T 4 ?_))))))
 cases H;refine cq [3,3,3] J sH (cq [1,1,1] J cm (p0 T J [1,0] J))
def xB.f (n:b_) (m:aL):Option (Int×b_):=(yB.f m).bind λv1=>if(!v1)=true then(some (6,n)) else((zk.f n).bind λv2=>(mB.f n.aV v2).bind λv3=>dm n.core ((FT.f).bind λv5=>(lX.f m v5).bind λv6=>dm v6 (none) (λyl=>(rK.f yl).bind λv7=>dm v7 (none) (λrf=>(sY.f rf yl).bind λv8=>dm v8 (none) (λEU=>(pH.f n.fx).bind λv9=>some (0,(b_.mk (some (dM.mk yl rf EU)) v9 v3)))))) (λx4=>(pg.f x4.aB).bind λv10=>(lX.f m v10).bind λv11=>dm v11 (none) (λzO=>(rK.f zO).bind λv12=>dm v12 (none) (λIk=>(sY.f Ik zO).bind λlp=>dm lp (none) (λLq=>(pH.f n.fx).bind λcg=>some (0,(b_.mk (some (dM.mk zO Ik Lq)) cg v3)))))))
def xB.R (sv:Nat) (r:(Int×b_)) (u:Value) (G:List Hp):Prop:= ∃(H0:Hp),gy r.2 sv H0/\u=(ii r.1)/\G=[H0]
theorem xB.c (H:xB.f n m=some r) (iy:gy n cN ic) (sI:aT (Fl.int .u8) m.C oW F) (va:List.length m.C<=oC):
 QR 115 [(pp cN),(.agg #[(ii m.W),(ii m.H),(ll oW m.C oC)])] [ic] [] F (xB.R cN r):=by
 unfold xB.f at H;refine aD Tryz.func115 J J (λW=>rc T 2 (nc T J (λb2=>fz J (ro T 12 (eN J (rc T 2 (lm T 2 J (k [] J S0 H (yB.c · (rO sI 1) va) (λv1 H=>ro T 4 (cb J H (λH=>?_) (λH=>?_)))))))))))
 ·refine rc T 8 ?_
  cases H;exact p1 T J [0,0] ⟨ic,iy,J,J⟩ J
 refine rc T 4 ?_;obtain⟨b4,H4,yg,EO,EP,H5,s4,s5,dq⟩:=(λx=>x) iy;refine bQ 0 (congrArg some dq) (fz J (ks [0,3] J (fz J (rz [10] mix (bP bO) (λhg pf=>ha T 7 [0,1,2,3] sz hg pf J (av 4 sz hg pf J (gA T 2 J J J J J J J) (ha T 5 [5] sz hg pf J (ao 6 ?_))))))));obtain⟨v2,V3,H⟩:=f_ H;refine IV (As:=[(cl cN 135 [yg,EO,EP,(pp b4),(uu n.aV.bn),(uu n.aV.bB),(uu n.aV.bz),(uu n.aV.bx),(uu n.aV.bE),(uu n.aV.bC)]),H4,H5]) [2,2,2] J J J J TK J J (I' (A:=[ic]) (by simp only[dq,List.flatten_cons,List.flatten_append,List.flatten_nil,List.append_nil,List.append_assoc]) (zk.c V3 iy)) (an sz (ao 7 (kh [] J NA H (mB.c ·) (λv3 H=>an sz (ha T 1 [8,9] sz hg pf J (ao 10 (iX T 2 J (an sl (ae (rx T 2 ?_))))))))))
 rcases q5:n.core with _ |x4
 ·replace H:=eV q5 H;rw[q5] at s5;obtain⟨rfl,rfl,rfl,rfl⟩:=s5;refine ks [0,3] J (fz J (rq [10] [0,0,0,0,0] J mix (bP bO) (λhg pf=>ha T 10 [0] sz hg pf J (av 1 sz hg pf J (gA T 1 J J J J J J J) (ha T 6 [2,3,4] sz hg pf J (av 5 sz hg pf J (aw T J J J J (aH (j:=2) J J)) (ao 6 (kh [] J B6 H (FT.c ·) (λv5 H=>an sz (ao 7 (kR lX.R [] [] J S3 H (lX.c · (rO sI 0) va) (λv6 H=>?_))))))))))));rintro _ _ ⟨_,_,O8,rfl,rfl⟩;rcases v6 with _ |yl
  ·replace H:=eV J H
   cases H
  replace H:=eW J H;obtain⟨fJ,bX,bT,rfl,rfl⟩:=O8;refine an (so [0,0,0,0,0]) (ha T 1 [8,9] (so [0,0,0,0,0]) hg pf J (ao 10 (iX T 2 J (an sl (ae (rx T 7 (lf T 2 J (kr (rK.R fJ) [5] [5] J S4 H (rK.c · bT) (λv7 H=>?_)))))))));rintro _ _ ⟨_,_,Lz,rfl,rfl⟩;rcases v7 with _ |rf
  ·replace H:=eV J H
   cases H
  replace H:=eW J H;obtain⟨jF,cA,dh,rfl,rfl⟩:=Lz;refine ro T 2 (jP T 2 J (ro T 3 (ke [0] [0,1,1,1,1,1] J J (fz J (rq [12] [0,0,0,0,0,0] J mix (bP bO) (λhg pf=>ha T 9 [0,1,2,3] sz hg pf J (av 4 sz hg pf J (aw T J J J J (aH (j:=1) J J)) (ha T 5 [5,6,7] sz hg pf J (av 8 sz hg pf J (aw T J J J J (aH (j:=1) J J)) (ao 9 (kR (sY.R jF fJ) [4,4] [4,4] J S5 H (sY.c · dh bT) (λv8 H=>?_))))))))))));rintro _ _ ⟨_,_,XS,rfl,rfl⟩;rcases v8 with _ |EU
  ·replace H:=eV J H
   cases H
  replace H:=eW J H;obtain⟨kN,dz,dJ,rfl,rfl⟩:=XS;refine an (so [0,0,0,0,1,1]) (ha T 1 [10,11] (so [0,0,0,0,1,1]) hg pf J (ao 12 (iX T 1 J (an sl (ae (rx T 6 (lf T 1 J (kr (pH.R b4) [] [2] J Na H (pH.c · s4) (λv9 H=>?_)))))))));rintro _ _ ⟨eI,dn,rfl,rfl⟩;refine fz J (ro T 8 ?_)
  cases H;refine gq [5,4,3] J (gq [1,2,2] J (p1 T J [2,0] ⟨(List.flatten [(cl cN 135 [(pp fJ),(pp jF),(pp kN),(pp b4),(uu v3.bn),(uu v3.bB),(uu v3.bz),(uu v3.bx),(uu v3.bE),(uu v3.bC)]),eI,(List.flatten [bX,cA,dz])]),(show gy (b_.mk (some (dM.mk yl rf EU)) v9 v3) cN (List.flatten [(cl cN 135 [(pp fJ),(pp jF),(pp kN),(pp b4),(uu v3.bn),(uu v3.bB),(uu v3.bz),(uu v3.bx),(uu v3.bE),(uu v3.bC)]),eI,(List.flatten [bX,cA,dz])]) from⟨b4,eI,(pp fJ),(pp jF),(pp kN),(List.flatten [bX,cA,dz]),dn,(show uS (some (dM.mk yl rf EU)) (pp fJ) (pp jF) (pp kN) (List.flatten [bX,cA,dz]) from⟨fJ,bX,jF,cA,kN,dz,bT,dh,dJ,J,J,J,J⟩),J⟩),J,J⟩ J))
 replace H:=eW q5 H;rw[q5] at s5;obtain⟨b7,H7,b8,H8,b9,H9,s7,s8,s9,rfl,rfl,rfl,ou⟩:=s5;refine bQ 4 (congrArg some ou) (fz J (ks [0,3] J (fz J (rq [10] [0,0,0,0,0,0,0] J mix (bP bO) (λhg pf=>ha T 10 [0] sz hg pf J (av 1 sz hg pf J (gA T 1 J J J J J J J) (ha T 6 [2,3,4] sz hg pf J (av 5 sz hg pf J (aw T J J J J (aH (j:=2) J J)) (ao 6 (kh [4] J B6 H (pg.c · s7) (λv10 H=>an sz (ao 7 (kR lX.R [] [] J S3 H (lX.c · (rO sI 0) va) (λv11 H=>?_))))))))))))));rintro _ _ ⟨_,_,XT,rfl,rfl⟩;rcases v11 with _ |zO
 ·replace H:=eV J H
  cases H
 replace H:=eW J H;obtain⟨oh,dE,dN,rfl,rfl⟩:=XT;refine an (so [0,0,0,0,0,0,0]) (ha T 1 [8,9] (so [0,0,0,0,0,0,0]) hg pf J (ao 10 (iX T 2 J (an sl (ae (rx T 7 (lf T 2 J (kr (rK.R oh) [7] [7] J S4 H (rK.c · dN) (λv12 H=>?_)))))))));rintro _ _ ⟨_,_,XU,rfl,rfl⟩;rcases v12 with _ |Ik
 ·replace H:=eV J H
  cases H
 replace H:=eW J H;obtain⟨qu,fN,fj,rfl,rfl⟩:=XU;refine ro T 2 (jP T 2 J (ro T 3 (ke [0] [0,1,1,1,1,1,1,1] J J (fz J (rq [12] [0,0,0,0,0,0,0,0] J mix (bP bO) (λhg pf=>ha T 9 [0,1,2,3] sz hg pf J (av 4 sz hg pf J (aw T J J J J (aH (j:=1) J J)) (ha T 5 [5,6,7] sz hg pf J (av 8 sz hg pf J (aw T J J J J (aH (j:=1) J J)) (ao 9 (kR (sY.R qu oh) [6,6] [6,6] J S5 H (sY.c · fj dN) (λlp H=>?_))))))))))));rintro _ _ ⟨_,_,XV,rfl,rfl⟩;rcases lp with _ |Lq
 ·replace H:=eV J H
  cases H
 replace H:=eW J H;obtain⟨z7,ez,fw,rfl,rfl⟩:=XV;refine an (so [0,0,0,0,0,0,1,1]) (ha T 1 [10,11] (so [0,0,0,0,0,0,1,1]) hg pf J (ao 12 (iX T 1 J (an sl (ae (rx T 6 (lf T 1 J (kr (pH.R b4) [] [2] J Na H (pH.c · s4) (λcg H=>?_)))))))));rintro _ _ ⟨e_,fk,rfl,rfl⟩;refine fz J (ro T 8 ?_)
 cases H;refine gq [7,6,5] J (gq [1,4,4] J (p1 T J [4,0] ⟨(List.flatten [(cl cN 135 [(pp oh),(pp qu),(pp z7),(pp b4),(uu v3.bn),(uu v3.bB),(uu v3.bz),(uu v3.bx),(uu v3.bE),(uu v3.bC)]),e_,(List.flatten [dE,fN,ez])]),(show gy (b_.mk (some (dM.mk zO Ik Lq)) cg v3) cN (List.flatten [(cl cN 135 [(pp oh),(pp qu),(pp z7),(pp b4),(uu v3.bn),(uu v3.bB),(uu v3.bz),(uu v3.bx),(uu v3.bE),(uu v3.bC)]),e_,(List.flatten [dE,fN,ez])]) from⟨b4,e_,(pp oh),(pp qu),(pp z7),(List.flatten [dE,fN,ez]),fk,(show uS (some (dM.mk zO Ik Lq)) (pp oh) (pp qu) (pp z7) (List.flatten [dE,fN,ez]) from⟨oh,dE,qu,fN,z7,ez,dN,fj,fw,J,J,J,J⟩),J⟩),J,J⟩ J))
def xA.f (n:b_):Option b_:=(pH.f n.fx).bind λv1=>dm n.core ((Hi.f).bind λv3=>some (b_.mk none v1 n.aV)) (λx2=>(A3.f x2.iT x2.eD x2.aB).bind λv4=>some (b_.mk (some (dM.mk x2.aB x2.eD v4)) v1 n.aV))
def xA.R (sv:Nat) (r:b_) (u:Value) (G:List Hp):Prop:= ∃(H0:Hp),gy r sv H0/\u=(.tuple #[])/\G=[H0]
theorem xA.c (H:xA.f n=some r) (iy:gy n cN ic):
 QR 85 [(pp cN)] [ic] [] F (xA.R cN r):=by
 unfold xA.f at H;refine aD Tryz.func85 J J (λW=>rc T 6 (nh J (rc T 1 ?_)));obtain⟨b3,H3,rW,Lg,Lh,H4,s3,s4,cm⟩:=(λx=>x) iy;refine bQ 0 (congrArg some cm) (fz J (rc T 4 (lf T 1 J (kr (pH.R b3) [] [2] J Na H (pH.c · s3) (λv1 H=>?_)))));rintro _ _ ⟨H5,s5,rfl,rfl⟩;refine fz J (ro T 2 ?_);rcases q2:n.core with _ |x2
 ·replace H:=eV q2 H;rw[q2] at s4;obtain⟨rfl,rfl,rfl,rfl⟩:=s4;refine rc T 4 (lf T 1 J (k [] J SU H (Hi.c ·) (λv3 H=>ro T 1 (iZ ?_))))
  cases H;refine aq J (gq [1,2,2] J (p1 T J [2,0] ⟨(List.flatten [(cl cN 135 [(.pointer none),(.pointer none),(.pointer none),(pp b3),(uu n.aV.bn),(uu n.aV.bB),(uu n.aV.bz),(uu n.aV.bx),(uu n.aV.bE),(uu n.aV.bC)]),H5,[]]),(show gy (b_.mk none v1 n.aV) cN (List.flatten [(cl cN 135 [(.pointer none),(.pointer none),(.pointer none),(pp b3),(uu n.aV.bn),(uu n.aV.bB),(uu n.aV.bz),(uu n.aV.bx),(uu n.aV.bE),(uu n.aV.bC)]),H5,[]]) from⟨b3,H5,(.pointer none),(.pointer none),(.pointer none),[],s5,(show uS none (.pointer none) (.pointer none) (.pointer none) [] from⟨J,J,J,J⟩),J⟩),J,J⟩ J))
 replace H:=eW q2 H;rw[q2] at s4;obtain⟨b7,H7,b8,H8,b9,H9,s7,s8,s9,rfl,rfl,rfl,ou⟩:=s4;refine bQ 2 (congrArg some ou) (fz J (rc T 4 (lf T 1 J (kr (A3.R b9 b8 b7) [4,3] [5,4,3] J SU H (A3.c · s9 s8 s7) (λv4 H=>?_)))));rintro _ _ ⟨cA,dh,rfl,rfl⟩;refine fz J (ro T 1 (iZ ?_))
 cases H;refine gq [5,4,3] J (gq [1,1,1] J (p1 T J [1,0] ⟨(List.flatten [(cl cN 135 [(pp b7),(pp b8),(pp b9),(pp b3),(uu n.aV.bn),(uu n.aV.bB),(uu n.aV.bz),(uu n.aV.bx),(uu n.aV.bE),(uu n.aV.bC)]),H5,(List.flatten [H7,H8,cA])]),(show gy (b_.mk (some (dM.mk x2.aB x2.eD v4)) v1 n.aV) cN (List.flatten [(cl cN 135 [(pp b7),(pp b8),(pp b9),(pp b3),(uu n.aV.bn),(uu n.aV.bB),(uu n.aV.bz),(uu n.aV.bx),(uu n.aV.bE),(uu n.aV.bC)]),H5,(List.flatten [H7,H8,cA])]) from⟨b3,H5,(pp b7),(pp b8),(pp b9),(List.flatten [H7,H8,cA]),s5,(show uS (some (dM.mk x2.aB x2.eD v4)) (pp b7) (pp b8) (pp b9) (List.flatten [H7,H8,cA]) from⟨b7,H7,b8,H8,b9,cA,s7,s8,dh,J,J,J,J⟩),J⟩),J,J⟩ J))
def xz.f (n:b_) (cell:Int) (cost:Int):Option (Int×b_):=dm n.core (none) (λx1=>(xd.f x1.aB cell cost).bind λv2=>some (v2.1,(b_.mk (some (dM.mk v2.2 x1.eD x1.iT)) n.fx n.aV)))
def xz.R (sv:Nat) (r:(Int×b_)) (u:Value) (G:List Hp):Prop:= ∃(H0:Hp),gy r.2 sv H0/\u=(ii r.1)/\G=[H0]
theorem xz.c (H:xz.f n cell cost=some r) (iy:gy n cN ic):
 QR 120 [(pp cN),(ii cell),(ii cost)] [ic] [] F (xz.R cN r):=by
 unfold xz.f at H;refine aD Tryz.func120 J J (λW=>rc T 12 (eN J (rc T 3 ?_)));obtain⟨b3,H3,rW,Lg,Lh,H4,s3,s4,cm⟩:=(λx=>x) iy;refine bQ 0 (congrArg some cm) (fz J ?_);rcases q1:n.core with _ |x1
 ·replace H:=eV q1 H
  cases H
 replace H:=eW q1 H;rw[q1] at s4;obtain⟨b6,H6,b7,H7,b8,H8,s6,s7,s8,rfl,rfl,rfl,sH⟩:=s4;refine bQ 3 (congrArg some sH) (fz J (rc T 4 (lf T 1 J (ro T 2 (kr (xd.R b6) [] [3] J acz H (xd.c · s6) (λv2 H=>?_))))));rintro _ _ ⟨H9,s9,rfl,rfl⟩;refine fz J (ro T 4 ?_)
 cases H;refine gq [5,3,3] J (gq [1,1,1] J (p1 T J [1,0] ⟨(List.flatten [(cl cN 135 [(pp b6),(pp b7),(pp b8),(pp b3),(uu n.aV.bn),(uu n.aV.bB),(uu n.aV.bz),(uu n.aV.bx),(uu n.aV.bE),(uu n.aV.bC)]),H3,(List.flatten [H9,H7,H8])]),(show gy (b_.mk (some (dM.mk v2.2 x1.eD x1.iT)) n.fx n.aV) cN (List.flatten [(cl cN 135 [(pp b6),(pp b7),(pp b8),(pp b3),(uu n.aV.bn),(uu n.aV.bB),(uu n.aV.bz),(uu n.aV.bx),(uu n.aV.bE),(uu n.aV.bC)]),H3,(List.flatten [H9,H7,H8])]) from⟨b3,H3,(pp b6),(pp b7),(pp b8),(List.flatten [H9,H7,H8]),s3,(show uS (some (dM.mk v2.2 x1.eD x1.iT)) (pp b6) (pp b7) (pp b8) (List.flatten [H9,H7,H8]) from⟨b6,H9,b7,H7,b8,H8,s9,s7,s8,J,J,J,J⟩),J⟩),J,J⟩ J))
def zj.f (n:b_):Option (Int×Int):=dm n.core (none) (λx1=>(iH.f x1.aB).bind λv2=>some (v2.1,v2.2))
theorem zj.c (H:zj.f n=some r) (iy:gy n cN ic):
 QU 164 [(pp cN)] [ic] F (.tuple #[(ii r.1),(ii r.2)]):=by
 unfold zj.f at H;refine aD Tryz.func164 J J (λW=>rc T 13 (eN J (rc T 3 ?_)));obtain⟨b3,H3,rW,Lg,Lh,H4,s3,s4,cm⟩:=(λx=>x) iy;refine bQ 0 (congrArg some cm) (fz J ?_);rcases q1:n.core with _ |x1
 ·replace H:=eV q1 H
  cases H
 replace H:=eW q1 H;rw[q1] at s4;obtain⟨b6,H6,b7,H7,b8,H8,s6,s7,s8,rfl,rfl,rfl,sH⟩:=s4;refine bQ 3 (congrArg some sH) (fz J (rc T 4 (lf T 1 J (k [3] J uc H (iH.c · s6) (λv2 H=>ro T 7 ?_)))))
 cases H;refine cq [3,3,3] J sH (cq [1,1,1] J cm (p0 T J [1,0] J))
def qJ.f (n:b_) (goal:Int) (bG:Int):Option (fZ×Er×b_):=(dm n.core (some true) (λx3=>some false)).bind λx1=>if x1=true then((some (Er.wrap 222 [goal] (Er.eh 2))).bind λx4=>some ((fZ.mk [] []),x4,n)) else(dm n.core (none) (λx6=>(lW.f x6.aB bG).bind λv7=>(jc.f x6.aB goal).bind λv8=>if((v8==0)||(!v7.2))=true then((some (Er.wrap 222 [goal] (Er.eh 3))).bind λx9=>some ((fZ.mk [] []),x9,n)) else((xM.f x6.iT goal x6.eD x6.aB).bind λv11=>dm v11.1 ((AH.f x6.aB bG).bind λv12=>((pW.f x6.aB bG).bind λfG=>(mw.f n.fx goal bG fG v7.1 v12).bind λnU=>some (nU.1.fe,nU.1.cy,nU.2.1,nU.2.2)).bind λ(aU,bd,ct,dP)=>if(ct !=0)=true then((some (Er.wrap 222 [goal] (Er.eh 4))).bind λdy=>some ((fZ.mk [] []),dy,(b_.mk (some (dM.mk x6.aB v11.2.2 v11.2.1)) dP n.aV))) else(some ((fZ.mk aU bd),Er.nil,(b_.mk (some (dM.mk x6.aB v11.2.2 v11.2.1)) dP n.aV)))) (λzO=>(iu.f x6.aB zO bG).bind λv25=>((pW.f x6.aB bG).bind λv31=>(mw.f n.fx goal bG v31 v7.1 v25).bind λv32=>some (v32.1.fe,v32.1.cy,v32.2.1,v32.2.2)).bind λ(jT,jC,mY,gj)=>if(mY !=0)=true then((some (Er.wrap 222 [goal] (Er.eh 4))).bind λwE=>some ((fZ.mk [] []),wE,(b_.mk (some (dM.mk x6.aB v11.2.2 v11.2.1)) gj n.aV))) else(some ((fZ.mk jT jC),Er.nil,(b_.mk (some (dM.mk x6.aB v11.2.2 v11.2.1)) gj n.aV)))))))
def qJ.R (el:Nat->Addr) (sv:Nat) (r:(fZ×Er×b_)) (u:Value) (G:List Hp):Prop:= ∃(a0:Option Addr) (n0:Nat) (H0:Hp) (a1:Option Addr) (n1:Nat) (H1:Hp) (v2:Value) (H2:Hp) (H3:Hp),aj (Fl.int .i64) 3 r.1.fe a0 n0 H0/\aj (Fl.int .i64) 3 r.1.cy a1 n1 H1/\fX 414 el r.2.1 v2 H2/\gy r.2.2 sv H3/\u=(.tuple #[(.agg #[(ll a0 r.1.fe n0),(ll a1 r.1.cy n1)]),v2])/\G=[H0,H1,H2,H3]
theorem qJ.c (H:qJ.f n goal bG=some r) (hG:fM 414 fc gY el F) (iy:gy n cN ic):
 QR 100 [(pp cN),(ii goal),(ii bG)] [ic] [] F (qJ.R el cN r):=by
 unfold qJ.f at H;refine aD Tryz.func100 J J (λW=>rc T 2 (nc T J (λb2=>fz J (ro T 4 (mq H [0,1,2,6] [1,0,0] (λz2 (x1:Bool)=>(x1=z2,[(21,(bb x1))],[])) J J (λz2 Z1 _=>?_) ?_)))))
 ·obtain⟨b4,H4,yg,EO,EP,H5,s4,s5,dq⟩:=(λx=>x) iy;refine bQ 0 (congrArg some dq) (fz J ?_);rcases q2:n.core with _ |x3
  ·replace Z1:=eV q2 Z1;rw[q2] at s5;obtain⟨rfl,rfl,rfl,rfl⟩:=s5;refine rc T 7 (lf T 2 J (ro T 4 (cq [2,2,2] J dq (am _ [0,1,0] (oi Z1) J J))))
  replace Z1:=eW q2 Z1;rw[q2] at s5;obtain⟨b7,H7,b8,H8,b9,H9,s7,s8,s9,rfl,rfl,rfl,ou⟩:=s5;refine bQ 4 (congrArg some ou) (fz J (rc T 7 (lf T 2 J (ro T 4 (cq [4,4,4] J ou (cq [2,2,2] J dq (am _ [0,1,0] (oi Z1) J J)))))))
 rintro _ x1 rfl H;refine cb J H (λH=>?_) (λH=>?_)
 ·refine mq H [6] [0,1,0] (λz5 (⟨x4,Le,bX⟩:Er×Value×Hp)=>(x4=z5/\fX 414 el x4 Le bX,[(7,Le)],[bX])) J J (λz5 Z4 _=>?_) ?_
  ·refine fz J (rz [] mix (bP bO) (λhg pf=>ha T 6 [0,1] sz hg pf J (av 2 sz hg pf J (aw T J J J J (rI (j:=0) J hG (g:=2) (by decide))) (ha T 4 [3] sz hg pf J (gB 4 6 ?_ ?_)))))
   ·refine nw T J (λjF=>fz J (an (so [0,0,0]) (gB 5 6 ?_ ?_)))
    ·refine aq J (gq [3,3] J (lB J (gV T J J J J) (an (so [0,0,0]) (ao 6 (iX T 2 J (an (so [0,0,0]) (ha T 0 [7] (so [0,0,0]) hg pf J (ae (rx T 1 (am (_,_,_) [0,1,0,0] ⟨oi Z4,(pT ot)⟩ J J))))))))))
    refine iX T 2 J (an (so [0,0,0]) (ao 5 (aq J (gq [3,3] J (lB J (gV T J J J J) (an (so [0,0,0]) (ha T 0 [7] (so [0,0,0]) hg pf J (ae (rx T 1 (am (_,_,_) [0,1,0,0] ⟨oi Z4,(pT ot)⟩ J J))))))))))
   refine iX T 2 J (an sz (ao 4 (nw T J (λqu=>fz J (an (so [0,0,0]) (ao 5 (aq J (gq [3,3] J (lB J (gV T J J J J) (an (so [0,0,0]) (ha T 0 [7] (so [0,0,0]) hg pf J (ae (rx T 1 (am (_,_,_) [0,1,0,0] ⟨oi Z4,(pT ot)⟩ J J))))))))))))))
  rintro _ ⟨x4,Le,bX⟩ ⟨rfl,bT⟩ H;refine rc T 2 ?_
  cases H;refine aq J (aq J (pb T J (.cK (j:=1) [nl,nl] J J J J J J J (.tmp J .nil)) [4,4,3,2,0] ⟨(_,_),none,0,[],none,0,[],Le,bX,ic,aj.nil,aj.nil,bT,iy,J,J⟩ J J))
 refine rc T 3 ?_;obtain⟨kO,mC,ajZ,aj0,aj1,jD,iM,gS,Sy⟩:=(λx=>x) iy;refine bQ 1 (congrArg some Sy) (fz J ?_);rcases q5:n.core with _ |x6
 ·replace H:=eV q5 H
  cases H
 replace H:=eW q5 H;rw[q5] at gS;obtain⟨kP,gL,kQ,mg,lS,EW,iW,lK,wb,rfl,rfl,rfl,SD⟩:=gS;refine bQ 4 (congrArg some SD) (fz J (rc T 4 (lf T 2 J (ro T 1 (kr lW.R [4] [4] J SX H (lW.c · iW) (λv7 H=>?_))))));rintro _ _ ⟨a28,n28,uM,j7,rfl,rfl⟩;refine fz J (ro T 3 (nc T J (λz_=>fz J (jP T 8 J (ro T 9 (lf T 2 J (ro T 1 (k [7] J vt H (jc.c · iW) (λv8 H=>ro T 2 (go T [8,9,10] 44 [0,1,2,6,8] 47 J J J J J J J (ro T 2 (cb J H (λH=>?_) (λH=>?_)))))))))))))
 ·refine mq H [6] [0,0,0,4,1,1,0] (λnZ (⟨x9,Li,pL⟩:Er×Value×Hp)=>(x9=nZ/\fX 414 el x9 Li pL,[(7,Li)],[pL])) J J (λnZ Z9 _=>?_) ?_
  ·refine ke [1,6] [0,0,0,0,0,0,1] J J (fz J (rz [] mix (bP bO) (λhg pf=>ha T 6 [0,1] sz hg pf J (av 2 sz hg pf J (aw T J J J J (rI (j:=0) J hG (g:=3) (by decide))) (ha T 4 [3] sz hg pf J (gB 4 6 ?_ ?_))))))
   ·refine nw T J (λZU=>fz J (an (so [0,0,0,0,0,0,0]) (gB 5 6 ?_ ?_)))
    ·refine aq J (gq [7,7] J (lB J (gV T J J J J) (an (so [0,0,0,0,0,0,0]) (ao 6 (iX T 1 J (an (so [0,0,0,0,0,0,0]) (ha T 0 [7] (so [0,0,0,0,0,0,0]) hg pf J (ae (rx T 1 (am (_,_,_) [0,0,0,3,1,1,0,0] ⟨oi Z9,(pT ot)⟩ J J))))))))))
    refine iX T 1 J (an (so [0,0,0,0,0,0,0]) (ao 5 (aq J (gq [7,7] J (lB J (gV T J J J J) (an (so [0,0,0,0,0,0,0]) (ha T 0 [7] (so [0,0,0,0,0,0,0]) hg pf J (ae (rx T 1 (am (_,_,_) [0,0,0,3,1,1,0,0] ⟨oi Z9,(pT ot)⟩ J J))))))))))
   refine iX T 1 J (an sz (ao 4 (nw T J (λb36=>fz J (an (so [0,0,0,0,0,0,0]) (ao 5 (aq J (gq [7,7] J (lB J (gV T J J J J) (an (so [0,0,0,0,0,0,0]) (ha T 0 [7] (so [0,0,0,0,0,0,0]) hg pf J (ae (rx T 1 (am (_,_,_) [0,0,0,3,1,1,0,0] ⟨oi Z9,(pT ot)⟩ J J))))))))))))))
  rintro _ ⟨x9,Li,pL⟩ ⟨rfl,nM⟩ H;refine rc T 2 ?_
  cases H;refine cq [3,3,3] J SD (cq [2,2,3] J Sy (aq J (aq J (pb T J (.cK (j:=1) [nl,nl] J J J J J J J (.tmp J .nil)) [4,4,2,2,0] ⟨(_,_),none,0,[],none,0,[],Li,pL,ic,aj.nil,aj.nil,nM,iy,J,J⟩ J J))))
 refine rc T 3 (ks [0,1,2,6,8] J (fz J (rq [] [0,0,0,0,2,2,2] J mix (bP bO) (λhg pf=>ha T 10 [0,1,2] (so [0,0,0,0,2,2,2]) hg pf J (av 3 (so [0,0,0,0,2,2,2]) hg pf J (aw T J J J J (aH (j:=2) J J)) (ha T 6 [4,5,6] (so [0,0,0,0,2,2,2]) hg pf J (av 7 (so [0,0,0,0,2,2,2]) hg pf J (aw T J J J J (aH (j:=2) J J)) (ha T 3 [8,10] (so [0,0,0,0,2,2,2]) hg pf J (ao 9 (kR (xM.R lS kQ kP kQ kP) [7] [5,4,5] J acv H (xM.c · wb lK iW) (λv11 H=>?_)))))))))));rintro _ _ ⟨ajX,lv,gm,IB,qP,rfl,rfl⟩;refine fz J ?_;rcases J8:v11.1 with _ |zO
 ·replace H:=eV J8 H;rw[J8] at IB;obtain⟨rfl,xN⟩:=IB;refine an (so [0,0,0,0,0,3,0]) (ao 11 (kR AH.R [8] [8] J SY H (AH.c · iW) (λv12 H=>?_)));rintro _ _ ⟨a54,n54,H54,EA,rfl,rfl⟩;refine fz J (an (so [0,0,0,0,0,4,0]) (ha T 0 [12] (so [0,0,0,0,0,4,0]) hg pf J (ae (rx T 1 (mq H [1,6] [0,0,0,6,4,3] (λz17 (⟨aU,bd,ct,dP,L7,Fb,G2,Iv,Fc,n57,Iw,yq⟩:List Int×List Int×Int×jl×Nat×Option Addr×Nat×Hp×Option Addr×Nat×Hp×Hp)=>((aU,bd,ct,dP)=z17/\aj (Fl.int .i64) 3 aU Fb G2 Iv/\aj (Fl.int .i64) 3 bd Fc n57 Iw/\sb dP kO yq,[(11,(pp L7)),(12,(ii ct))],[(cl L7 79 [(ll Fb aU G2),(ll Fc bd n57)]),Iv,Iw,yq])) J J (λz17 bD _=>?_) ?_)))))
  ·refine ks [0,1,2,6,8,10] J (fz J (rz [14] mix (bP bO) (λhg pf=>ha T 18 [0,1,2] sz hg pf J (av 3 sz hg pf J (aw T J J J J (aH (j:=2) J J)) (ha T 12 [4,5,6,7,8] sz hg pf J (av 9 sz hg pf J (aw T J J J J (aH (j:=2) J J)) (ha T 10 [10] sz hg pf J (av 12 sz hg pf J (gA T 5 J J J J J J J) (ha T 8 [13] sz hg pf J (gB 11 18 ?_ ?_))))))))))
   ·refine kh [9] J B7 bD (pW.c · iW) (λfG bD=>an sz (gB 14 18 ?_ ?_))
    ·refine kR (mw.R kO) [] [3] J DU bD (mw.c · iM (oO j7 3) j7.bY (oO EA 7) EA.bY) (λnU bD=>?_);rintro _ _ ⟨a59,n59,H59,a60,n60,H60,H61,s59,s60,s61,rfl,rfl⟩;refine fz J (an sl (hb T 15 sl hg pf J (hb T 16 sl hg pf J (hb T 17 sl hg pf J (ao 18 (nw T J (λb62=>fz J (an sl (ao 19 (iX T 12 J (an sl (hb T 20 sl hg pf J (ae (rx T 1 (am (_,_,_,_,_,_,_,_,_,_,_,_) [0,0,0,5,3,2,6,3,3,3] ⟨oi bD,s59,s60,s61⟩ J J)))))))))))))))
    refine nw T J (λb63=>fz J (an (so [0,0,0,0,0,0,0,0,0,0]) (ao 14 (kR (mw.R kO) [] [3] J DU bD (mw.c · iM (oO j7 3) j7.bY (oO EA 7) EA.bY) (λv20 bD=>?_)))));rintro _ _ ⟨a64,n64,H64,a65,n65,H65,H66,s64,s65,s66,rfl,rfl⟩;refine fz J (an sl (hb T 15 sl hg pf J (hb T 16 sl hg pf J (hb T 17 sl hg pf J (ao 19 (iX T 9 J (an sl (hb T 20 sl hg pf J (ae (rx T 1 (am (_,_,_,_,_,_,_,_,_,_,_,_) [0,0,0,5,3,2,3,3,3,3] ⟨oi bD,s64,s65,s66⟩ J J)))))))))))
   refine nw T J (λb67=>fz J (an (so [0,0,0,0,0,0,0,0,0,0]) (ao 11 (kh [9] J B7 bD (pW.c · iW) (λv21 bD=>an (so [0,0,0,0,0,0,0,0,0,0]) (ao 14 (kR (mw.R kO) [] [3] J DU bD (mw.c · iM (oO j7 3) j7.bY (oO EA 7) EA.bY) (λv22 bD=>?_))))))));rintro _ _ ⟨a68,n68,H68,a69,n69,H69,H70,s68,s69,s70,rfl,rfl⟩;refine fz J (an sl (hb T 15 sl hg pf J (hb T 16 sl hg pf J (hb T 17 sl hg pf J (ao 19 (iX T 9 J (an sl (hb T 20 sl hg pf J (ae (rx T 1 (am (_,_,_,_,_,_,_,_,_,_,_,_) [0,0,0,5,3,2,3,3,3,3] ⟨oi bD,s68,s69,s70⟩ J J)))))))))))
  rintro _ ⟨aU,bd,ct,dP,L7,Fb,G2,Iv,Fc,n57,Iw,yq⟩ ⟨rfl,s56,s57,WS⟩ H;refine rc T 7 (cb J H (λH=>?_) (λH=>?_))
  ·refine mq H [6] [0,0,0,0,0,0,3] (λz24 (⟨dy,Lk,Ix⟩:Er×Value×Hp)=>(dy=z24/\fX 414 el dy Lk Ix,[(7,Lk)],[Ix])) J J (λz24 sj _=>?_) ?_
   ·refine fz J (rz [] mix (bP bO) (λhg pf=>ha T 6 [0,1] sz hg pf J (av 2 sz hg pf J (aw T J J J J (rI (j:=0) J hG (g:=4) (by decide))) (ha T 4 [3] sz hg pf J (gB 4 6 ?_ ?_)))))
    ·refine nw T J (λb72=>fz J (an (so [0,0,0,0,0,0,0,0,0,0]) (gB 5 6 ?_ ?_)))
     ·refine aq J (gq [10,10] J (lB J (gV T J J J J) (an (so [0,0,0,0,0,0,0,0,0,0]) (ao 6 (iX T 1 J (an (so [0,0,0,0,0,0,0,0,0,0]) (ha T 0 [7] (so [0,0,0,0,0,0,0,0,0,0]) hg pf J (ae (rx T 1 (am (_,_,_) [0,0,0,0,0,0,3,3] ⟨oi sj,(pT ot)⟩ J J))))))))))
     refine iX T 1 J (an (so [0,0,0,0,0,0,0,0,0,0]) (ao 5 (aq J (gq [10,10] J (lB J (gV T J J J J) (an (so [0,0,0,0,0,0,0,0,0,0]) (ha T 0 [7] (so [0,0,0,0,0,0,0,0,0,0]) hg pf J (ae (rx T 1 (am (_,_,_) [0,0,0,0,0,0,3,3] ⟨oi sj,(pT ot)⟩ J J))))))))))
    refine iX T 1 J (an sz (ao 4 (nw T J (λb77=>fz J (an (so [0,0,0,0,0,0,0,0,0,0]) (ao 5 (aq J (gq [10,10] J (lB J (gV T J J J J) (an (so [0,0,0,0,0,0,0,0,0,0]) (ha T 0 [7] (so [0,0,0,0,0,0,0,0,0,0]) hg pf J (ae (rx T 1 (am (_,_,_) [0,0,0,0,0,0,3,3] ⟨oi sj,(pT ot)⟩ J J))))))))))))))
   rintro _ ⟨dy,Lk,Ix⟩ ⟨rfl,s71⟩ H;refine rc T 2 ?_
   cases H;refine gq [3,3,3] J (gq [2,2,3] J (aq J (aq J (pb T J (.cK (j:=1) [nl,nl] J J J J J J J (.tmp J .nil)) [4,4,2,2,0] ⟨(_,_),none,0,[],none,0,[],Lk,Ix,(List.flatten [(cl cN 135 [(pp kP),(pp kQ),(pp lS),(pp kO),(uu n.aV.bn),(uu n.aV.bB),(uu n.aV.bz),(uu n.aV.bx),(uu n.aV.bE),(uu n.aV.bC)]),yq,(List.flatten [gL,gm,lv])]),aj.nil,aj.nil,s71,(show gy (b_.mk (some (dM.mk x6.aB v11.2.2 v11.2.1)) dP n.aV) cN (List.flatten [(cl cN 135 [(pp kP),(pp kQ),(pp lS),(pp kO),(uu n.aV.bn),(uu n.aV.bB),(uu n.aV.bz),(uu n.aV.bx),(uu n.aV.bE),(uu n.aV.bC)]),yq,(List.flatten [gL,gm,lv])]) from⟨kO,yq,(pp kP),(pp kQ),(pp lS),(List.flatten [gL,gm,lv]),WS,(show uS (some (dM.mk x6.aB v11.2.2 v11.2.1)) (pp kP) (pp kQ) (pp lS) (List.flatten [gL,gm,lv]) from⟨kP,gL,kQ,gm,lS,lv,iW,qP,xN,J,J,J,J⟩),J⟩),J,J⟩ J J))))
  refine rc T 4 (lm T 6 J (jP T 1 J (ro T 4 ?_)))
  cases H;refine gq [3,3,3] J (gq [2,5,5] J (aq J (pb T J (.cK (j:=1) [(ll Fb aU G2),(ll Fc bd n57)] J J J J J J J (.tmp J .nil)) [3,3,4,3,0] ⟨(_,_),Fb,G2,Iv,Fc,n57,Iw,.nilIface,[],(List.flatten [(cl cN 135 [(pp kP),(pp kQ),(pp lS),(pp kO),(uu n.aV.bn),(uu n.aV.bB),(uu n.aV.bz),(uu n.aV.bx),(uu n.aV.bE),(uu n.aV.bC)]),yq,(List.flatten [gL,gm,lv])]),s56,s57,tY,(show gy (b_.mk (some (dM.mk x6.aB v11.2.2 v11.2.1)) dP n.aV) cN (List.flatten [(cl cN 135 [(pp kP),(pp kQ),(pp lS),(pp kO),(uu n.aV.bn),(uu n.aV.bB),(uu n.aV.bz),(uu n.aV.bx),(uu n.aV.bE),(uu n.aV.bC)]),yq,(List.flatten [gL,gm,lv])]) from⟨kO,yq,(pp kP),(pp kQ),(pp lS),(List.flatten [gL,gm,lv]),WS,(show uS (some (dM.mk x6.aB v11.2.2 v11.2.1)) (pp kP) (pp kQ) (pp lS) (List.flatten [gL,gm,lv]) from⟨kP,gL,kQ,gm,lS,lv,iW,qP,xN,J,J,J,J⟩),J⟩),J,J⟩ J J)))
 replace H:=eW J8 H;rw[J8] at IB;obtain⟨vV,QT,LF,n52,Ly,Ez,rfl,SA⟩:=IB;have WR:tM v11.2.1 lS kQ kP lv:=⟨(pp QT),_,(by rw[vV];exact⟨QT,LF,n52,Ly,Ez,J,J⟩),SA⟩
 obtain⟨XN,M0,MX⟩:=ae7 SA;refine bQ 6 (congrArg some MX) (fz J (bQ 9 (congrArg some M0) (fz J (an (so [0,0,0,0,0,2,0]) (ao 11 (kR iu.R [7,8,8] [7,8,8] J SY H (iu.c · iW Ez) (λv25 H=>?_)))))));rintro _ _ ⟨a85,n85,H85,EB,rfl,rfl⟩;refine fz J (an (so [0,0,0,0,0,4,0]) (ha T 0 [12] (so [0,0,0,0,0,4,0]) hg pf J (ae (rx T 1 (mq H [1,6] [0,0,0,6,3,3,4,4] (λIp (⟨jT,jC,mY,gj,L9,a87,G3,Iy,Fe,G4,Iz,yr⟩:List Int×List Int×Int×jl×Nat×Option Addr×Nat×Hp×Option Addr×Nat×Hp×Hp)=>((jT,jC,mY,gj)=Ip/\aj (Fl.int .i64) 3 jT a87 G3 Iy/\aj (Fl.int .i64) 3 jC Fe G4 Iz/\sb gj kO yr,[(11,(pp L9)),(12,(ii mY))],[(cl L9 79 [(ll a87 jT G3),(ll Fe jC G4)]),Iy,Iz,yr])) J J (λIp sk _=>?_) ?_)))))
 ·refine ks [0,1,2,6,8,10] J (fz J (rz [14] mix (bP bO) (λhg pf=>ha T 18 [0,1,2] sz hg pf J (av 3 sz hg pf J (aw T J J J J (aH (j:=2) J J)) (ha T 12 [4,5,6,7,8] sz hg pf J (av 9 sz hg pf J (aw T J J J J (aH (j:=2) J J)) (ha T 10 [10] sz hg pf J (av 12 sz hg pf J (gA T 5 J J J J J J J) (ha T 8 [13] sz hg pf J (gB 11 18 ?_ ?_))))))))))
  ·refine kh [9] J B7 sk (pW.c · iW) (λv31 sk=>an sz (gB 14 18 ?_ ?_))
   ·refine kR (mw.R kO) [] [3] J DU sk (mw.c · iM (oO j7 3) j7.bY (oO EB 7) EB.bY) (λv32 sk=>?_);rintro _ _ ⟨a90,n90,H90,a91,n91,H91,H92,s90,s91,s92,rfl,rfl⟩;refine fz J (an sl (hb T 15 sl hg pf J (hb T 16 sl hg pf J (hb T 17 sl hg pf J (ao 18 (nw T J (λb93=>fz J (an sl (ao 19 (iX T 14 J (an sl (hb T 20 sl hg pf J (ae (rx T 1 (am (_,_,_,_,_,_,_,_,_,_,_,_) [0,0,0,5,2,2,3,3,6,3,3,3] ⟨oi sk,s90,s91,s92⟩ J J)))))))))))))))
   refine nw T J (λb94=>fz J (an (so [0,0,0,0,0,0,0,0,0,0,0,0]) (ao 14 (kR (mw.R kO) [] [3] J DU sk (mw.c · iM (oO j7 3) j7.bY (oO EB 7) EB.bY) (λv33 sk=>?_)))));rintro _ _ ⟨a95,n95,H95,a96,n96,H96,H97,s95,s96,s97,rfl,rfl⟩;refine fz J (an sl (hb T 15 sl hg pf J (hb T 16 sl hg pf J (hb T 17 sl hg pf J (ao 19 (iX T 11 J (an sl (hb T 20 sl hg pf J (ae (rx T 1 (am (_,_,_,_,_,_,_,_,_,_,_,_) [0,0,0,5,2,2,3,3,3,3,3,3] ⟨oi sk,s95,s96,s97⟩ J J)))))))))))
  refine nw T J (λb98=>fz J (an (so [0,0,0,0,0,0,0,0,0,0,0,0]) (ao 11 (kh [9] J B7 sk (pW.c · iW) (λPN sk=>an (so [0,0,0,0,0,0,0,0,0,0,0,0]) (ao 14 (kR (mw.R kO) [] [3] J DU sk (mw.c · iM (oO j7 3) j7.bY (oO EB 7) EB.bY) (λv35 sk=>?_))))))));rintro _ _ ⟨a99,n99,H99,ajv,n100,ajt,aju,s99,ahR,ahS,rfl,rfl⟩;refine fz J (an sl (hb T 15 sl hg pf J (hb T 16 sl hg pf J (hb T 17 sl hg pf J (ao 19 (iX T 11 J (an sl (hb T 20 sl hg pf J (ae (rx T 1 (am (_,_,_,_,_,_,_,_,_,_,_,_) [0,0,0,5,2,2,3,3,3,3,3,3] ⟨oi sk,s99,ahR,ahS⟩ J J)))))))))))
 rintro _ ⟨jT,jC,mY,gj,L9,a87,G3,Iy,Fe,G4,Iz,yr⟩ ⟨rfl,s87,s88,WT⟩ H;refine rc T 7 (cb J H (λH=>?_) (λH=>?_))
 ·refine mq H [6] [0,0,0,0,0,0,0,0,3] (λz37 (⟨wE,Ld,It⟩:Er×Value×Hp)=>(wE=z37/\fX 414 el wE Ld It,[(7,Ld)],[It])) J J (λz37 uV _=>?_) ?_
  ·refine fz J (rz [] mix (bP bO) (λhg pf=>ha T 6 [0,1] sz hg pf J (av 2 sz hg pf J (aw T J J J J (rI (j:=0) J hG (g:=4) (by decide))) (ha T 4 [3] sz hg pf J (gB 4 6 ?_ ?_)))))
   ·refine nw T J (λajw=>fz J (an (so [0,0,0,0,0,0,0,0,0,0,0,0]) (gB 5 6 ?_ ?_)))
    ·refine aq J (gq [12,12] J (lB J (gV T J J J J) (an (so [0,0,0,0,0,0,0,0,0,0,0,0]) (ao 6 (iX T 1 J (an (so [0,0,0,0,0,0,0,0,0,0,0,0]) (ha T 0 [7] (so [0,0,0,0,0,0,0,0,0,0,0,0]) hg pf J (ae (rx T 1 (am (_,_,_) [0,0,0,0,0,0,0,0,3,3] ⟨oi uV,(pT ot)⟩ J J))))))))))
    refine iX T 1 J (an (so [0,0,0,0,0,0,0,0,0,0,0,0]) (ao 5 (aq J (gq [12,12] J (lB J (gV T J J J J) (an (so [0,0,0,0,0,0,0,0,0,0,0,0]) (ha T 0 [7] (so [0,0,0,0,0,0,0,0,0,0,0,0]) hg pf J (ae (rx T 1 (am (_,_,_) [0,0,0,0,0,0,0,0,3,3] ⟨oi uV,(pT ot)⟩ J J))))))))))
   refine iX T 1 J (an sz (ao 4 (nw T J (λajx=>fz J (an (so [0,0,0,0,0,0,0,0,0,0,0,0]) (ao 5 (aq J (gq [12,12] J (lB J (gV T J J J J) (an (so [0,0,0,0,0,0,0,0,0,0,0,0]) (ha T 0 [7] (so [0,0,0,0,0,0,0,0,0,0,0,0]) hg pf J (ae (rx T 1 (am (_,_,_) [0,0,0,0,0,0,0,0,3,3] ⟨oi uV,(pT ot)⟩ J J))))))))))))))
  rintro _ ⟨wE,Ld,It⟩ ⟨rfl,ahT⟩ H;refine rc T 2 ?_
  cases H;refine cq [6,6] J M0 (cq [5,7] J MX (gq [3,3,5] J (gq [2,2,3] J (aq J (aq J (pb T J (.cK (j:=1) [nl,nl] J J J J J J J (.tmp J .nil)) [4,4,2,2,0] ⟨(_,_),none,0,[],none,0,[],Ld,It,(List.flatten [(cl cN 135 [(pp kP),(pp kQ),(pp lS),(pp kO),(uu n.aV.bn),(uu n.aV.bB),(uu n.aV.bz),(uu n.aV.bx),(uu n.aV.bE),(uu n.aV.bC)]),yr,(List.flatten [gL,gm,lv])]),aj.nil,aj.nil,ahT,(show gy (b_.mk (some (dM.mk x6.aB v11.2.2 v11.2.1)) gj n.aV) cN (List.flatten [(cl cN 135 [(pp kP),(pp kQ),(pp lS),(pp kO),(uu n.aV.bn),(uu n.aV.bB),(uu n.aV.bz),(uu n.aV.bx),(uu n.aV.bE),(uu n.aV.bC)]),yr,(List.flatten [gL,gm,lv])]) from⟨kO,yr,(pp kP),(pp kQ),(pp lS),(List.flatten [gL,gm,lv]),WT,(show uS (some (dM.mk x6.aB v11.2.2 v11.2.1)) (pp kP) (pp kQ) (pp lS) (List.flatten [gL,gm,lv]) from⟨kP,gL,kQ,gm,lS,lv,iW,qP,WR,J,J,J,J⟩),J⟩),J,J⟩ J J))))))
 refine rc T 4 (lm T 8 J (jP T 1 J (ro T 4 ?_)))
 cases H;refine cq [6,6] J M0 (cq [5,9] J MX (gq [3,3,7] J (gq [2,5,5] J (aq J (pb T J (.cK (j:=1) [(ll a87 jT G3),(ll Fe jC G4)] J J J J J J J (.tmp J .nil)) [3,3,4,3,0] ⟨(_,_),a87,G3,Iy,Fe,G4,Iz,.nilIface,[],(List.flatten [(cl cN 135 [(pp kP),(pp kQ),(pp lS),(pp kO),(uu n.aV.bn),(uu n.aV.bB),(uu n.aV.bz),(uu n.aV.bx),(uu n.aV.bE),(uu n.aV.bC)]),yr,(List.flatten [gL,gm,lv])]),s87,s88,tY,(show gy (b_.mk (some (dM.mk x6.aB v11.2.2 v11.2.1)) gj n.aV) cN (List.flatten [(cl cN 135 [(pp kP),(pp kQ),(pp lS),(pp kO),(uu n.aV.bn),(uu n.aV.bB),(uu n.aV.bz),(uu n.aV.bx),(uu n.aV.bE),(uu n.aV.bC)]),yr,(List.flatten [gL,gm,lv])]) from⟨kO,yr,(pp kP),(pp kQ),(pp lS),(List.flatten [gL,gm,lv]),WT,(show uS (some (dM.mk x6.aB v11.2.2 v11.2.1)) (pp kP) (pp kQ) (pp lS) (List.flatten [gL,gm,lv]) from⟨kP,gL,kQ,gm,lS,lv,iW,qP,WR,J,J,J,J⟩),J⟩),J,J⟩ J J)))))
def zl.f (n:b_) (goal:Int) (cell:Int):Option (Int×Int×Er×b_):=(zj.f n).bind λv1=>(gi.f v1.1 v1.2 cell).bind λv2=>(qJ.f n goal v2).bind λv3=>if(!(Er.isNil v3.2.1))=true then(some (0,0,v3.2.1,v3.2.2)) else((qY.f v1.1 v1.2 cell).bind λv4=>if(0<=v4/\v4<(List.length v3.1.fe:Int)) then(if(0<=v4/\v4<(List.length v3.1.cy:Int)) then(some ((rd v3.1.fe v4),(rd v3.1.cy v4),Er.nil,v3.2.2)) else none) else none)
def zl.R (el:Nat->Addr) (sv:Nat) (r:(Int×Int×Er×b_)) (u:Value) (G:List Hp):Prop:= ∃(v0:Value) (H0:Hp) (H1:Hp),fX 414 el r.2.2.1 v0 H0/\gy r.2.2.2 sv H1/\u=(.tuple #[(ii r.1),(ii r.2.1),v0])/\G=[H0,H1]
theorem zl.c (H:zl.f n goal cell=some r) (hG:fM 414 fc gY el F) (iy:gy n cN ic):
 QR 163 [(pp cN),(ii goal),(ii cell)] [ic] [] F (zl.R el cN r):=by
 unfold zl.f at H;refine aD Tryz.func163 J J (λW=>rc T 10 (k [0] J S_ H (zj.c · iy) (λv1 H=>ro T 14 (k [] J qA H (gi.c ·) (λv2 H=>kr (qJ.R el cN) [] [0] J SN H (qJ.c · (dH hG (j:=0) J) iy) (λv3 H=>?_))))));rintro _ _ ⟨a2,n2,H2,a3,n3,H3,v4,H4,H5,s2,s3,s4,s5,rfl,rfl⟩;refine fz J (ro T 3 (nc T J (λb6=>fz J (jP T 5 J (ro T 7 (br J (DL T J J J (rB s4 (j:=3) J)) (ro T 2 (cb J H (λH=>?_) (λH=>?_)))))))))
 ·refine rc T 10 ?_
  cases H;exact p1 T J [3,3,0] ⟨v4,H4,H5,s4,s5,J,J⟩ J
 refine rc T 7 (k [] J F2 H (qY.c ·) (λv4 H=>ro T 4 (du mix ay (au T J (aO J J J (aw T J J J J (aH (j:=5) J J)) (au T J ?_))))));obtain⟨c6,H⟩:=az H;obtain⟨q7,o7,e7⟩:=s2.r.addr c6.1 c6.2;refine aO J J J (cO T J J J J J e7 c6.1 c6.2) (aO J J J (aw T J J J J (iU (k:=(Fl.int .i64)) (oO s2 1) e7 c6 0 J)) (au T J (aO J J J (aw T J J J J (aH (j:=5) J J)) (au T J ?_))));obtain⟨c7,H⟩:=az H;obtain⟨q8,o8,e8⟩:=s3.r.addr c7.1 c7.2;refine aO J J J (cO T J J J J J e8 c7.1 c7.2) (aO J J J (aw T J J J J (iU (k:=(Fl.int .i64)) (oO s3 2) e8 c7 0 J)) (au T J (au T J (au T J (cZ (rx T 2 ?_))))))
 cases H;refine aq J (p1 T J [6,4,0] ⟨.nilIface,[],H5,tY,s5,J,J⟩ J)
def zm.f (err:Er):Option Int:=if(Er.isNil err)=true then(some 0) else((vi.f err (Er.eh 2)).bind λv1=>if v1=true then(some 4) else((vi.f err (Er.eh 3)).bind λv2=>if v2=true then(some 7) else(some 1)))
theorem zm.c (H:zm.f err=some r) (hG:fM 414 fc gY el F) (DH:lP 414 el err PO F):
 QU 101 [PO] [] F (ii r):=by
 unfold zm.f at H;refine aD Tryz.func101 J J (λW=>rc T 10 (br J (Jo T J J J (FN DH (j:=0) J)) (ro T 3 (cb J H (λH=>?_) (λH=>?_)))))
 ·refine rc T 8 ?_
  cases H;exact p0 T J [0] J
 refine rc T 3 (lg T J (rI (j:=0) J hG (g:=2) (by decide)) (k [] J JL H (vi.c err (Er.eh 2) _ _ · (dH hG (j:=0) J) (FN DH (j:=0) J) Jd) (λv1 H=>ro T 3 (cb J H (λH=>?_) (λH=>?_)))))
 ·refine rc T 8 ?_
  cases H;exact p0 T J [0] J
 refine rc T 3 (lg T J (rI (j:=0) J hG (g:=3) (by decide)) (k [] J JL H (vi.c err (Er.eh 3) _ _ · (dH hG (j:=0) J) (FN DH (j:=0) J) Jd) (λv2 H=>ro T 3 (cb J H (λH=>?_) (λH=>?_)))))
 ·refine rc T 8 ?_
  cases H;exact p0 T J [0] J
 refine rc T 9 ?_
 cases H;exact p0 T J [0] J
def xC.f (n:b_) (goal:Int) (cell:Int):Option (Int×Int×Int×b_):=(zl.f n goal cell).bind λv1=>(zm.f v1.2.2.1).bind λv2=>some (v1.1,v1.2.1,v2,v1.2.2.2)
def xC.R (el:Nat->Addr) (sv:Nat) (r:(Int×Int×Int×b_)) (u:Value) (G:List Hp):Prop:= ∃(H0:Hp),gy r.2.2.2 sv H0/\u=(.tuple #[(ii r.1),(ii r.2.1),(ii r.2.2.1)])/\G=[H0]
theorem xC.c (H:xC.f n goal cell=some r) (hG:fM 414 fc gY el F) (iy:gy n cN ic):
 QR 127 [(pp cN),(ii goal),(ii cell)] [ic] [] F (xC.R el cN r):=by
 unfold xC.f at H;refine aD Tryz.func127 J J (λW=>rc T 12 (kr (zl.R el cN) [] [0] J acD H (zl.c · (dH hG (j:=0) J) iy) (λv1 H=>?_)));rintro _ _ ⟨v2,H2,H3,s2,s3,rfl,rfl⟩;refine fz J (ro T 14 (k [] J SP H (zm.c · (dH hG (j:=0) J) (rB s2 (j:=1) J)) (λv2 H=>ro T 6 ?_)))
 cases H;exact p1 T J [2,0] ⟨H3,s3,J,J⟩ J
def uw.f (n:b_) (goal:Int) (bG:Int):Option (fZ×Int×b_):=(qJ.f n goal bG).bind λv1=>(zm.f v1.2.1).bind λv2=>some (v1.1,v2,v1.2.2)
def uw.R (el:Nat->Addr) (sv:Nat) (r:(fZ×Int×b_)) (u:Value) (G:List Hp):Prop:= ∃(a0:Option Addr) (n0:Nat) (H0:Hp) (a1:Option Addr) (n1:Nat) (H1:Hp) (H2:Hp),aj (Fl.int .i64) 3 r.1.fe a0 n0 H0/\aj (Fl.int .i64) 3 r.1.cy a1 n1 H1/\gy r.2.2 sv H2/\u=(.tuple #[(.agg #[(ll a0 r.1.fe n0),(ll a1 r.1.cy n1)]),(ii r.2.1)])/\G=[H0,H1,H2]
theorem uw.c (H:uw.f n goal bG=some r) (hG:fM 414 fc gY el F) (iy:gy n cN ic):
 QR 68 [(pp cN),(ii goal),(ii bG)] [ic] [] F (uw.R el cN r):=by
 unfold uw.f at H;refine aD Tryz.func68 J J (λW=>rc T 2 (nc T J (λb2=>fz J (ro T 8 (kr (qJ.R el cN) [] [0] J SN H (qJ.c · (dH hG (j:=0) J) iy) (λv1 H=>?_))))));rintro _ _ ⟨a3,n3,H3,a4,n4,H4,v5,H5,H6,s3,s4,s5,s6,rfl,rfl⟩;refine fz J (ro T 3 (nc T J (λb7=>fz J (jP T 6 J (ro T 4 (ks [6,8,9] J (fz J (rz [3] mix (bP bO) (λhg pf=>av 0 sz hg pf J (gA T 6 J J J J J J J) (ha T 3 [1] sz hg pf J (ao 2 (kh [] J SP H (zm.c · (dH hG (j:=0) J) (rB s5 (j:=4) J)) (λv2 H=>an sz (ao 3 (iX T 1 J (an sl (hb T 4 sl hg pf J (ae (rx T 2 ?_)))))))))))))))))))
 cases H;exact pb T J (.cK (j:=1) [(ll a3 v1.1.fe n3),(ll a4 v1.1.cy n4)] J J J J J J J (.tmp J .nil)) [2,2,3,0] ⟨(_,_),a3,n3,H3,a4,n4,H4,H6,s3,s4,s6,J,J⟩ J J
def vQ.f (n:b_):Option aL:=dm n.core ((Al.f).bind λv2=>some v2) (λx1=>(xe.f x1.aB).bind λv3=>some v3)
def vQ.R (r:aL) (u:Value) (G:List Hp):Prop:= ∃(a0:Option Addr) (n0:Nat) (H0:Hp),aj (Fl.int .u8) 5 r.C a0 n0 H0/\u=(.agg #[(ii r.W),(ii r.H),(ll a0 r.C n0)])/\G=[H0]
theorem vQ.c (H:vQ.f n=some r) (iy:gy n cN ic):
 QR 43 [(pp cN)] [ic] [ic] F (vQ.R r):=by
 unfold vQ.f at H;refine aD Tryz.func43 J J (λW=>rc T 2 (nc T J (λb2=>fz J (ro T 9 (eN J (rc T 3 ?_))))));obtain⟨b4,H4,yg,EO,EP,H5,s4,s5,dq⟩:=(λx=>x) iy;refine bQ 0 (congrArg some dq) (fz J ?_);rcases q1:n.core with _ |x1
 ·replace H:=eV q1 H;rw[q1] at s5;obtain⟨rfl,rfl,rfl,rfl⟩:=s5;refine rc T 4 (lf T 2 J (kr Al.R [] [] J TJ H (Al.c ·) (λv2 H=>?_)));rintro _ _ ⟨cw,n10,bX,bT,rfl,rfl⟩;refine fz J (jP T 1 J (ro T 3 ?_))
  cases H;refine cq [2,2,2] J dq (pb T J (.cK (j:=1) [(ii r.W),(ii r.H),(ll cw r.C n10)] J J J J J J J .nil) [2,2,0] ⟨(_,_),cw,n10,bX,bT,J,J⟩ J J)
 replace H:=eW q1 H;rw[q1] at s5;obtain⟨b7,H7,b8,H8,b9,H9,s7,s8,s9,rfl,rfl,rfl,ou⟩:=s5;refine bQ 4 (congrArg some ou) (fz J (rc T 4 (lf T 2 J (kr xe.R [4] [4] J TJ H (xe.c · s7) (λv3 H=>?_)))));rintro _ _ ⟨dt,n11,cA,dh,rfl,rfl⟩;refine fz J (jP T 1 J (ro T 3 ?_))
 cases H;refine cq [7,4,4] J ou (cq [2,2,3] J dq (pb T J (.cK (j:=1) [(ii r.W),(ii r.H),(ll dt r.C n11)] J J J J J J J .nil) [2,2,0] ⟨(_,_),dt,n11,cA,dh,J,J⟩ J J))
def vP.f (n:b_):Option (List Int):=dm n.core ((AO.f).bind λv2=>some v2) (λx1=>(l8.f x1.eD x1.aB).bind λv3=>some v3)
def vP.R (r:(List Int)) (u:Value) (G:List Hp):Prop:= ∃(a0:Option Addr) (n0:Nat) (H0:Hp),aj (Fl.int .i64) 3 r a0 n0 H0/\u=(ll a0 r n0)/\G=[H0]
theorem vP.c (H:vP.f n=some r) (iy:gy n cN ic):
 QR 60 [(pp cN)] [ic] [ic] F (vP.R r):=by
 unfold vP.f at H;refine aD Tryz.func60 J J (λW=>rc T 12 (eN J (rc T 3 ?_)));obtain⟨b3,H3,rW,Lg,Lh,H4,s3,s4,cm⟩:=(λx=>x) iy;refine bQ 0 (congrArg some cm) (fz J ?_);rcases q1:n.core with _ |x1
 ·replace H:=eV q1 H;rw[q1] at s4;obtain⟨rfl,rfl,rfl,rfl⟩:=s4;refine rc T 4 (lf T 1 J (kr AO.R [] [] J NC H (AO.c ·) (λv2 H=>?_)));rintro _ _ ⟨a9,n9,H9,s9,rfl,rfl⟩;refine fz J (ro T 4 ?_)
  cases H;refine cq [1,1,1] J cm (p1 T J [1,1,0] ⟨a9,n9,H9,s9,J,J⟩ J)
 replace H:=eW q1 H;rw[q1] at s4;obtain⟨b6,H6,b7,H7,b8,H8,s6,s7,s8,rfl,rfl,rfl,sH⟩:=s4;refine bQ 3 (congrArg some sH) (fz J (rc T 4 (lf T 1 J (kr l8.R [4,3] [4,3] J NC H (l8.c · s7 s6) (λv3 H=>?_)))));rintro _ _ ⟨cw,n10,bX,bT,rfl,rfl⟩;refine fz J (ro T 4 ?_)
 cases H;refine cq [6,5,3] J sH (cq [1,1,2] J cm (p1 T J [1,1,0] ⟨cw,n10,bX,bT,J,J⟩ J))
end
noncomputable section
def py.f (kind:Int):Option (AR×Bool):=if(kind==1)=true then(some ((AR.mk 0 0 true),true)) else(if(kind==2)=true then(some ((AR.mk 4 1 false),true)) else((if(kind==3)=true then(some (kind==3)) else(if(kind==4)=true then(some (kind==4)) else(some (kind==6)))).bind λx1=>if x1=true then(some ((AR.mk 4 4 false),true)) else(if(kind==5)=true then(some ((AR.mk 4 0 false),true)) else((if(kind==7)=true then(some (kind==7)) else(some (kind==8))).bind λx3=>if x3=true then(some ((AR.mk 0 0 false),true)) else(some ((AR.mk 0 0 false),false))))))
theorem py.c (H:py.f kind=some r):
 QU 111 [(ii kind)] [] F (.tuple #[(.agg #[(ii r.1.a),(ii r.1.b),(bb r.1.load)]),(bb r.2)]):=by
 unfold py.f at H;refine aD Tryz.func111 J J (λW=>rc T 2 (nc T J (λb1=>ro T 5 (nc T J (λb2=>ro T 29 (cb J H (λH=>?_) (λH=>?_)))))))
 ·refine rc T 8 (sg T 2 J (ro T 1 (ks [2,4] J (rx T 16 (lm T 2 J (sg T 1 J (ro T 1 (ro T 3 ?_))))))))
  cases H;exact pb T J (.cK (j:=1) [(ii 0),(ii 0),(bb true)] J J J J J J J (.tmp J .nil)) [0] () J J
 refine rc T 9 (cb J H (λH=>?_) (λH=>?_))
 ·refine rc T 10 (sg T 2 J (ro T 1 (sg T 2 J (ro T 1 (ks [2,4] J (rx T 14 (lm T 2 J (sg T 1 J (ro T 4 ?_)))))))))
  cases H;exact pb T J (.cK (j:=1) [(ii 4),(ii 1),(bb false)] J J J J J J J (.tmp J .nil)) [0] () J J
 refine rc T 3 (mq H [2,4,5] [0,0,0] (λz2 (x1:Bool)=>(x1=z2,[(10,(bb x1))],[])) J J (λz2 Z3 _=>?_) ?_)
 ·refine rc T 6 (cb J Z3 (λZ3=>?_) (λZ3=>?_))
  ·refine rc T 2 (am _ [0,0,0] (oi Z3) J J)
  refine rc T 6 (cb J Z3 (λZ3=>?_) (λZ3=>?_))
  ·refine rc T 2 (am _ [0,0,0] (oi Z3) J J)
  refine rc T 5 (am _ [0,0,0] (oi Z3) J J)
 rintro _ x1 rfl H;refine cb J H (λH=>?_) (λH=>?_)
 ·refine rc T 11 (sg T 2 J (ro T 5 (sg T 2 J (ro T 10 (lm T 2 J (sg T 1 J (ro T 1 (ro T 1 (ke [2,3] [0,0] J J (rx T 2 ?_))))))))))
  cases H;exact pb T J (.cK (j:=1) [(ii 4),(ii 4),(bb false)] J J J J J J J (.tmp J .nil)) [0] () J J
 refine rc T 9 (cb J H (λH=>?_) (λH=>?_))
 ·refine rc T 13 (sg T 2 J (ro T 10 (lm T 2 J (sg T 1 J (ro T 4 ?_)))))
  cases H;exact pb T J (.cK (j:=1) [(ii 4),(ii 0),(bb false)] J J J J J J J (.tmp J .nil)) [0] () J J
 refine rc T 2 (mq H [2,4] [0,0,0] (λz4 (x3:Bool)=>(x3=z4,[(16,(bb x3))],[])) J J (λz4 Z8 _=>?_) ?_)
 ·refine rc T 6 (cb J Z8 (λZ8=>?_) (λZ8=>?_))
  ·refine rc T 2 (am _ [0,0,0] (oi Z8) J J)
  refine rc T 5 (am _ [0,0,0] (oi Z8) J J)
 rintro _ x3 rfl H;refine cb J H (λH=>?_) (λH=>?_)
 ·refine rc T 19 (lm T 2 J (sg T 1 J (ro T 4 ?_)))
  cases H;exact pb T J (.cK (j:=1) [(ii 0),(ii 0),(bb false)] J J J J J J J (.tmp J .nil)) [0] () J J
 refine rc T 19 (sg T 1 J (ro T 7 ?_))
 cases H;exact pb T J (.cK (j:=1) [(ii 0),(ii 0),(bb false)] J J J J J J J (.tmp J .nil)) [0] () J J
def qL.l0:Nat->(List Int)->Int->Int->Option Int
 |0,_,_,_=>none
 |k5+1,b,x3,x4=>if x4<(List.length b:Int) then(if(0<=x4/\x4<(List.length b:Int)) then(if(0<=(aa (8*x4))) then(qL.l0 k5 b (aa (BitVec.toNat (BitVec.ofInt (IntKind.bits .i64) x3|||BitVec.ofInt (IntKind.bits .i64) (aa ((aa (rd b x4))*(2^(min (Int.toNat (aa (8*x4))) (IntKind.bits .i64)))))))) (aa (x4+1))) else none) else none) else(some x3)
def qL.f (b:(List Int)):Option Int:=qL.l0 fuel b 0 0
theorem qL.c (H:qL.f b=some r) (gW:aT (Fl.int .u8) b jW F) (gp:List.length b<=jJ):
 QU 190 [(ll jW b jJ)] [] F (ii r):=by
 unfold qL.f at H;refine aD Tryz.func190 J J (λW=>rc T 19 (lq [6,7] [0] (λ(⟨k5,x3,x4⟩:Nat×Int×Int)=>(qL.l0 k5 b x3 x4=some r,[(3,(ii x3)),(8,(ii x4))],[])) J J (fuel,0,0) [0] H J J ?_));rintro k5 ⟨x3,x4⟩ Z1;replace Z1:qL.l0 (k5+1) b x3 x4=some r:=Z1;rw[qL.l0] at Z1;refine rc T 6 (cd J Z1 (λZ1=>?_) (λZ1=>?_))
 ·refine rc T 7 ?_;obtain⟨c3,Z1⟩:=az Z1;obtain⟨q1,o1,e1⟩:=gW.addr c3.1 c3.2;refine ix T J e1 c3 (le T 0 (rO gW 0) e1 c3 J J (ro T 10 ?_));obtain⟨c4,Z1⟩:=az Z1;refine br J (Sb J J J c4) (ro T 10 (ar (_,_) [0] Z1 J J))
 refine rc T 12 ?_
 cases Z1;exact p0 T J [0] J
def AQ.f (b:(List Int)):Option (cV×Int):=if(0<=(0:Int)/\(0:Int)<(List.length b:Int)) then(if(0<=(1:Int)/\(1:Int)<=(List.length b:Int)/\(List.length b:Int)<=(List.length b:Int)) then((py.f (aa (rd b 0))).bind λv1=>if(!v1.2)=true then(some ((cV.mk 0 (aa (rd b 0)) 0 []),1)) else(if v1.1.load=true then(if(List.length (aA b 1 (List.length b:Int)):Int)<4 then(some ((cV.mk 0 0 0 []),0)) else(if(0<=(0:Int)/\(0:Int)<=(4:Int)/\(4:Int)<=(List.length (aA b 1 (List.length b:Int)):Int)) then((qL.f (aA (aA b 1 (List.length b:Int)) 0 4)).bind λv2=>if(aa ((List.length (aA b 1 (List.length b:Int)):Int)-4))<v2 then(some ((cV.mk 0 0 0 []),0)) else(if(0<=(4:Int)/\(4:Int)<=(aa (4+v2))/\(aa (4+v2))<=(List.length (aA b 1 (List.length b:Int)):Int)) then(if(List.length ([]:List Int)+List.length (aA (aA b 1 (List.length b:Int)) 4 (aa (4+v2)))<=1099511627776) then(some ((cV.mk (aa (rd b 0)) 0 0 ([]++(aA (aA b 1 (List.length b:Int)) 4 (aa (4+v2))))),(aa (5+v2)))) else none) else none)) else none)) else(if(List.length (aA b 1 (List.length b:Int)):Int)<(aa (v1.1.a+v1.1.b)) then(some ((cV.mk 0 0 0 []),0)) else(if(0<=(0:Int)/\(0:Int)<=v1.1.a/\v1.1.a<=(List.length (aA b 1 (List.length b:Int)):Int)) then(if(0<=v1.1.a/\v1.1.a<=(aa (v1.1.a+v1.1.b))/\(aa (v1.1.a+v1.1.b))<=(List.length (aA b 1 (List.length b:Int)):Int)) then((qL.f (aA (aA b 1 (List.length b:Int)) 0 v1.1.a)).bind λv3=>(qL.f (aA (aA b 1 (List.length b:Int)) v1.1.a (aa (v1.1.a+v1.1.b)))).bind λv4=>some ((cV.mk (aa (rd b 0)) v3 v4 []),(aa ((aa (1+v1.1.a))+v1.1.b)))) else none) else none)))) else none) else none
def AQ.R (r:(cV×Int)) (u:Value) (G:List Hp):Prop:= ∃(a0:Option Addr) (n0:Nat) (H0:Hp),aj (Fl.int .u8) 5 r.1.Map a0 n0 H0/\u=(.tuple #[(.agg #[(ii r.1.Kind),(ii r.1.A),(ii r.1.B),(ll a0 r.1.Map n0)]),(ii r.2)])/\G=[H0]
theorem AQ.c (H:AQ.f b=some r) (gW:aT (Fl.int .u8) b jW F) (gp:List.length b<=jJ):
 QR 146 [(ll jW b jJ)] [] [] F (AQ.R r):=by
 unfold AQ.f at H;refine aD Tryz.func146 J J (λW=>rc T 2 (nc T J (λb1=>ro T 4 (du mix ay (au T J ?_)))));obtain⟨c1,H⟩:=az H;obtain⟨q2,o2,e2⟩:=gW.addr c1.1 c1.2;refine aO J J J (cO T J J J J J e2 c1.1 c1.2) (aO J J J (aw T J J J J (iU (k:=(Fl.int .u8)) (rO gW 0) e2 c1 0 J)) (au T J (au T J ?_)));obtain⟨c2,H⟩:=az H;refine aO J J J (ko T J J J J J J c2 gp) (au T J (au T J (cZ (rx T 4 (k [] J M9 H (py.c ·) (λv1 H=>ro T 3 (nc T J (λb3=>sg T 2 J (ro T 10 (cb J H (λH=>?_) (λH=>?_)))))))))))
 ·refine rc T 4 (sg T 1 J (ro T 2 (ke [2,3] [0,0] J J (rx T 3 ?_))))
  cases H;refine bw (pb T J (.cK (j:=1) [(ii 0),(ii (aa (rd b 0))),(ii 0),nl] J J J J J J J (.tmp J .nil)) [2,0] ⟨(_,_),none,0,[],aj.nil,J,J⟩ J J)
 refine rc T 6 (lf T 2 J (ro T 2 (cb J H (λH=>?_) (λH=>?_))))
 ·refine rc T 8 (cd J H (λH=>?_) (λH=>?_))
  ·refine rc T 3 (sg T 1 J (ro T 6 ?_))
   cases H;refine bw (pb T J (.cK (j:=1) [(ii 0),(ii 0),(ii 0),nl] J J J J J J J (.tmp J .nil)) [3,0] ⟨(_,_),none,0,[],aj.nil,J,J⟩ J J)
  refine rc T 5 ?_;obtain⟨c7,H⟩:=az H;refine br J (ko T J J J J J J c7 (mz c2 gp)) (k [] J Nf H (qL.c · (mW (mW (rO gW 0) c2 gp) c7 (mz c2 gp)) (mz c7 (mz c2 gp))) (λv2 H=>ro T 13 (cd J H (λH=>?_) (λH=>?_))))
  ·refine rc T 3 (sg T 1 J (ro T 6 ?_))
   cases H;refine bw (pb T J (.cK (j:=1) [(ii 0),(ii 0),(ii 0),nl] J J J J J J J (.tmp J .nil)) [3,0] ⟨(_,_),none,0,[],aj.nil,J,J⟩ J J)
  refine rc T 8 ?_;obtain⟨iG,H⟩:=az H;refine br J (ko T J J J J J J iG (mz c2 gp)) (bw ?_);obtain⟨dG,H⟩:=az H;refine aX (d_ (k:=(Fl.int .u8)) (xs:=([]:List Int)) T (g:=3) J J J J J J J J J J aj.nil (mW (mW (rO gW 0) c2 gp) iG (mz c2 gp)) dG J (λa8 n8 H8 s8=>ro T 3 (sg T 1 J (ro T 2 (ke [2,3] [0,0,1] J J (rx T 3 ?_))))))
  cases H;exact pb T J (.cK (j:=1) [(ii (aa (rd b 0))),(ii 0),(ii 0),(ll a8 ([]++(aA (aA b 1 (List.length b:Int)) 4 (aa (4+v2)))) n8)] J J J J J J J (.tmp J .nil)) [2,0] ⟨(_,_),a8,n8,H8,s8,J,J⟩ J J
 refine rc T 8 (lf T 2 J (ro T 1 (lf T 2 J (ro T 4 (cd J H (λH=>?_) (λH=>?_))))))
 ·refine rc T 3 (sg T 1 J (ro T 5 ?_))
  cases H;refine bw (pb T J (.cK (j:=1) [(ii 0),(ii 0),(ii 0),nl] J J J J J J J (.tmp J .nil)) [3,0] ⟨(_,_),none,0,[],aj.nil,J,J⟩ J J)
 refine rc T 3 (ks [2,4,5,6] J (fz J (rg [] [0,1] mix (bP bO) (λhg pf=>ha T 22 [0,1,2] (so [0,1]) hg pf J (av 3 (so [0,1]) hg pf J (aw T J J J J (aH (j:=1) J J)) ?_)))));obtain⟨i_,H⟩:=az H;refine av 4 (so [0,1]) hg pf J (ko T J J J J J J i_ (mz c2 gp)) (ha T 18 [6,7] (so [0,1]) hg pf J (av 8 (so [0,1]) hg pf J (aw T J J J J (aH (j:=1) J J)) (ha T 16 [9] (so [0,1]) hg pf J (av 10 (so [0,1]) hg pf J (aw T J J J J (aH (j:=1) J J)) (ha T 14 [11] (so [0,1]) hg pf J (av 12 (so [0,1]) hg pf J (aw T J J J J (aH (j:=1) J J)) (ha T 12 [13] (so [0,1]) hg pf J ?_)))))));obtain⟨pa,H⟩:=az H;refine av 14 (so [0,1]) hg pf J (ko T J J J J J J pa (mz c2 gp)) (ha T 10 [17] (so [0,1]) hg pf J (av 18 (so [0,1]) hg pf J (aw T J J J J (aH (j:=1) J J)) (ha T 7 [19,20] (so [0,1]) hg pf J (av 21 (so [0,1]) hg pf J (aw T J J J J (aH (j:=1) J J)) (ha T 5 [22] (so [0,1]) hg pf J (ao 5 (kh [] J Nf H (qL.c · (mW (mW (rO gW 0) c2 gp) i_ (mz c2 gp)) (mz i_ (mz c2 gp))) (λv3 H=>an (so [0,1]) (ao 15 (kh [] J Nf H (qL.c · (mW (mW (rO gW 0) c2 gp) pa (mz c2 gp)) (mz pa (mz c2 gp))) (λv4 H=>an (so [0,1]) (ha T 2 [16] (so [0,1]) hg pf J (ao 23 (sf T 1 J (an (so [0,1]) (ha T 0 [24] (so [0,1]) hg pf J (ae (rx T 1 (rc T 1 ?_)))))))))))))))))))
 cases H;refine bw (pb T J (.cK (j:=1) [(ii (aa (rd b 0))),(ii v3),(ii v4),nl] J J J J J J J (.tmp J .nil)) [3,0] ⟨(_,_),none,0,[],aj.nil,J,J⟩ J J)
def G_.f (b:(List Int)):Option Bool:=if((List.length b:Int)==0)=true then(some false) else((AQ.f b).bind λv1=>some (v1.2==0))
theorem G_.c (H:G_.f b=some r) (gW:aT (Fl.int .u8) b jW F) (gp:List.length b<=jJ):
 QU 110 [(ll jW b jJ)] [] F (bb r):=by
 unfold G_.f at H;refine aD Tryz.func110 J J (λW=>rc T 13 (cb J H (λH=>?_) (λH=>?_)))
 ·refine rc T 7 ?_
  cases H;exact p0 T J [0] J
 refine rc T 5 (kr AQ.R [] [] J acw H (AQ.c · (rO gW 0) gp) (λv1 H=>?_));rintro _ _ ⟨a1,n1,H1,s1,rfl,rfl⟩;refine fz J (ro T 3 (nc T J (λb2=>sg T 2 J (ro T 11 ?_))))
 cases H;exact p0 T J [0] J
def rL.f (n:Int) (ai:Int):Option Bool:=if n≥0 then(if(0<=(aa (8*ai))) then(some (decide (n<(aa (1*(2^(min (Int.toNat (aa (8*ai))) (IntKind.bits .i64)))))))) else none) else(some false)
theorem rL.c (H:rL.f n ai=some r):
 QU 112 [(ii n),(ii ai)] [] F (bb r):=by
 unfold rL.f at H;refine aD Tryz.func112 J J (λW=>rc T 10 (ad 7 J H (λH=>?_) (λH=>?_)))
 ·refine ro T 3 ?_;obtain⟨c2,H⟩:=az H;refine br J (Sb J J J c2) (ro T 6 ?_)
  cases H;exact p0 T J [0] J
 refine ro T 10 ?_
 cases H;exact p0 T J [0] J
def CJ.f (o:cV):Option Bool:=if(o.Kind==0)=true then(if(o.A==(-1))=true then((if(o.B==0)=true then((G_.f o.Map).bind λv3=>some v3) else(some false)).bind λx1=>some x1) else((py.f o.A).bind λv4=>((rL.f o.A 1).bind λv7=>if(v7&&(!v4.2))=true then(if(o.B==0)=true then(some ((List.length o.Map:Int)==0)) else(some false)) else(some false)).bind λx5=>some x5)) else((py.f o.Kind).bind λv8=>(if v8.2=true then((rL.f o.A v8.1.a).bind λv11=>if v11=true then((rL.f o.B v8.1.b).bind λv12=>if v12=true then(if((List.length o.Map:Int)==0)=true then(some true) else(if v8.1.load=true then(some (decide ((List.length o.Map:Int)<=4294967295))) else(some false))) else(some false)) else(some false)) else(some false)).bind λx9=>some x9)
theorem CJ.c (H:CJ.f o=some r) (Am:aT (Fl.int .u8) o.Map BI F) (Ae:List.length o.Map<=CC):
 QU 82 [(.agg #[(ii o.Kind),(ii o.A),(ii o.B),(ll BI o.Map CC)])] [] F (bb r):=by
 unfold CJ.f at H;refine aD Tryz.func82 J J (λW=>rc T 2 (nc T J (λb1=>ro T 7 (lf T 1 J (ro T 3 (cb J H (λH=>?_) (λH=>?_)))))))
 ·refine rc T 4 (lf T 1 J (ro T 3 (cb J H (λH=>?_) (λH=>?_))))
  ·refine mq H [] [0] (λz2 (x1:Bool)=>(x1=z2,[(2,(bb x1))],[])) J J (λz2 Z3 _=>?_) ?_
   ·refine rc T 2 (lf T 1 J (ro T 2 (ab 16 J Z3 (λZ3=>?_) (λZ3=>?_))))
    ·refine ro T 1 (lf T 1 J (k [] J acg Z3 (G_.c · (rO Am 0) Ae) (λv3 Z3=>ro T 4 (am _ [0] (oi Z3) J J))))
    refine ro T 7 (am _ [0] (oi Z3) J J)
   rintro _ x1 rfl H;refine rc T 3 ?_
   cases H;exact p0 T J [0] J
  refine rc T 5 (lf T 1 J (k [] J M9 H (py.c ·) (λv4 H=>ro T 3 (nc T J (λb2=>sg T 2 J (ro T 3 (mq H [] [0] (λz6 (x5:Bool)=>(x5=z6,[(2,(bb x5))],[])) J J (λz6 Z7 _=>?_) ?_)))))))
  ·refine rc T 2 (lf T 1 J (k [] J M_ Z7 (rL.c ·) (λv7 Z7=>ro T 1 (ga T [4,5,6] 30 [1] 33 J J J J J J J (ro T 1 (ab 34 J Z7 (λZ7=>?_) (λZ7=>?_)))))))
   ·refine ro T 1 (lf T 1 J (ro T 3 (ab 39 J Z7 (λZ7=>?_) (λZ7=>?_))))
    ·refine ro T 1 (lf T 1 J (ro T 6 (am _ [0] (oi Z7) J J)))
    refine ro T 8 (am _ [0] (oi Z7) J J)
   refine ro T 13 (am _ [0] (oi Z7) J J)
  rintro _ x5 rfl H;refine rc T 2 ?_
  cases H;exact p0 T J [0] J
 refine rc T 5 (lf T 1 J (k [] J M9 H (py.c ·) (λv8 H=>ro T 3 (nc T J (λb3=>sg T 2 J (ro T 3 (mq H [] [0] (λnZ (x9:Bool)=>(x9=nZ,[(2,(bb x9))],[])) J J (λnZ bt _=>?_) ?_)))))))
 ·refine rc T 3 (ab 52 J bt (λbt=>?_) (λbt=>?_))
  ·refine ro T 1 (lf T 1 J (ro T 1 (lf T 2 J (k [] J M_ bt (rL.c ·) (λv11 bt=>ro T 2 (ab 59 J bt (λbt=>?_) (λbt=>?_)))))))
   ·refine ro T 1 (lf T 1 J (ro T 1 (lf T 2 J (k [] J M_ bt (rL.c ·) (λv12 bt=>ro T 2 (ab 66 J bt (λbt=>?_) (λbt=>?_)))))))
    ·refine ro T 1 (lf T 1 J (ro T 3 (ab 71 J bt (λbt=>?_) (λbt=>?_))))
     ·refine ro T 13 (am _ [0] (oi bt) J J)
     refine ro T 1 (lf T 2 J (ro T 1 (ab 74 J bt (λbt=>?_) (λbt=>?_))))
     ·refine ro T 1 (lf T 1 J (ro T 8 (am _ [0] (oi bt) J J)))
     refine ro T 10 (am _ [0] (oi bt) J J)
    refine ro T 18 (am _ [0] (oi bt) J J)
   refine ro T 25 (am _ [0] (oi bt) J J)
  refine ro T 32 (am _ [0] (oi bt) J J)
 rintro _ x9 rfl H;refine rc T 1 ?_
 cases H;exact p0 T J [0] J
end
end Go.Proofs.YthodkonhneebbaaGreatDoor
