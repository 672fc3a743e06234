/- What the functions of some packages compute, each as a function of plain Lean, with its contract. No condition. -/
import Derived.Test.YthodkonhneebbaaGreatDoorKFT
import Derived.Test.YthodkonhneebbaaGreatDoorKF6
import Derived.Test.YthodkonhneebbaaGreatDoorKF7
import Derived.Test.YthodkonhneebbaaGreatDoorKF11
import Derived.Test.YthodkonhneebbaaGreatDoorKF10
namespace Go.Hx
section
variable {W : World} {P : Program} {n : Nat} {F K : Act -> World -> Prop} {Q : Exit -> Act -> World -> Prop} {env : Env} {HL : List Hp} {ops : Array Oper} {i : Nat} {rest : List Nat}
def gqF (js:List Nat) (HL:List Hp):Option (List Hp):=fH (sR js HL++[(sA js HL).flatten])
theorem gq (js:List Nat) {jU:List Hp} (hs:gqF js HL=some jU) (h:aG W n F env jU):aG W n F env HL:=gi js (AU js HL) (by rw[BJ hs];exact h)
def QQ (js:List Nat) (HL:List Hp):Option (List Hp×List Hp):=match fH (sA js HL),fH (sR js HL) with
 |some A,some R=>some (A,R)
 |_,_=>none
theorem cq (js:List Nat) {As R:List Hp} {H:Hp} (hs:QQ js HL=some (As,R)) (hH:H=As.flatten) (h:aG W n F env (R++[H])):aG W n F env HL:=by
 unfold QQ at hs;split at hs
 ·rename_i A R' h1 h2;simp only[Option.some.injEq,Prod.mk.injEq] at hs;obtain⟨rfl,rfl⟩:=hs;exact dj js (by rw[AU,BJ h1,BJ h2]) hH h
 ·cases hs
theorem aq {jU:List Hp} (hs:fH (HL++[[]])=some jU) (h:aG W n F env jU):aG W n F env HL:=bq (by rw[BJ hs];exact h)
theorem rq (late js:List Nat) {id:Nat} {H0:List Hp} (h0:nH js HL=some H0) (hm:P.follows .mixedOrders=true) (j4:PF Q)
 (h:oV ops (Dj ops)=true->PF Q->aG W n (gI P ops Q (SO W H0) late ops.size (Array.replicate ops.size false)) env HL) (hg:oV ops (Dj ops)=true:=by kernel_rfl):
 aG W n ((Code.region id ops true).wp P Q) env HL:=rg late js hm j4 (by rw[GM h0];exact h) hg
def KD (T:Ty P) (ops:Array Oper) (env:Env) (i j:Nat) (HL:List Hp):Option (Nat×Nat×List Hp):=match Hn T ops env i j HL with
 |some (a,b,L)=>match fH L with
  |some L'=>some (a,b,L')
  |none=>none
 |none=>none
theorem Wr {T:Ty P} {j:Nat} {a b:Nat} {jU:List Hp} (h:KD T ops env i j HL=some (a,b,jU)):Hn T ops env i j HL=some (a,b,jU):=by
 unfold KD at h;split at h
 ·rename_i a' b' L h1;split at h
  ·rename_i L' h2;simp only[Option.some.injEq,Prod.mk.injEq] at h;obtain⟨rfl,rfl,rfl⟩:=h;rw[h1,BJ h2]
  ·cases h
 ·cases h
theorem iX (T:Ty P) {b:Nat} {jU:List Hp} (j:Nat) (h1:KD T ops env i j HL=some (b,b,jU)) (h:aG W n K env jU):aG W n (wpOp P ops Q i K) env HL:=sf T j (Wr h1) h
theorem jR (T:Ty P) {b:Nat} {jU:List Hp} (j:Nat) (h1:KD T ops env i j HL=some (b,b,jU)) (h:aG W n (wpOps P ops Q rest) env jU):aG W n (wpOps P ops Q (i::rest)) env HL:=sg T j (Wr h1) h
theorem aeE {A B X:Hp} (h:X=List.flatten [A,B]): ∃C:Hp,C=B/\X=List.flatten [A,C]:=⟨_,J,h⟩
end
end Go.Hx
namespace Go.Proofs.YthodkonhneebbaaGreatDoor
open Go.Hx
set_option maxRecDepth 100000
set_option linter.unusedSimpArgs false
set_option linter.unusedVariables false
set_option maxHeartbeats 4000000
set_option autoImplicit true
set_option relaxedAutoImplicit true
noncomputable section
def xf.f (ag:Int):Option (Option bZ):=if ag<1 then(some none) else((xu.f ag).bind λv1=>dq v1 (none) (λeX=>some (some (bZ.mk none eX (gx.mk 0 0 0 0 0 0)))))
def xf.R (r:(Option bZ)) (u:Value) (G:List Hp):Prop:= ∃(u0:Value) (G0:List Hp),Xm r u0 G0/\u=u0/\G=G0
theorem xf.c (H:xf.f ag=some r):
 QR 51 [(ii ag)] [] [] F (xf.R r):=by
 unfold xf.f at H;refine aB Tryz.func51 J J (λW=>rc T 12 (cd J H (λH=>?_) (λH=>?_)))
 ·refine rc T 7 ?_
  cases H;exact p1 T J [0] ⟨_,_,⟨J,J⟩,J,J⟩ J
 refine rc T 5 (kr xu.R [] [] J adB H (xu.c ·) (λv1 H=>?_));rintro _ _ ⟨_,_,O3,rfl,rfl⟩;rcases v1 with _ |eX
 ·replace H:=eT J H
  cases H
 replace H:=eU J H;obtain⟨b1,H1,s1,rfl,rfl⟩:=O3;refine ro T 1 (nc T J (λb2=>fz J (ro T 4 ?_)))
 cases H;refine aq J (gq [2,1,1] J (p1 T J [1,0] ⟨_,_,⟨b2,(List.flatten [(cl b2 135 [(.pointer none),(.pointer none),(.pointer none),(pp b1),(uu 0),(uu 0),(uu 0),(uu 0),(uu 0),(uu 0)]),H1,[]]),(show gL (bZ.mk none eX (gx.mk 0 0 0 0 0 0)) b2 (List.flatten [(cl b2 135 [(.pointer none),(.pointer none),(.pointer none),(pp b1),(uu 0),(uu 0),(uu 0),(uu 0),(uu 0),(uu 0)]),H1,[]]) from⟨b1,H1,(.pointer none),(.pointer none),(.pointer none),[],s1,(show ux none (.pointer none) (.pointer none) (.pointer none) [] from⟨J,J,J,J⟩),J⟩),J,J⟩,J,J⟩ J))
def sI.f (n:bZ) (cell:Int):Option Int:=dq n.core (none) (λx1=>(jf.f x1.aK cell).bind λv2=>some v2)
theorem sI.c (H:sI.f n cell=some r) (iW:gL n cY ja):
 QU 113 [(pp cY),(ii cell)] [ja] F (ii r):=by
 unfold sI.f at H;refine aB Tryz.func113 J J (λW=>rc T 12 (eD J (rc T 3 ?_)));obtain⟨b3,H3,tj,Ph,Pj,H4,s3,s4,ck⟩:=(λx=>x) iW;refine bP 0 (congrArg some ck) (fz J ?_);rcases q1:n.core with _ |x1
 ·replace H:=eT q1 H
  cases H
 replace H:=eU q1 H;rw[q1] at s4;obtain⟨b6,H6,b7,H7,b8,H8,s6,s7,s8,rfl,rfl,rfl,su⟩:=s4;refine bP 3 (congrArg some su) (fz J (rc T 4 (lf T 1 J (ro T 1 (k [3] J uZ H (jf.c · s6) (λv2 H=>ro T 4 ?_))))))
 cases H;refine cq [3,3,3] J su (cq [1,1,1] J ck (p0 T J [1,0] J))
def yR.f (n:bZ):Option gx:=dq n.core ((GF.f).bind λv2=>(GZ.f).bind λv3=>some (gx.mk v2 v3 0 0 0 0)) (λx1=>(GG.f x1.iz x1.aK).bind λv4=>(G1.f x1.iV x1.iz x1.aK).bind λv5=>some (gx.mk v4 v5 0 0 0 0))
theorem yR.c (H:yR.f n=some r) (iW:gL n cY ja):
 QU 79 [(pp cY)] [ja] F (.agg #[(uu r.bC),(uu r.bD),(uu r.bA),(uu r.bz),(uu r.bJ),(uu r.bF)]):=by
 unfold yR.f at H;refine aB Tryz.func79 J J (λW=>rc T 2 (nc T J (λb2=>fz J (ro T 3 ?_))));obtain⟨b4,H4,xL,EB,EC,H5,s4,s5,dp⟩:=(λx=>x) iW;refine bP 0 (congrArg some dp) (fz J ?_);rcases q1:n.core with _ |x1
 ·replace H:=eT q1 H;rw[q1] at s5;obtain⟨rfl,rfl,rfl,rfl⟩:=s5;refine ks [0,2] J (fz J (rz [11] mix (bO bN) (λhg pf=>ha T 9 [0,1,2] sz hg pf J (av 3 sz hg pf J (aw T J J J J (aF (j:=2) J J)) (ha T 5 [5,6,7] sz hg pf J (av 8 sz hg pf J (aw T J J J J (aF (j:=2) J J)) (ao 4 (kh [] J Sb H (GF.c ·) (λv2 H=>an sz (ao 9 (kh [] J Sc H (GZ.c ·) (λv3 H=>an sz (ha T 1 [10] sz hg pf J (ao 11 (iX T 1 J (an sl (ae (rx T 2 ?_))))))))))))))))))
  cases H;refine cq [2,2,2] J dp (pb T J (.cO (j:=1) [(uu v2),(uu v3),(uu 0),(uu 0),(uu 0),(uu 0)] J J J J J J J .nil) [2,0] () J J)
 replace H:=eU q1 H;rw[q1] at s5;obtain⟨b7,H7,b8,H8,b9,H9,s7,s8,s9,rfl,rfl,rfl,oa⟩:=s5;refine bP 4 (congrArg some oa) (fz J (ks [0,2] J (fz J (rz [11] mix (bO bN) (λhg pf=>ha T 9 [0,1,2] sz hg pf J (av 3 sz hg pf J (aw T J J J J (aF (j:=2) J J)) (ha T 5 [5,6,7] sz hg pf J (av 8 sz hg pf J (aw T J J J J (aF (j:=2) J J)) (ao 4 (kh [5,4] J Sb H (GG.c · s8 s7) (λv4 H=>an sz (ao 9 (kh [6,5,4] J Sc H (G1.c · s9 s8 s7) (λv5 H=>an sz (ha T 1 [10] sz hg pf J (ao 11 (iX T 1 J (an sl (ae (rx T 2 ?_))))))))))))))))))))
 cases H;refine cq [4,4,4] J oa (cq [2,2,2] J dp (pb T J (.cO (j:=1) [(uu v4),(uu v5),(uu 0),(uu 0),(uu 0),(uu 0)] J J J J J J J .nil) [2,0] () J J))
def xd.f (n:bZ) (m:aJ):Option (Int×bZ):=(yb.f m).bind λv1=>if(!v1)=true then(some (6,n)) else((yR.f n).bind λv2=>(mu.f n.aV v2).bind λv3=>dq n.core ((FC.f).bind λv5=>(lS.f m v5).bind λv6=>dq v6 (none) (λxO=>(rE.f xO).bind λv7=>dq v7 (none) (λqV=>(sN.f qV xO).bind λv8=>dq v8 (none) (λEH=>(pz.f n.fJ).bind λv9=>some (0,(bZ.mk (some (eI.mk xO qV EH)) v9 v3)))))) (λx4=>(oW.f x4.aK).bind λv10=>(lS.f m v10).bind λv11=>dq v11 (none) (λzw=>(rE.f zw).bind λv12=>dq v12 (none) (λHR=>(sN.f HR zw).bind λfv=>dq fv (none) (λK0=>(pz.f n.fJ).bind λbY=>some (0,(bZ.mk (some (eI.mk zw HR K0)) bY v3)))))))
def xd.R (r8:Nat) (r:(Int×bZ)) (u:Value) (G:List Hp):Prop:= ∃(H0:Hp),gL r.2 r8 H0/\u=(ii r.1)/\G=[H0]
theorem xd.c (H:xd.f n m=some r) (iW:gL n cY ja) (sv:aT (Fl.int .u8) m.C oE F) (uI:List.length m.C<=oo):
 QR 115 [(pp cY),(.agg #[(ii m.W),(ii m.H),(ll oE m.C oo)])] [ja] [] F (xd.R cY r):=by
 unfold xd.f at H;refine aB Tryz.func115 J J (λW=>rc T 2 (nc T J (λb2=>fz J (ro T 12 (eD J (rc T 2 (lm T 2 J (k [] J Sj H (yb.c · (rO sv 1) uI) (λv1 H=>ro T 4 (cb J H (λH=>?_) (λH=>?_)))))))))))
 ·refine rc T 8 ?_
  cases H;exact p1 T J [0,0] ⟨ja,iW,J,J⟩ J
 refine rc T 4 ?_;obtain⟨b4,H4,xL,EB,EC,H5,s4,s5,dp⟩:=(λx=>x) iW;refine bP 0 (congrArg some dp) (fz J (ks [0,3] J (fz J (rz [10] mix (bO bN) (λhg pf=>ha T 7 [0,1,2,3] sz hg pf J (av 4 sz hg pf J (gA T 2 J J J J J J J) (ha T 5 [5] sz hg pf J (ao 6 ?_))))))));obtain⟨v2,V3,H⟩:=gj H;refine Iz (As:=[(cl cY 135 [xL,EB,EC,(pp b4),(uu n.aV.bC),(uu n.aV.bD),(uu n.aV.bA),(uu n.aV.bz),(uu n.aV.bJ),(uu n.aV.bF)]),H4,H5]) [2,2,2] J J J J S7 J J (IJ (A:=[ja]) (by simp only[dp,List.flatten_cons,List.flatten_append,List.flatten_nil,List.append_nil,List.append_assoc]) (yR.c V3 iW)) (an sz (ao 7 (kh [] J M6 H (mu.c ·) (λv3 H=>an sz (ha T 1 [8,9] sz hg pf J (ao 10 (iX T 2 J (an sl (ae (rx T 2 ?_))))))))))
 rcases q5:n.core with _ |x4
 ·replace H:=eT q5 H;rw[q5] at s5;obtain⟨rfl,rfl,rfl,rfl⟩:=s5;refine ks [0,3] J (fz J (rq [10] [0,0,0,0,0] J mix (bO bN) (λhg pf=>ha T 10 [0] sz hg pf J (av 1 sz hg pf J (gA T 1 J J J J J J J) (ha T 6 [2,3,4] sz hg pf J (av 5 sz hg pf J (aw T J J J J (aF (j:=2) J J)) (ao 6 (kh [] J BO H (FC.c ·) (λv5 H=>an sz (ao 7 (kR lS.R [] [] J Sk H (lS.c · (rO sv 0) uI) (λv6 H=>?_))))))))))));rintro _ _ ⟨_,_,O8,rfl,rfl⟩;rcases v6 with _ |xO
  ·replace H:=eT J H
   cases H
  replace H:=eU J H;obtain⟨fN,bX,bS,rfl,rfl⟩:=O8;refine an (so [0,0,0,0,0]) (ha T 1 [8,9] (so [0,0,0,0,0]) hg pf J (ao 10 (iX T 2 J (an sl (ae (rx T 7 (lf T 2 J (kr (rE.R fN) [5] [5] J Sl H (rE.c · bS) (λv7 H=>?_)))))))));rintro _ _ ⟨_,_,K8,rfl,rfl⟩;rcases v7 with _ |qV
  ·replace H:=eT J H
   cases H
  replace H:=eU J H;obtain⟨jG,cB,cS,rfl,rfl⟩:=K8;refine ro T 2 (jR T 2 J (ro T 3 (ke [0] [0,1,1,1,1,1] J J (fz J (rq [12] [0,0,0,0,0,0] J mix (bO bN) (λhg pf=>ha T 9 [0,1,2,3] sz hg pf J (av 4 sz hg pf J (aw T J J J J (aF (j:=1) J J)) (ha T 5 [5,6,7] sz hg pf J (av 8 sz hg pf J (aw T J J J J (aF (j:=1) J J)) (ao 9 (kR (sN.R jG fN) [4,4] [4,4] J Sm H (sN.c · cS bS) (λv8 H=>?_))))))))))));rintro _ _ ⟨_,_,Xc,rfl,rfl⟩;rcases v8 with _ |EH
  ·replace H:=eT J H
   cases H
  replace H:=eU J H;obtain⟨kL,dt,dw,rfl,rfl⟩:=Xc;refine an (so [0,0,0,0,1,1]) (ha T 1 [10,11] (so [0,0,0,0,1,1]) hg pf J (ao 12 (iX T 1 J (an sl (ae (rx T 6 (lf T 1 J (kr (pz.R b4) [] [2] J MM H (pz.c · s4) (λv9 H=>?_)))))))));rintro _ _ ⟨ei,cz,rfl,rfl⟩;refine fz J (ro T 8 ?_)
  cases H;refine gq [5,4,3] J (gq [1,2,2] J (p1 T J [2,0] ⟨(List.flatten [(cl cY 135 [(pp fN),(pp jG),(pp kL),(pp b4),(uu v3.bC),(uu v3.bD),(uu v3.bA),(uu v3.bz),(uu v3.bJ),(uu v3.bF)]),ei,(List.flatten [bX,cB,dt])]),(show gL (bZ.mk (some (eI.mk xO qV EH)) v9 v3) cY (List.flatten [(cl cY 135 [(pp fN),(pp jG),(pp kL),(pp b4),(uu v3.bC),(uu v3.bD),(uu v3.bA),(uu v3.bz),(uu v3.bJ),(uu v3.bF)]),ei,(List.flatten [bX,cB,dt])]) from⟨b4,ei,(pp fN),(pp jG),(pp kL),(List.flatten [bX,cB,dt]),cz,(show ux (some (eI.mk xO qV EH)) (pp fN) (pp jG) (pp kL) (List.flatten [bX,cB,dt]) from⟨fN,bX,jG,cB,kL,dt,bS,cS,dw,J,J,J,J⟩),J⟩),J,J⟩ J))
 replace H:=eU q5 H;rw[q5] at s5;obtain⟨b7,H7,b8,H8,b9,H9,s7,s8,s9,rfl,rfl,rfl,oa⟩:=s5;refine bP 4 (congrArg some oa) (fz J (ks [0,3] J (fz J (rq [10] [0,0,0,0,0,0,0] J mix (bO bN) (λhg pf=>ha T 10 [0] sz hg pf J (av 1 sz hg pf J (gA T 1 J J J J J J J) (ha T 6 [2,3,4] sz hg pf J (av 5 sz hg pf J (aw T J J J J (aF (j:=2) J J)) (ao 6 (kh [4] J BO H (oW.c · s7) (λv10 H=>an sz (ao 7 (kR lS.R [] [] J Sk H (lS.c · (rO sv 0) uI) (λv11 H=>?_))))))))))))));rintro _ _ ⟨_,_,Xd,rfl,rfl⟩;rcases v11 with _ |zw
 ·replace H:=eT J H
  cases H
 replace H:=eU J H;obtain⟨mZ,dJ,dP,rfl,rfl⟩:=Xd;refine an (so [0,0,0,0,0,0,0]) (ha T 1 [8,9] (so [0,0,0,0,0,0,0]) hg pf J (ao 10 (iX T 2 J (an sl (ae (rx T 7 (lf T 2 J (kr (rE.R mZ) [7] [7] J Sl H (rE.c · dP) (λv12 H=>?_)))))))));rintro _ _ ⟨_,_,Xe,rfl,rfl⟩;rcases v12 with _ |HR
 ·replace H:=eT J H
  cases H
 replace H:=eU J H;obtain⟨qh,fX,fR,rfl,rfl⟩:=Xe;refine ro T 2 (jR T 2 J (ro T 3 (ke [0] [0,1,1,1,1,1,1,1] J J (fz J (rq [12] [0,0,0,0,0,0,0,0] J mix (bO bN) (λhg pf=>ha T 9 [0,1,2,3] sz hg pf J (av 4 sz hg pf J (aw T J J J J (aF (j:=1) J J)) (ha T 5 [5,6,7] sz hg pf J (av 8 sz hg pf J (aw T J J J J (aF (j:=1) J J)) (ao 9 (kR (sN.R qh mZ) [6,6] [6,6] J Sm H (sN.c · fR dP) (λfv H=>?_))))))))))));rintro _ _ ⟨_,_,Xf,rfl,rfl⟩;rcases fv with _ |K0
 ·replace H:=eT J H
  cases H
 replace H:=eU J H;obtain⟨Bx,ek,fq,rfl,rfl⟩:=Xf;refine an (so [0,0,0,0,0,0,1,1]) (ha T 1 [10,11] (so [0,0,0,0,0,0,1,1]) hg pf J (ao 12 (iX T 1 J (an sl (ae (rx T 6 (lf T 1 J (kr (pz.R b4) [] [2] J MM H (pz.c · s4) (λbY H=>?_)))))))));rintro _ _ ⟨fc,ft,rfl,rfl⟩;refine fz J (ro T 8 ?_)
 cases H;refine gq [7,6,5] J (gq [1,4,4] J (p1 T J [4,0] ⟨(List.flatten [(cl cY 135 [(pp mZ),(pp qh),(pp Bx),(pp b4),(uu v3.bC),(uu v3.bD),(uu v3.bA),(uu v3.bz),(uu v3.bJ),(uu v3.bF)]),fc,(List.flatten [dJ,fX,ek])]),(show gL (bZ.mk (some (eI.mk zw HR K0)) bY v3) cY (List.flatten [(cl cY 135 [(pp mZ),(pp qh),(pp Bx),(pp b4),(uu v3.bC),(uu v3.bD),(uu v3.bA),(uu v3.bz),(uu v3.bJ),(uu v3.bF)]),fc,(List.flatten [dJ,fX,ek])]) from⟨b4,fc,(pp mZ),(pp qh),(pp Bx),(List.flatten [dJ,fX,ek]),ft,(show ux (some (eI.mk zw HR K0)) (pp mZ) (pp qh) (pp Bx) (List.flatten [dJ,fX,ek]) from⟨mZ,dJ,qh,fX,Bx,ek,dP,fR,fq,J,J,J,J⟩),J⟩),J,J⟩ J))
def xc.f (n:bZ):Option bZ:=(pz.f n.fJ).bind λv1=>dq n.core ((G2.f).bind λv3=>some (bZ.mk none v1 n.aV)) (λx2=>(AK.f x2.iV x2.iz x2.aK).bind λv4=>some (bZ.mk (some (eI.mk x2.aK x2.iz v4)) v1 n.aV))
def xc.R (r8:Nat) (r:bZ) (u:Value) (G:List Hp):Prop:= ∃(H0:Hp),gL r r8 H0/\u=(.tuple #[])/\G=[H0]
theorem xc.c (H:xc.f n=some r) (iW:gL n cY ja):
 QR 85 [(pp cY)] [ja] [] F (xc.R cY r):=by
 unfold xc.f at H;refine aB Tryz.func85 J J (λW=>rc T 6 (mY J (rc T 1 ?_)));obtain⟨b3,H3,tj,Ph,Pj,H4,s3,s4,ck⟩:=(λx=>x) iW;refine bP 0 (congrArg some ck) (fz J (rc T 4 (lf T 1 J (kr (pz.R b3) [] [2] J MM H (pz.c · s3) (λv1 H=>?_)))));rintro _ _ ⟨H5,s5,rfl,rfl⟩;refine fz J (ro T 2 ?_);rcases q2:n.core with _ |x2
 ·replace H:=eT q2 H;rw[q2] at s4;obtain⟨rfl,rfl,rfl,rfl⟩:=s4;refine rc T 4 (lf T 1 J (k [] J Se H (G2.c ·) (λv3 H=>ro T 1 (jd ?_))))
  cases H;refine aq J (gq [1,2,2] J (p1 T J [2,0] ⟨(List.flatten [(cl cY 135 [(.pointer none),(.pointer none),(.pointer none),(pp b3),(uu n.aV.bC),(uu n.aV.bD),(uu n.aV.bA),(uu n.aV.bz),(uu n.aV.bJ),(uu n.aV.bF)]),H5,[]]),(show gL (bZ.mk none v1 n.aV) cY (List.flatten [(cl cY 135 [(.pointer none),(.pointer none),(.pointer none),(pp b3),(uu n.aV.bC),(uu n.aV.bD),(uu n.aV.bA),(uu n.aV.bz),(uu n.aV.bJ),(uu n.aV.bF)]),H5,[]]) from⟨b3,H5,(.pointer none),(.pointer none),(.pointer none),[],s5,(show ux none (.pointer none) (.pointer none) (.pointer none) [] from⟨J,J,J,J⟩),J⟩),J,J⟩ J))
 replace H:=eU q2 H;rw[q2] at s4;obtain⟨b7,H7,b8,H8,b9,H9,s7,s8,s9,rfl,rfl,rfl,oa⟩:=s4;refine bP 2 (congrArg some oa) (fz J (rc T 4 (lf T 1 J (kr (AK.R b9 b8 b7) [4,3] [5,4,3] J Se H (AK.c · s9 s8 s7) (λv4 H=>?_)))));rintro _ _ ⟨cB,cS,rfl,rfl⟩;refine fz J (ro T 1 (jd ?_))
 cases H;refine gq [5,4,3] J (gq [1,1,1] J (p1 T J [1,0] ⟨(List.flatten [(cl cY 135 [(pp b7),(pp b8),(pp b9),(pp b3),(uu n.aV.bC),(uu n.aV.bD),(uu n.aV.bA),(uu n.aV.bz),(uu n.aV.bJ),(uu n.aV.bF)]),H5,(List.flatten [H7,H8,cB])]),(show gL (bZ.mk (some (eI.mk x2.aK x2.iz v4)) v1 n.aV) cY (List.flatten [(cl cY 135 [(pp b7),(pp b8),(pp b9),(pp b3),(uu n.aV.bC),(uu n.aV.bD),(uu n.aV.bA),(uu n.aV.bz),(uu n.aV.bJ),(uu n.aV.bF)]),H5,(List.flatten [H7,H8,cB])]) from⟨b3,H5,(pp b7),(pp b8),(pp b9),(List.flatten [H7,H8,cB]),s5,(show ux (some (eI.mk x2.aK x2.iz v4)) (pp b7) (pp b8) (pp b9) (List.flatten [H7,H8,cB]) from⟨b7,H7,b8,H8,b9,cB,s7,s8,cS,J,J,J,J⟩),J⟩),J,J⟩ J))
def xa.f (n:bZ) (cell:Int) (cost:Int):Option (Int×bZ):=dq n.core (none) (λx1=>(wJ.f x1.aK cell cost).bind λv2=>some (v2.1,(bZ.mk (some (eI.mk v2.2 x1.iz x1.iV)) n.fJ n.aV)))
def xa.R (r8:Nat) (r:(Int×bZ)) (u:Value) (G:List Hp):Prop:= ∃(H0:Hp),gL r.2 r8 H0/\u=(ii r.1)/\G=[H0]
theorem xa.c (H:xa.f n cell cost=some r) (iW:gL n cY ja):
 QR 120 [(pp cY),(ii cell),(ii cost)] [ja] [] F (xa.R cY r):=by
 unfold xa.f at H;refine aB Tryz.func120 J J (λW=>rc T 12 (eD J (rc T 3 ?_)));obtain⟨b3,H3,tj,Ph,Pj,H4,s3,s4,ck⟩:=(λx=>x) iW;refine bP 0 (congrArg some ck) (fz J ?_);rcases q1:n.core with _ |x1
 ·replace H:=eT q1 H
  cases H
 replace H:=eU q1 H;rw[q1] at s4;obtain⟨b6,H6,b7,H7,b8,H8,s6,s7,s8,rfl,rfl,rfl,su⟩:=s4;refine bP 3 (congrArg some su) (fz J (rc T 4 (lf T 1 J (ro T 2 (kr (wJ.R b6) [] [3] J ab3 H (wJ.c · s6) (λv2 H=>?_))))));rintro _ _ ⟨H9,s9,rfl,rfl⟩;refine fz J (ro T 4 ?_)
 cases H;refine gq [5,3,3] J (gq [1,1,1] J (p1 T J [1,0] ⟨(List.flatten [(cl cY 135 [(pp b6),(pp b7),(pp b8),(pp b3),(uu n.aV.bC),(uu n.aV.bD),(uu n.aV.bA),(uu n.aV.bz),(uu n.aV.bJ),(uu n.aV.bF)]),H3,(List.flatten [H9,H7,H8])]),(show gL (bZ.mk (some (eI.mk v2.2 x1.iz x1.iV)) n.fJ n.aV) cY (List.flatten [(cl cY 135 [(pp b6),(pp b7),(pp b8),(pp b3),(uu n.aV.bC),(uu n.aV.bD),(uu n.aV.bA),(uu n.aV.bz),(uu n.aV.bJ),(uu n.aV.bF)]),H3,(List.flatten [H9,H7,H8])]) from⟨b3,H3,(pp b6),(pp b7),(pp b8),(List.flatten [H9,H7,H8]),s3,(show ux (some (eI.mk v2.2 x1.iz x1.iV)) (pp b6) (pp b7) (pp b8) (List.flatten [H9,H7,H8]) from⟨b6,H9,b7,H7,b8,H8,s9,s7,s8,J,J,J,J⟩),J⟩),J,J⟩ J))
def yQ.f (n:bZ):Option (Int×Int):=dq n.core (none) (λx1=>(iJ.f x1.aK).bind λv2=>some (v2.1,v2.2))
theorem yQ.c (H:yQ.f n=some r) (iW:gL n cY ja):
 QU 164 [(pp cY)] [ja] F (.tuple #[(ii r.1),(ii r.2)]):=by
 unfold yQ.f at H;refine aB Tryz.func164 J J (λW=>rc T 13 (eD J (rc T 3 ?_)));obtain⟨b3,H3,tj,Ph,Pj,H4,s3,s4,ck⟩:=(λx=>x) iW;refine bP 0 (congrArg some ck) (fz J ?_);rcases q1:n.core with _ |x1
 ·replace H:=eT q1 H
  cases H
 replace H:=eU q1 H;rw[q1] at s4;obtain⟨b6,H6,b7,H7,b8,H8,s6,s7,s8,rfl,rfl,rfl,su⟩:=s4;refine bP 3 (congrArg some su) (fz J (rc T 4 (lf T 1 J (k [3] J tI H (iJ.c · s6) (λv2 H=>ro T 7 ?_)))))
 cases H;refine cq [3,3,3] J su (cq [1,1,1] J ck (p0 T J [1,0] J))
def qB.f (n:bZ) (goal:Int) (bB:Int):Option (fZ×Er×bZ):=(dq n.core (some true) (λx3=>some false)).bind λx1=>if x1=true then((some (Er.wrap 222 [goal] (Er.dW 2))).bind λx4=>some ((fZ.mk [] []),x4,n)) else(dq n.core (none) (λx6=>(lR.f x6.aK bB).bind λv7=>(jf.f x6.aK goal).bind λv8=>if((v8==0)||(!v7.2))=true then((some (Er.wrap 222 [goal] (Er.dW 3))).bind λx9=>some ((fZ.mk [] []),x9,n)) else((xo.f x6.iV goal x6.iz x6.aK).bind λv11=>dq v11.1 ((Av.f x6.aK bB).bind λv12=>((pO.f x6.aK bB).bind λfF=>(mm.f n.fJ goal bB fF v7.1 v12).bind λnQ=>some (nQ.1.fb,nQ.1.cA,nQ.2.1,nQ.2.2)).bind λ(aU,bd,cm,dm)=>if(cm !=0)=true then((some (Er.wrap 222 [goal] (Er.dW 4))).bind λdz=>some ((fZ.mk [] []),dz,(bZ.mk (some (eI.mk x6.aK v11.2.2 v11.2.1)) dm n.aV))) else(some ((fZ.mk aU bd),Er.nil,(bZ.mk (some (eI.mk x6.aK v11.2.2 v11.2.1)) dm n.aV)))) (λzw=>(iy.f x6.aK zw bB).bind λv25=>((pO.f x6.aK bB).bind λv31=>(mm.f n.fJ goal bB v31 v7.1 v25).bind λv32=>some (v32.1.fb,v32.1.cA,v32.2.1,v32.2.2)).bind λ(dC,l9,jE,iY)=>if(jE !=0)=true then((some (Er.wrap 222 [goal] (Er.dW 4))).bind λv_=>some ((fZ.mk [] []),v_,(bZ.mk (some (eI.mk x6.aK v11.2.2 v11.2.1)) iY n.aV))) else(some ((fZ.mk dC l9),Er.nil,(bZ.mk (some (eI.mk x6.aK v11.2.2 v11.2.1)) iY n.aV)))))))
def qB.R (el:Nat->Addr) (r8:Nat) (r:(fZ×Er×bZ)) (u:Value) (G:List Hp):Prop:= ∃(a0:Option Addr) (n0:Nat) (H0:Hp) (a1:Option Addr) (n1:Nat) (H1:Hp) (v2:Value) (H2:Hp) (H3:Hp),ak (Fl.int .i64) 3 r.1.fb a0 n0 H0/\ak (Fl.int .i64) 3 r.1.cA a1 n1 H1/\fW 414 el r.2.1 v2 H2/\gL r.2.2 r8 H3/\u=(.tuple #[(.agg #[(ll a0 r.1.fb n0),(ll a1 r.1.cA n1)]),v2])/\G=[H0,H1,H2,H3]
theorem qB.c (H:qB.f n goal bB=some r) (hG:fL 414 eZ hU el F) (iW:gL n cY ja):
 QR 100 [(pp cY),(ii goal),(ii bB)] [ja] [] F (qB.R el cY r):=by
 unfold qB.f at H;refine aB Tryz.func100 J J (λW=>rc T 2 (nc T J (λb2=>fz J (ro T 4 (mq H [0,1,2,6] [1,0,0] (λz2 (x1:Bool)=>(x1=z2,[(21,(bb x1))],[])) J J (λz2 Z1 _=>?_) ?_)))))
 ·obtain⟨b4,H4,xL,EB,EC,H5,s4,s5,dp⟩:=(λx=>x) iW;refine bP 0 (congrArg some dp) (fz J ?_);rcases q2:n.core with _ |x3
  ·replace Z1:=eT q2 Z1;rw[q2] at s5;obtain⟨rfl,rfl,rfl,rfl⟩:=s5;refine rc T 7 (lf T 2 J (ro T 4 (cq [2,2,2] J dp (am _ [0,1,0] (oi Z1) J J))))
  replace Z1:=eU q2 Z1;rw[q2] at s5;obtain⟨b7,H7,b8,H8,b9,H9,s7,s8,s9,rfl,rfl,rfl,oa⟩:=s5;refine bP 4 (congrArg some oa) (fz J (rc T 7 (lf T 2 J (ro T 4 (cq [4,4,4] J oa (cq [2,2,2] J dp (am _ [0,1,0] (oi Z1) J J)))))))
 rintro _ x1 rfl H;refine cb J H (λH=>?_) (λH=>?_)
 ·refine mq H [6] [0,1,0] (λz5 (⟨x4,KP,bX⟩:Er×Value×Hp)=>(x4=z5/\fW 414 el x4 KP bX,[(7,KP)],[bX])) J J (λz5 Z4 _=>?_) ?_
  ·refine fz J (rz [] mix (bO bN) (λhg pf=>ha T 6 [0,1] sz hg pf J (av 2 sz hg pf J (aw T J J J J (rC (j:=0) J hG (g:=2) (by decide))) (ha T 4 [3] sz hg pf J (gy 4 6 ?_ ?_)))))
   ·refine nw T J (λjG=>fz J (an (so [0,0,0]) (gy 5 6 ?_ ?_)))
    ·refine aq J (gq [3,3] J (lv J (gZ T J J J J) (an (so [0,0,0]) (ao 6 (iX T 2 J (an (so [0,0,0]) (ha T 0 [7] (so [0,0,0]) hg pf J (ae (rx T 1 (am (_,_,_) [0,1,0,0] ⟨oi Z4,(pL nZ)⟩ J J))))))))))
    refine iX T 2 J (an (so [0,0,0]) (ao 5 (aq J (gq [3,3] J (lv J (gZ T J J J J) (an (so [0,0,0]) (ha T 0 [7] (so [0,0,0]) hg pf J (ae (rx T 1 (am (_,_,_) [0,1,0,0] ⟨oi Z4,(pL nZ)⟩ J J))))))))))
   refine iX T 2 J (an sz (ao 4 (nw T J (λqh=>fz J (an (so [0,0,0]) (ao 5 (aq J (gq [3,3] J (lv J (gZ T J J J J) (an (so [0,0,0]) (ha T 0 [7] (so [0,0,0]) hg pf J (ae (rx T 1 (am (_,_,_) [0,1,0,0] ⟨oi Z4,(pL nZ)⟩ J J))))))))))))))
  rintro _ ⟨x4,KP,bX⟩ ⟨rfl,bS⟩ H;refine rc T 2 ?_
  cases H;refine aq J (aq J (pb T J (.cO (j:=1) [nl,nl] J J J J J J J (.tmp J .nil)) [4,4,3,2,0] ⟨(_,_),none,0,[],none,0,[],KP,bX,ja,ak.nil,ak.nil,bS,iW,J,J⟩ J J))
 refine rc T 3 ?_;obtain⟨kM,mv,ajB,ajC,ajD,jF,iO,gU,RS⟩:=(λx=>x) iW;refine bP 1 (congrArg some RS) (fz J ?_);rcases q5:n.core with _ |x6
 ·replace H:=eT q5 H
  cases H
 replace H:=eU q5 H;rw[q5] at gU;obtain⟨kN,gW,kO,oz,lL,EJ,jA,nI,vF,rfl,rfl,rfl,RX⟩:=gU;refine bP 4 (congrArg some RX) (fz J (rc T 4 (lf T 2 J (ro T 1 (kr lR.R [4] [4] J Sg H (lR.c · jA) (λv7 H=>?_))))));rintro _ _ ⟨a28,n28,um,j7,rfl,rfl⟩;refine fz J (ro T 3 (nc T J (λzJ=>fz J (jR T 8 J (ro T 9 (lf T 2 J (ro T 1 (k [7] J uZ H (jf.c · jA) (λv8 H=>ro T 2 (go T [8,9,10] 44 [0,1,2,6,8] 47 J J J J J J J (ro T 2 (cb J H (λH=>?_) (λH=>?_)))))))))))))
 ·refine mq H [6] [0,0,0,4,1,1,0] (λnT (⟨x9,KR,qZ⟩:Er×Value×Hp)=>(x9=nT/\fW 414 el x9 KR qZ,[(7,KR)],[qZ])) J J (λnT Z9 _=>?_) ?_
  ·refine ke [1,6] [0,0,0,0,0,0,1] J J (fz J (rz [] mix (bO bN) (λhg pf=>ha T 6 [0,1] sz hg pf J (av 2 sz hg pf J (aw T J J J J (rC (j:=0) J hG (g:=3) (by decide))) (ha T 4 [3] sz hg pf J (gy 4 6 ?_ ?_))))))
   ·refine nw T J (λZe=>fz J (an (so [0,0,0,0,0,0,0]) (gy 5 6 ?_ ?_)))
    ·refine aq J (gq [7,7] J (lv J (gZ T J J J J) (an (so [0,0,0,0,0,0,0]) (ao 6 (iX T 1 J (an (so [0,0,0,0,0,0,0]) (ha T 0 [7] (so [0,0,0,0,0,0,0]) hg pf J (ae (rx T 1 (am (_,_,_) [0,0,0,3,1,1,0,0] ⟨oi Z9,(pL nZ)⟩ J J))))))))))
    refine iX T 1 J (an (so [0,0,0,0,0,0,0]) (ao 5 (aq J (gq [7,7] J (lv J (gZ T J J J J) (an (so [0,0,0,0,0,0,0]) (ha T 0 [7] (so [0,0,0,0,0,0,0]) hg pf J (ae (rx T 1 (am (_,_,_) [0,0,0,3,1,1,0,0] ⟨oi Z9,(pL nZ)⟩ J J))))))))))
   refine iX T 1 J (an sz (ao 4 (nw T J (λb36=>fz J (an (so [0,0,0,0,0,0,0]) (ao 5 (aq J (gq [7,7] J (lv J (gZ T J J J J) (an (so [0,0,0,0,0,0,0]) (ha T 0 [7] (so [0,0,0,0,0,0,0]) hg pf J (ae (rx T 1 (am (_,_,_) [0,0,0,3,1,1,0,0] ⟨oi Z9,(pL nZ)⟩ J J))))))))))))))
  rintro _ ⟨x9,KR,qZ⟩ ⟨rfl,pr⟩ H;refine rc T 2 ?_
  cases H;refine cq [3,3,3] J RX (cq [2,2,3] J RS (aq J (aq J (pb T J (.cO (j:=1) [nl,nl] J J J J J J J (.tmp J .nil)) [4,4,2,2,0] ⟨(_,_),none,0,[],none,0,[],KR,qZ,ja,ak.nil,ak.nil,pr,iW,J,J⟩ J J))))
 refine rc T 3 (ks [0,1,2,6,8] J (fz J (rq [] [0,0,0,0,2,2,2] J mix (bO bN) (λhg pf=>ha T 10 [0,1,2] (so [0,0,0,0,2,2,2]) hg pf J (av 3 (so [0,0,0,0,2,2,2]) hg pf J (aw T J J J J (aF (j:=2) J J)) (ha T 6 [4,5,6] (so [0,0,0,0,2,2,2]) hg pf J (av 7 (so [0,0,0,0,2,2,2]) hg pf J (aw T J J J J (aF (j:=2) J J)) (ha T 3 [8,10] (so [0,0,0,0,2,2,2]) hg pf J (ao 9 (kR (xo.R lL kO kN kO kN) [7] [5,4,5] J abZ H (xo.c · vF nI jA) (λv11 H=>?_)))))))))));rintro _ _ ⟨ajz,ln,gu,Ij,sP,rfl,rfl⟩;refine fz J ?_;rcases JJ:v11.1 with _ |zw
 ·replace H:=eT JJ H;rw[JJ] at Ij;obtain⟨rfl,CH⟩:=Ij;refine an (so [0,0,0,0,0,3,0]) (ao 11 (kR Av.R [8] [8] J Sh H (Av.c · jA) (λv12 H=>?_)));rintro _ _ ⟨a54,n54,H54,El,rfl,rfl⟩;refine fz J (an (so [0,0,0,0,0,4,0]) (ha T 0 [12] (so [0,0,0,0,0,4,0]) hg pf J (ae (rx T 1 (mq H [1,6] [0,0,0,6,4,3] (λz17 (⟨aU,bd,cm,dm,LD,EY,GJ,Ib,EZ,n57,Ic,xU⟩:List Int×List Int×Int×jo×Nat×Option Addr×Nat×Hp×Option Addr×Nat×Hp×Hp)=>((aU,bd,cm,dm)=z17/\ak (Fl.int .i64) 3 aU EY GJ Ib/\ak (Fl.int .i64) 3 bd EZ n57 Ic/\rU dm kM xU,[(11,(pp LD)),(12,(ii cm))],[(cl LD 79 [(ll EY aU GJ),(ll EZ bd n57)]),Ib,Ic,xU])) J J (λz17 cj _=>?_) ?_)))))
  ·refine ks [0,1,2,6,8,10] J (fz J (rz [14] mix (bO bN) (λhg pf=>ha T 18 [0,1,2] sz hg pf J (av 3 sz hg pf J (aw T J J J J (aF (j:=2) J J)) (ha T 12 [4,5,6,7,8] sz hg pf J (av 9 sz hg pf J (aw T J J J J (aF (j:=2) J J)) (ha T 10 [10] sz hg pf J (av 12 sz hg pf J (gA T 5 J J J J J J J) (ha T 8 [13] sz hg pf J (gy 11 18 ?_ ?_))))))))))
   ·refine kh [9] J BP cj (pO.c · jA) (λfF cj=>an sz (gy 14 18 ?_ ?_))
    ·refine kR (mm.R kM) [] [3] J DG cj (mm.c · iO (oO j7 3) j7.bV (oO El 7) El.bV) (λnQ cj=>?_);rintro _ _ ⟨a59,n59,H59,a60,n60,H60,H61,s59,s60,s61,rfl,rfl⟩;refine fz J (an sl (hb T 15 sl hg pf J (hb T 16 sl hg pf J (hb T 17 sl hg pf J (ao 18 (nw T J (λb62=>fz J (an sl (ao 19 (iX T 12 J (an sl (hb T 20 sl hg pf J (ae (rx T 1 (am (_,_,_,_,_,_,_,_,_,_,_,_) [0,0,0,5,3,2,6,3,3,3] ⟨oi cj,s59,s60,s61⟩ J J)))))))))))))))
    refine nw T J (λb63=>fz J (an (so [0,0,0,0,0,0,0,0,0,0]) (ao 14 (kR (mm.R kM) [] [3] J DG cj (mm.c · iO (oO j7 3) j7.bV (oO El 7) El.bV) (λv20 cj=>?_)))));rintro _ _ ⟨a64,n64,H64,a65,n65,H65,H66,s64,s65,s66,rfl,rfl⟩;refine fz J (an sl (hb T 15 sl hg pf J (hb T 16 sl hg pf J (hb T 17 sl hg pf J (ao 19 (iX T 9 J (an sl (hb T 20 sl hg pf J (ae (rx T 1 (am (_,_,_,_,_,_,_,_,_,_,_,_) [0,0,0,5,3,2,3,3,3,3] ⟨oi cj,s64,s65,s66⟩ J J)))))))))))
   refine nw T J (λb67=>fz J (an (so [0,0,0,0,0,0,0,0,0,0]) (ao 11 (kh [9] J BP cj (pO.c · jA) (λv21 cj=>an (so [0,0,0,0,0,0,0,0,0,0]) (ao 14 (kR (mm.R kM) [] [3] J DG cj (mm.c · iO (oO j7 3) j7.bV (oO El 7) El.bV) (λv22 cj=>?_))))))));rintro _ _ ⟨a68,n68,H68,a69,n69,H69,H70,s68,s69,s70,rfl,rfl⟩;refine fz J (an sl (hb T 15 sl hg pf J (hb T 16 sl hg pf J (hb T 17 sl hg pf J (ao 19 (iX T 9 J (an sl (hb T 20 sl hg pf J (ae (rx T 1 (am (_,_,_,_,_,_,_,_,_,_,_,_) [0,0,0,5,3,2,3,3,3,3] ⟨oi cj,s68,s69,s70⟩ J J)))))))))))
  rintro _ ⟨aU,bd,cm,dm,LD,EY,GJ,Ib,EZ,n57,Ic,xU⟩ ⟨rfl,s56,s57,V_⟩ H;refine rc T 7 (cb J H (λH=>?_) (λH=>?_))
  ·refine mq H [6] [0,0,0,0,0,0,3] (λz24 (⟨dz,KU,Ie⟩:Er×Value×Hp)=>(dz=z24/\fW 414 el dz KU Ie,[(7,KU)],[Ie])) J J (λz24 rW _=>?_) ?_
   ·refine fz J (rz [] mix (bO bN) (λhg pf=>ha T 6 [0,1] sz hg pf J (av 2 sz hg pf J (aw T J J J J (rC (j:=0) J hG (g:=4) (by decide))) (ha T 4 [3] sz hg pf J (gy 4 6 ?_ ?_)))))
    ·refine nw T J (λb72=>fz J (an (so [0,0,0,0,0,0,0,0,0,0]) (gy 5 6 ?_ ?_)))
     ·refine aq J (gq [10,10] J (lv J (gZ T J J J J) (an (so [0,0,0,0,0,0,0,0,0,0]) (ao 6 (iX T 1 J (an (so [0,0,0,0,0,0,0,0,0,0]) (ha T 0 [7] (so [0,0,0,0,0,0,0,0,0,0]) hg pf J (ae (rx T 1 (am (_,_,_) [0,0,0,0,0,0,3,3] ⟨oi rW,(pL nZ)⟩ J J))))))))))
     refine iX T 1 J (an (so [0,0,0,0,0,0,0,0,0,0]) (ao 5 (aq J (gq [10,10] J (lv J (gZ T J J J J) (an (so [0,0,0,0,0,0,0,0,0,0]) (ha T 0 [7] (so [0,0,0,0,0,0,0,0,0,0]) hg pf J (ae (rx T 1 (am (_,_,_) [0,0,0,0,0,0,3,3] ⟨oi rW,(pL nZ)⟩ J J))))))))))
    refine iX T 1 J (an sz (ao 4 (nw T J (λb77=>fz J (an (so [0,0,0,0,0,0,0,0,0,0]) (ao 5 (aq J (gq [10,10] J (lv J (gZ T J J J J) (an (so [0,0,0,0,0,0,0,0,0,0]) (ha T 0 [7] (so [0,0,0,0,0,0,0,0,0,0]) hg pf J (ae (rx T 1 (am (_,_,_) [0,0,0,0,0,0,3,3] ⟨oi rW,(pL nZ)⟩ J J))))))))))))))
   rintro _ ⟨dz,KU,Ie⟩ ⟨rfl,s71⟩ H;refine rc T 2 ?_
   cases H;refine gq [3,3,3] J (gq [2,2,3] J (aq J (aq J (pb T J (.cO (j:=1) [nl,nl] J J J J J J J (.tmp J .nil)) [4,4,2,2,0] ⟨(_,_),none,0,[],none,0,[],KU,Ie,(List.flatten [(cl cY 135 [(pp kN),(pp kO),(pp lL),(pp kM),(uu n.aV.bC),(uu n.aV.bD),(uu n.aV.bA),(uu n.aV.bz),(uu n.aV.bJ),(uu n.aV.bF)]),xU,(List.flatten [gW,gu,ln])]),ak.nil,ak.nil,s71,(show gL (bZ.mk (some (eI.mk x6.aK v11.2.2 v11.2.1)) dm n.aV) cY (List.flatten [(cl cY 135 [(pp kN),(pp kO),(pp lL),(pp kM),(uu n.aV.bC),(uu n.aV.bD),(uu n.aV.bA),(uu n.aV.bz),(uu n.aV.bJ),(uu n.aV.bF)]),xU,(List.flatten [gW,gu,ln])]) from⟨kM,xU,(pp kN),(pp kO),(pp lL),(List.flatten [gW,gu,ln]),V_,(show ux (some (eI.mk x6.aK v11.2.2 v11.2.1)) (pp kN) (pp kO) (pp lL) (List.flatten [gW,gu,ln]) from⟨kN,gW,kO,gu,lL,ln,jA,sP,CH,J,J,J,J⟩),J⟩),J,J⟩ J J))))
  refine rc T 4 (lm T 6 J (jR T 1 J (ro T 4 ?_)))
  cases H;refine gq [3,3,3] J (gq [2,5,5] J (aq J (pb T J (.cO (j:=1) [(ll EY aU GJ),(ll EZ bd n57)] J J J J J J J (.tmp J .nil)) [3,3,4,3,0] ⟨(_,_),EY,GJ,Ib,EZ,n57,Ic,.nilIface,[],(List.flatten [(cl cY 135 [(pp kN),(pp kO),(pp lL),(pp kM),(uu n.aV.bC),(uu n.aV.bD),(uu n.aV.bA),(uu n.aV.bz),(uu n.aV.bJ),(uu n.aV.bF)]),xU,(List.flatten [gW,gu,ln])]),s56,s57,tA,(show gL (bZ.mk (some (eI.mk x6.aK v11.2.2 v11.2.1)) dm n.aV) cY (List.flatten [(cl cY 135 [(pp kN),(pp kO),(pp lL),(pp kM),(uu n.aV.bC),(uu n.aV.bD),(uu n.aV.bA),(uu n.aV.bz),(uu n.aV.bJ),(uu n.aV.bF)]),xU,(List.flatten [gW,gu,ln])]) from⟨kM,xU,(pp kN),(pp kO),(pp lL),(List.flatten [gW,gu,ln]),V_,(show ux (some (eI.mk x6.aK v11.2.2 v11.2.1)) (pp kN) (pp kO) (pp lL) (List.flatten [gW,gu,ln]) from⟨kN,gW,kO,gu,lL,ln,jA,sP,CH,J,J,J,J⟩),J⟩),J,J⟩ J J)))
 replace H:=eU JJ H;rw[JJ] at Ij;obtain⟨vx,Qn,Ld,n52,K7,Ek,rfl,RU⟩:=Ij;have V8:tr v11.2.1 lL kO kN ln:=⟨(pp Qn),_,(by rw[vx];exact⟨Qn,Ld,n52,K7,Ek,J,J⟩),RU⟩
 obtain⟨W8,MC,Mz⟩:=aeE RU;refine bP 6 (congrArg some Mz) (fz J (bP 9 (congrArg some MC) (fz J (an (so [0,0,0,0,0,2,0]) (ao 11 (kR iy.R [7,8,8] [7,8,8] J Sh H (iy.c · jA Ek) (λv25 H=>?_)))))));rintro _ _ ⟨a85,n85,H85,Em,rfl,rfl⟩;refine fz J (an (so [0,0,0,0,0,4,0]) (ha T 0 [12] (so [0,0,0,0,0,4,0]) hg pf J (ae (rx T 1 (mq H [1,6] [0,0,0,6,3,3,4,4] (λW1 (⟨dC,l9,jE,iY,LG,a87,GK,Ig,E0,GL,Ih,xV⟩:List Int×List Int×Int×jo×Nat×Option Addr×Nat×Hp×Option Addr×Nat×Hp×Hp)=>((dC,l9,jE,iY)=W1/\ak (Fl.int .i64) 3 dC a87 GK Ig/\ak (Fl.int .i64) 3 l9 E0 GL Ih/\rU iY kM xV,[(11,(pp LG)),(12,(ii jE))],[(cl LG 79 [(ll a87 dC GK),(ll E0 l9 GL)]),Ig,Ih,xV])) J J (λW1 iq _=>?_) ?_)))))
 ·refine ks [0,1,2,6,8,10] J (fz J (rz [14] mix (bO bN) (λhg pf=>ha T 18 [0,1,2] sz hg pf J (av 3 sz hg pf J (aw T J J J J (aF (j:=2) J J)) (ha T 12 [4,5,6,7,8] sz hg pf J (av 9 sz hg pf J (aw T J J J J (aF (j:=2) J J)) (ha T 10 [10] sz hg pf J (av 12 sz hg pf J (gA T 5 J J J J J J J) (ha T 8 [13] sz hg pf J (gy 11 18 ?_ ?_))))))))))
  ·refine kh [9] J BP iq (pO.c · jA) (λv31 iq=>an sz (gy 14 18 ?_ ?_))
   ·refine kR (mm.R kM) [] [3] J DG iq (mm.c · iO (oO j7 3) j7.bV (oO Em 7) Em.bV) (λv32 iq=>?_);rintro _ _ ⟨a90,n90,H90,a91,n91,H91,H92,s90,s91,s92,rfl,rfl⟩;refine fz J (an sl (hb T 15 sl hg pf J (hb T 16 sl hg pf J (hb T 17 sl hg pf J (ao 18 (nw T J (λb93=>fz J (an sl (ao 19 (iX T 14 J (an sl (hb T 20 sl hg pf J (ae (rx T 1 (am (_,_,_,_,_,_,_,_,_,_,_,_) [0,0,0,5,2,2,3,3,6,3,3,3] ⟨oi iq,s90,s91,s92⟩ J J)))))))))))))))
   refine nw T J (λb94=>fz J (an (so [0,0,0,0,0,0,0,0,0,0,0,0]) (ao 14 (kR (mm.R kM) [] [3] J DG iq (mm.c · iO (oO j7 3) j7.bV (oO Em 7) Em.bV) (λv33 iq=>?_)))));rintro _ _ ⟨a95,n95,H95,a96,n96,H96,H97,s95,s96,s97,rfl,rfl⟩;refine fz J (an sl (hb T 15 sl hg pf J (hb T 16 sl hg pf J (hb T 17 sl hg pf J (ao 19 (iX T 11 J (an sl (hb T 20 sl hg pf J (ae (rx T 1 (am (_,_,_,_,_,_,_,_,_,_,_,_) [0,0,0,5,2,2,3,3,3,3,3,3] ⟨oi iq,s95,s96,s97⟩ J J)))))))))))
  refine nw T J (λb98=>fz J (an (so [0,0,0,0,0,0,0,0,0,0,0,0]) (ao 11 (kh [9] J BP iq (pO.c · jA) (λPk iq=>an (so [0,0,0,0,0,0,0,0,0,0,0,0]) (ao 14 (kR (mm.R kM) [] [3] J DG iq (mm.c · iO (oO j7 3) j7.bV (oO Em 7) Em.bV) (λv35 iq=>?_))))))));rintro _ _ ⟨a99,n99,H99,ai_,n100,ai8,ai9,s99,ahr,ahs,rfl,rfl⟩;refine fz J (an sl (hb T 15 sl hg pf J (hb T 16 sl hg pf J (hb T 17 sl hg pf J (ao 19 (iX T 11 J (an sl (hb T 20 sl hg pf J (ae (rx T 1 (am (_,_,_,_,_,_,_,_,_,_,_,_) [0,0,0,5,2,2,3,3,3,3,3,3] ⟨oi iq,s99,ahr,ahs⟩ J J)))))))))))
 rintro _ ⟨dC,l9,jE,iY,LG,a87,GK,Ig,E0,GL,Ih,xV⟩ ⟨rfl,s87,s88,Wa⟩ H;refine rc T 7 (cb J H (λH=>?_) (λH=>?_))
 ·refine mq H [6] [0,0,0,0,0,0,0,0,3] (λz37 (⟨v_,KO,HY⟩:Er×Value×Hp)=>(v_=z37/\fW 414 el v_ KO HY,[(7,KO)],[HY])) J J (λz37 Lc _=>?_) ?_
  ·refine fz J (rz [] mix (bO bN) (λhg pf=>ha T 6 [0,1] sz hg pf J (av 2 sz hg pf J (aw T J J J J (rC (j:=0) J hG (g:=4) (by decide))) (ha T 4 [3] sz hg pf J (gy 4 6 ?_ ?_)))))
   ·refine nw T J (λai'=>fz J (an (so [0,0,0,0,0,0,0,0,0,0,0,0]) (gy 5 6 ?_ ?_)))
    ·refine aq J (gq [12,12] J (lv J (gZ T J J J J) (an (so [0,0,0,0,0,0,0,0,0,0,0,0]) (ao 6 (iX T 1 J (an (so [0,0,0,0,0,0,0,0,0,0,0,0]) (ha T 0 [7] (so [0,0,0,0,0,0,0,0,0,0,0,0]) hg pf J (ae (rx T 1 (am (_,_,_) [0,0,0,0,0,0,0,0,3,3] ⟨oi Lc,(pL nZ)⟩ J J))))))))))
    refine iX T 1 J (an (so [0,0,0,0,0,0,0,0,0,0,0,0]) (ao 5 (aq J (gq [12,12] J (lv J (gZ T J J J J) (an (so [0,0,0,0,0,0,0,0,0,0,0,0]) (ha T 0 [7] (so [0,0,0,0,0,0,0,0,0,0,0,0]) hg pf J (ae (rx T 1 (am (_,_,_) [0,0,0,0,0,0,0,0,3,3] ⟨oi Lc,(pL nZ)⟩ J J))))))))))
   refine iX T 1 J (an sz (ao 4 (nw T J (λaja=>fz J (an (so [0,0,0,0,0,0,0,0,0,0,0,0]) (ao 5 (aq J (gq [12,12] J (lv J (gZ T J J J J) (an (so [0,0,0,0,0,0,0,0,0,0,0,0]) (ha T 0 [7] (so [0,0,0,0,0,0,0,0,0,0,0,0]) hg pf J (ae (rx T 1 (am (_,_,_) [0,0,0,0,0,0,0,0,3,3] ⟨oi Lc,(pL nZ)⟩ J J))))))))))))))
  rintro _ ⟨v_,KO,HY⟩ ⟨rfl,aht⟩ H;refine rc T 2 ?_
  cases H;refine cq [6,6] J MC (cq [5,7] J Mz (gq [3,3,5] J (gq [2,2,3] J (aq J (aq J (pb T J (.cO (j:=1) [nl,nl] J J J J J J J (.tmp J .nil)) [4,4,2,2,0] ⟨(_,_),none,0,[],none,0,[],KO,HY,(List.flatten [(cl cY 135 [(pp kN),(pp kO),(pp lL),(pp kM),(uu n.aV.bC),(uu n.aV.bD),(uu n.aV.bA),(uu n.aV.bz),(uu n.aV.bJ),(uu n.aV.bF)]),xV,(List.flatten [gW,gu,ln])]),ak.nil,ak.nil,aht,(show gL (bZ.mk (some (eI.mk x6.aK v11.2.2 v11.2.1)) iY n.aV) cY (List.flatten [(cl cY 135 [(pp kN),(pp kO),(pp lL),(pp kM),(uu n.aV.bC),(uu n.aV.bD),(uu n.aV.bA),(uu n.aV.bz),(uu n.aV.bJ),(uu n.aV.bF)]),xV,(List.flatten [gW,gu,ln])]) from⟨kM,xV,(pp kN),(pp kO),(pp lL),(List.flatten [gW,gu,ln]),Wa,(show ux (some (eI.mk x6.aK v11.2.2 v11.2.1)) (pp kN) (pp kO) (pp lL) (List.flatten [gW,gu,ln]) from⟨kN,gW,kO,gu,lL,ln,jA,sP,V8,J,J,J,J⟩),J⟩),J,J⟩ J J))))))
 refine rc T 4 (lm T 8 J (jR T 1 J (ro T 4 ?_)))
 cases H;refine cq [6,6] J MC (cq [5,9] J Mz (gq [3,3,7] J (gq [2,5,5] J (aq J (pb T J (.cO (j:=1) [(ll a87 dC GK),(ll E0 l9 GL)] J J J J J J J (.tmp J .nil)) [3,3,4,3,0] ⟨(_,_),a87,GK,Ig,E0,GL,Ih,.nilIface,[],(List.flatten [(cl cY 135 [(pp kN),(pp kO),(pp lL),(pp kM),(uu n.aV.bC),(uu n.aV.bD),(uu n.aV.bA),(uu n.aV.bz),(uu n.aV.bJ),(uu n.aV.bF)]),xV,(List.flatten [gW,gu,ln])]),s87,s88,tA,(show gL (bZ.mk (some (eI.mk x6.aK v11.2.2 v11.2.1)) iY n.aV) cY (List.flatten [(cl cY 135 [(pp kN),(pp kO),(pp lL),(pp kM),(uu n.aV.bC),(uu n.aV.bD),(uu n.aV.bA),(uu n.aV.bz),(uu n.aV.bJ),(uu n.aV.bF)]),xV,(List.flatten [gW,gu,ln])]) from⟨kM,xV,(pp kN),(pp kO),(pp lL),(List.flatten [gW,gu,ln]),Wa,(show ux (some (eI.mk x6.aK v11.2.2 v11.2.1)) (pp kN) (pp kO) (pp lL) (List.flatten [gW,gu,ln]) from⟨kN,gW,kO,gu,lL,ln,jA,sP,V8,J,J,J,J⟩),J⟩),J,J⟩ J J)))))
def yS.f (n:bZ) (goal:Int) (cell:Int):Option (Int×Int×Er×bZ):=(yQ.f n).bind λv1=>(gG.f v1.1 v1.2 cell).bind λv2=>(qB.f n goal v2).bind λv3=>if(!(Er.isNil v3.2.1))=true then(some (0,0,v3.2.1,v3.2.2)) else((qQ.f v1.1 v1.2 cell).bind λv4=>if(0<=v4/\v4<(List.length v3.1.fb:Int)) then(if(0<=v4/\v4<(List.length v3.1.cA:Int)) then(some ((rd v3.1.fb v4),(rd v3.1.cA v4),Er.nil,v3.2.2)) else none) else none)
def yS.R (el:Nat->Addr) (r8:Nat) (r:(Int×Int×Er×bZ)) (u:Value) (G:List Hp):Prop:= ∃(v0:Value) (H0:Hp) (H1:Hp),fW 414 el r.2.2.1 v0 H0/\gL r.2.2.2 r8 H1/\u=(.tuple #[(ii r.1),(ii r.2.1),v0])/\G=[H0,H1]
theorem yS.c (H:yS.f n goal cell=some r) (hG:fL 414 eZ hU el F) (iW:gL n cY ja):
 QR 163 [(pp cY),(ii goal),(ii cell)] [ja] [] F (yS.R el cY r):=by
 unfold yS.f at H;refine aB Tryz.func163 J J (λW=>rc T 10 (k [0] J Ss H (yQ.c · iW) (λv1 H=>ro T 14 (k [] J ru H (gG.c ·) (λv2 H=>kr (qB.R el cY) [] [0] J R_ H (qB.c · (dF hG (j:=0) J) iW) (λv3 H=>?_))))));rintro _ _ ⟨a2,n2,H2,a3,n3,H3,v4,H4,H5,s2,s3,s4,s5,rfl,rfl⟩;refine fz J (ro T 3 (nc T J (λb6=>fz J (jR T 5 J (ro T 7 (br J (Dx T J J J (rl s4 (j:=3) J)) (ro T 2 (cb J H (λH=>?_) (λH=>?_)))))))))
 ·refine rc T 10 ?_
  cases H;exact p1 T J [3,3,0] ⟨v4,H4,H5,s4,s5,J,J⟩ J
 refine rc T 7 (k [] J FM H (qQ.c ·) (λv4 H=>ro T 4 (dA mix ay (aj T J (aO J J J (aw T J J J J (aF (j:=5) J J)) (aj T J ?_))))));obtain⟨c6,H⟩:=az H;obtain⟨q7,o7,e7⟩:=s2.r.addr c6.1 c6.2;refine aO J J J (cn T J J J J J e7 c6.1 c6.2) (aO J J J (aw T J J J J (e_ (k:=(Fl.int .i64)) (oO s2 1) e7 c6 0 J)) (aj T J (aO J J J (aw T J J J J (aF (j:=5) J J)) (aj T J ?_))));obtain⟨c7,H⟩:=az H;obtain⟨q8,o8,e8⟩:=s3.r.addr c7.1 c7.2;refine aO J J J (cn T J J J J J e8 c7.1 c7.2) (aO J J J (aw T J J J J (e_ (k:=(Fl.int .i64)) (oO s3 2) e8 c7 0 J)) (aj T J (aj T J (aj T J (cH (rx T 2 ?_))))))
 cases H;refine aq J (p1 T J [6,4,0] ⟨.nilIface,[],H5,tA,s5,J,J⟩ J)
def yT.f (err:Er):Option Int:=if(Er.isNil err)=true then(some 0) else((uQ.f err (Er.dW 2)).bind λv1=>if v1=true then(some 4) else((uQ.f err (Er.dW 3)).bind λv2=>if v2=true then(some 7) else(some 1)))
theorem yT.c (H:yT.f err=some r) (hG:fL 414 eZ hU el F) (Ds:lJ 414 el err Pl F):
 QU 101 [Pl] [] F (ii r):=by
 unfold yT.f at H;refine aB Tryz.func101 J J (λW=>rc T 10 (br J (I2 T J J J (Fz Ds (j:=0) J)) (ro T 3 (cb J H (λH=>?_) (λH=>?_)))))
 ·refine rc T 8 ?_
  cases H;exact p0 T J [0] J
 refine rc T 3 (lg T J (rC (j:=0) J hG (g:=2) (by decide)) (k [] J Jo H (uQ.c err (Er.dW 2) _ _ · (dF hG (j:=0) J) (Fz Ds (j:=0) J) IM) (λv1 H=>ro T 3 (cb J H (λH=>?_) (λH=>?_)))))
 ·refine rc T 8 ?_
  cases H;exact p0 T J [0] J
 refine rc T 3 (lg T J (rC (j:=0) J hG (g:=3) (by decide)) (k [] J Jo H (uQ.c err (Er.dW 3) _ _ · (dF hG (j:=0) J) (Fz Ds (j:=0) J) IM) (λv2 H=>ro T 3 (cb J H (λH=>?_) (λH=>?_)))))
 ·refine rc T 8 ?_
  cases H;exact p0 T J [0] J
 refine rc T 9 ?_
 cases H;exact p0 T J [0] J
def xe.f (n:bZ) (goal:Int) (cell:Int):Option (Int×Int×Int×bZ):=(yS.f n goal cell).bind λv1=>(yT.f v1.2.2.1).bind λv2=>some (v1.1,v1.2.1,v2,v1.2.2.2)
def xe.R (el:Nat->Addr) (r8:Nat) (r:(Int×Int×Int×bZ)) (u:Value) (G:List Hp):Prop:= ∃(H0:Hp),gL r.2.2.2 r8 H0/\u=(.tuple #[(ii r.1),(ii r.2.1),(ii r.2.2.1)])/\G=[H0]
theorem xe.c (H:xe.f n goal cell=some r) (hG:fL 414 eZ hU el F) (iW:gL n cY ja):
 QR 127 [(pp cY),(ii goal),(ii cell)] [ja] [] F (xe.R el cY r):=by
 unfold xe.f at H;refine aB Tryz.func127 J J (λW=>rc T 12 (kr (yS.R el cY) [] [0] J ab7 H (yS.c · (dF hG (j:=0) J) iW) (λv1 H=>?_)));rintro _ _ ⟨v2,H2,H3,s2,s3,rfl,rfl⟩;refine fz J (ro T 14 (k [] J Sa H (yT.c · (dF hG (j:=0) J) (rl s2 (j:=1) J)) (λv2 H=>ro T 6 ?_)))
 cases H;exact p1 T J [2,0] ⟨H3,s3,J,J⟩ J
def tZ.f (n:bZ) (goal:Int) (bB:Int):Option (fZ×Int×bZ):=(qB.f n goal bB).bind λv1=>(yT.f v1.2.1).bind λv2=>some (v1.1,v2,v1.2.2)
def tZ.R (el:Nat->Addr) (r8:Nat) (r:(fZ×Int×bZ)) (u:Value) (G:List Hp):Prop:= ∃(a0:Option Addr) (n0:Nat) (H0:Hp) (a1:Option Addr) (n1:Nat) (H1:Hp) (H2:Hp),ak (Fl.int .i64) 3 r.1.fb a0 n0 H0/\ak (Fl.int .i64) 3 r.1.cA a1 n1 H1/\gL r.2.2 r8 H2/\u=(.tuple #[(.agg #[(ll a0 r.1.fb n0),(ll a1 r.1.cA n1)]),(ii r.2.1)])/\G=[H0,H1,H2]
theorem tZ.c (H:tZ.f n goal bB=some r) (hG:fL 414 eZ hU el F) (iW:gL n cY ja):
 QR 68 [(pp cY),(ii goal),(ii bB)] [ja] [] F (tZ.R el cY r):=by
 unfold tZ.f at H;refine aB Tryz.func68 J J (λW=>rc T 2 (nc T J (λb2=>fz J (ro T 8 (kr (qB.R el cY) [] [0] J R_ H (qB.c · (dF hG (j:=0) J) iW) (λv1 H=>?_))))));rintro _ _ ⟨a3,n3,H3,a4,n4,H4,v5,H5,H6,s3,s4,s5,s6,rfl,rfl⟩;refine fz J (ro T 3 (nc T J (λb7=>fz J (jR T 6 J (ro T 4 (ks [6,8,9] J (fz J (rz [3] mix (bO bN) (λhg pf=>av 0 sz hg pf J (gA T 6 J J J J J J J) (ha T 3 [1] sz hg pf J (ao 2 (kh [] J Sa H (yT.c · (dF hG (j:=0) J) (rl s5 (j:=4) J)) (λv2 H=>an sz (ao 3 (iX T 1 J (an sl (hb T 4 sl hg pf J (ae (rx T 2 ?_)))))))))))))))))))
 cases H;exact pb T J (.cO (j:=1) [(ll a3 v1.1.fb n3),(ll a4 v1.1.cA n4)] J J J J J J J (.tmp J .nil)) [2,2,3,0] ⟨(_,_),a3,n3,H3,a4,n4,H4,H6,s3,s4,s6,J,J⟩ J J
def Cm.f (n:bZ):Option gx:=(yR.f n).bind λv1=>(mu.f n.aV v1).bind λv2=>(Et.f n.fJ).bind λv3=>(mu.f v2 v3).bind λv4=>some v4
theorem Cm.c (H:Cm.f n=some r) (iW:gL n cY ja):
 QU 52 [(pp cY)] [ja] F (.agg #[(uu r.bC),(uu r.bD),(uu r.bA),(uu r.bz),(uu r.bJ),(uu r.bF)]):=by
 unfold Cm.f at H;refine aB Tryz.func52 J J (λW=>rc T 2 (nc T J (λb2=>fz J (ro T 9 (eD J (rc T 3 ?_))))));obtain⟨b4,H4,xL,EB,EC,H5,s4,s5,dp⟩:=(λx=>x) iW;refine bP 0 (congrArg some dp) (fz J (ks [0,2] J (fz J (rz [13] mix (bO bN) (λhg pf=>ha T 11 [0,1,2] sz hg pf J (av 3 sz hg pf J (gA T 2 J J J J J J J) (ha T 6 [4,7,8,9] sz hg pf J (av 10 sz hg pf J (aw T J J J J (aF (j:=2) J J)) (ao 5 ?_)))))))));obtain⟨v1,V1,H⟩:=gj H;refine Iz (As:=[(cl cY 135 [xL,EB,EC,(pp b4),(uu n.aV.bC),(uu n.aV.bD),(uu n.aV.bA),(uu n.aV.bz),(uu n.aV.bJ),(uu n.aV.bF)]),H4,H5]) [2,2,2] J J J J S7 J J (IJ (A:=[ja]) (by simp only[dp,List.flatten_cons,List.flatten_append,List.flatten_nil,List.append_nil,List.append_assoc]) (yR.c V1 iW)) (an sz (ao 6 (kh [] J M6 H (mu.c ·) (λv2 H=>an sz (ao 11 (kh [3] J adC H (Et.c · s4) (λv3 H=>an sz (ao 12 (kh [] J M6 H (mu.c ·) (λv4 H=>an sz (ao 13 (iX T 1 J (an sl (ae (rx T 2 ?_)))))))))))))))
 cases H;refine cq [2,2,2] J dp (pb T J (.cO (j:=1) [(uu r.bC),(uu r.bD),(uu r.bA),(uu r.bz),(uu r.bJ),(uu r.bF)] J J J J J J J .nil) [2,0] () J J)
def vr.f (n:bZ):Option aJ:=dq n.core ((z7.f).bind λv2=>some v2) (λx1=>(wK.f x1.aK).bind λv3=>some v3)
def vr.R (r:aJ) (u:Value) (G:List Hp):Prop:= ∃(a0:Option Addr) (n0:Nat) (H0:Hp),ak (Fl.int .u8) 5 r.C a0 n0 H0/\u=(.agg #[(ii r.W),(ii r.H),(ll a0 r.C n0)])/\G=[H0]
theorem vr.c (H:vr.f n=some r) (iW:gL n cY ja):
 QR 43 [(pp cY)] [ja] [ja] F (vr.R r):=by
 unfold vr.f at H;refine aB Tryz.func43 J J (λW=>rc T 2 (nc T J (λb2=>fz J (ro T 9 (eD J (rc T 3 ?_))))));obtain⟨b4,H4,xL,EB,EC,H5,s4,s5,dp⟩:=(λx=>x) iW;refine bP 0 (congrArg some dp) (fz J ?_);rcases q1:n.core with _ |x1
 ·replace H:=eT q1 H;rw[q1] at s5;obtain⟨rfl,rfl,rfl,rfl⟩:=s5;refine rc T 4 (lf T 2 J (kr z7.R [] [] J S6 H (z7.c ·) (λv2 H=>?_)));rintro _ _ ⟨cy,n10,bX,bS,rfl,rfl⟩;refine fz J (jR T 1 J (ro T 3 ?_))
  cases H;refine cq [2,2,2] J dp (pb T J (.cO (j:=1) [(ii r.W),(ii r.H),(ll cy r.C n10)] J J J J J J J .nil) [2,2,0] ⟨(_,_),cy,n10,bX,bS,J,J⟩ J J)
 replace H:=eU q1 H;rw[q1] at s5;obtain⟨b7,H7,b8,H8,b9,H9,s7,s8,s9,rfl,rfl,rfl,oa⟩:=s5;refine bP 4 (congrArg some oa) (fz J (rc T 4 (lf T 2 J (kr wK.R [4] [4] J S6 H (wK.c · s7) (λv3 H=>?_)))));rintro _ _ ⟨du,n11,cB,cS,rfl,rfl⟩;refine fz J (jR T 1 J (ro T 3 ?_))
 cases H;refine cq [7,4,4] J oa (cq [2,2,3] J dp (pb T J (.cO (j:=1) [(ii r.W),(ii r.H),(ll du r.C n11)] J J J J J J J .nil) [2,2,0] ⟨(_,_),du,n11,cB,cS,J,J⟩ J J))
end
noncomputable section
def pk.f (kind:Int):Option (AD×Bool):=if(kind==1)=true then(some ((AD.mk 0 0 true),true)) else(if(kind==2)=true then(some ((AD.mk 4 1 false),true)) else((if(kind==3)=true then(some (kind==3)) else(if(kind==4)=true then(some (kind==4)) else(some (kind==6)))).bind λx1=>if x1=true then(some ((AD.mk 4 4 false),true)) else(if(kind==5)=true then(some ((AD.mk 4 0 false),true)) else((if(kind==7)=true then(some (kind==7)) else(some (kind==8))).bind λx3=>if x3=true then(some ((AD.mk 0 0 false),true)) else(some ((AD.mk 0 0 false),false))))))
theorem pk.c (H:pk.f kind=some r):
 QU 111 [(ii kind)] [] F (.tuple #[(.agg #[(ii r.1.a),(ii r.1.b),(bb r.1.load)]),(bb r.2)]):=by
 unfold pk.f at H;refine aB Tryz.func111 J J (λW=>rc T 2 (nc T J (λb1=>ro T 5 (nc T J (λb2=>ro T 29 (cb J H (λH=>?_) (λH=>?_)))))))
 ·refine rc T 8 (sg T 2 J (ro T 1 (ks [2,4] J (rx T 16 (lm T 2 J (sg T 1 J (ro T 1 (ro T 3 ?_))))))))
  cases H;exact pb T J (.cO (j:=1) [(ii 0),(ii 0),(bb true)] J J J J J J J (.tmp J .nil)) [0] () J J
 refine rc T 9 (cb J H (λH=>?_) (λH=>?_))
 ·refine rc T 10 (sg T 2 J (ro T 1 (sg T 2 J (ro T 1 (ks [2,4] J (rx T 14 (lm T 2 J (sg T 1 J (ro T 4 ?_)))))))))
  cases H;exact pb T J (.cO (j:=1) [(ii 4),(ii 1),(bb false)] J J J J J J J (.tmp J .nil)) [0] () J J
 refine rc T 3 (mq H [2,4,5] [0,0,0] (λz2 (x1:Bool)=>(x1=z2,[(10,(bb x1))],[])) J J (λz2 Z3 _=>?_) ?_)
 ·refine rc T 6 (cb J Z3 (λZ3=>?_) (λZ3=>?_))
  ·refine rc T 2 (am _ [0,0,0] (oi Z3) J J)
  refine rc T 6 (cb J Z3 (λZ3=>?_) (λZ3=>?_))
  ·refine rc T 2 (am _ [0,0,0] (oi Z3) J J)
  refine rc T 5 (am _ [0,0,0] (oi Z3) J J)
 rintro _ x1 rfl H;refine cb J H (λH=>?_) (λH=>?_)
 ·refine rc T 11 (sg T 2 J (ro T 5 (sg T 2 J (ro T 10 (lm T 2 J (sg T 1 J (ro T 1 (ro T 1 (ke [2,3] [0,0] J J (rx T 2 ?_))))))))))
  cases H;exact pb T J (.cO (j:=1) [(ii 4),(ii 4),(bb false)] J J J J J J J (.tmp J .nil)) [0] () J J
 refine rc T 9 (cb J H (λH=>?_) (λH=>?_))
 ·refine rc T 13 (sg T 2 J (ro T 10 (lm T 2 J (sg T 1 J (ro T 4 ?_)))))
  cases H;exact pb T J (.cO (j:=1) [(ii 4),(ii 0),(bb false)] J J J J J J J (.tmp J .nil)) [0] () J J
 refine rc T 2 (mq H [2,4] [0,0,0] (λz4 (x3:Bool)=>(x3=z4,[(16,(bb x3))],[])) J J (λz4 Z8 _=>?_) ?_)
 ·refine rc T 6 (cb J Z8 (λZ8=>?_) (λZ8=>?_))
  ·refine rc T 2 (am _ [0,0,0] (oi Z8) J J)
  refine rc T 5 (am _ [0,0,0] (oi Z8) J J)
 rintro _ x3 rfl H;refine cb J H (λH=>?_) (λH=>?_)
 ·refine rc T 19 (lm T 2 J (sg T 1 J (ro T 4 ?_)))
  cases H;exact pb T J (.cO (j:=1) [(ii 0),(ii 0),(bb false)] J J J J J J J (.tmp J .nil)) [0] () J J
 refine rc T 19 (sg T 1 J (ro T 7 ?_))
 cases H;exact pb T J (.cO (j:=1) [(ii 0),(ii 0),(bb false)] J J J J J J J (.tmp J .nil)) [0] () J J
def qD.l0:Nat->(List Int)->Int->Int->Option Int
 |0,_,_,_=>none
 |k5+1,b,x3,x4=>if x4<(List.length b:Int) then(if(0<=x4/\x4<(List.length b:Int)) then(if(0<=(aa (8*x4))) then(qD.l0 k5 b (aa (BitVec.toNat (BitVec.ofInt (IntKind.bits .i64) x3|||BitVec.ofInt (IntKind.bits .i64) (aa ((aa (rd b x4))*(2^(min (Int.toNat (aa (8*x4))) (IntKind.bits .i64)))))))) (aa (x4+1))) else none) else none) else(some x3)
def qD.f (b:(List Int)):Option Int:=qD.l0 fuel b 0 0
theorem qD.c (H:qD.f b=some r) (g_:aT (Fl.int .u8) b jX F) (gm:List.length b<=jL):
 QU 190 [(ll jX b jL)] [] F (ii r):=by
 unfold qD.f at H;refine aB Tryz.func190 J J (λW=>rc T 19 (lq [6,7] [0] (λ(⟨k5,x3,x4⟩:Nat×Int×Int)=>(qD.l0 k5 b x3 x4=some r,[(3,(ii x3)),(8,(ii x4))],[])) J J (fuel,0,0) [0] H J J ?_));rintro k5 ⟨x3,x4⟩ Z1;replace Z1:qD.l0 (k5+1) b x3 x4=some r:=Z1;rw[qD.l0] at Z1;refine rc T 6 (cd J Z1 (λZ1=>?_) (λZ1=>?_))
 ·refine rc T 7 ?_;obtain⟨c3,Z1⟩:=az Z1;obtain⟨q1,o1,e1⟩:=g_.addr c3.1 c3.2;refine ix T J e1 c3 (le T 0 (rO g_ 0) e1 c3 J J (ro T 10 ?_));obtain⟨c4,Z1⟩:=az Z1;refine br J (Rv J J J c4) (ro T 10 (ar (_,_) [0] Z1 J J))
 refine rc T 12 ?_
 cases Z1;exact p0 T J [0] J
def AB.f (b:(List Int)):Option (dn×Int):=if(0<=(0:Int)/\(0:Int)<(List.length b:Int)) then(if(0<=(1:Int)/\(1:Int)<=(List.length b:Int)/\(List.length b:Int)<=(List.length b:Int)) then((pk.f (aa (rd b 0))).bind λv1=>if(!v1.2)=true then(some ((dn.mk 0 (aa (rd b 0)) 0 []),1)) else(if v1.1.load=true then(if(List.length (aA b 1 (List.length b:Int)):Int)<4 then(some ((dn.mk 0 0 0 []),0)) else(if(0<=(0:Int)/\(0:Int)<=(4:Int)/\(4:Int)<=(List.length (aA b 1 (List.length b:Int)):Int)) then((qD.f (aA (aA b 1 (List.length b:Int)) 0 4)).bind λv2=>if(aa ((List.length (aA b 1 (List.length b:Int)):Int)-4))<v2 then(some ((dn.mk 0 0 0 []),0)) else(if(0<=(4:Int)/\(4:Int)<=(aa (4+v2))/\(aa (4+v2))<=(List.length (aA b 1 (List.length b:Int)):Int)) then(if(List.length ([]:List Int)+List.length (aA (aA b 1 (List.length b:Int)) 4 (aa (4+v2)))<=1099511627776) then(some ((dn.mk (aa (rd b 0)) 0 0 ([]++(aA (aA b 1 (List.length b:Int)) 4 (aa (4+v2))))),(aa (5+v2)))) else none) else none)) else none)) else(if(List.length (aA b 1 (List.length b:Int)):Int)<(aa (v1.1.a+v1.1.b)) then(some ((dn.mk 0 0 0 []),0)) else(if(0<=(0:Int)/\(0:Int)<=v1.1.a/\v1.1.a<=(List.length (aA b 1 (List.length b:Int)):Int)) then(if(0<=v1.1.a/\v1.1.a<=(aa (v1.1.a+v1.1.b))/\(aa (v1.1.a+v1.1.b))<=(List.length (aA b 1 (List.length b:Int)):Int)) then((qD.f (aA (aA b 1 (List.length b:Int)) 0 v1.1.a)).bind λv3=>(qD.f (aA (aA b 1 (List.length b:Int)) v1.1.a (aa (v1.1.a+v1.1.b)))).bind λv4=>some ((dn.mk (aa (rd b 0)) v3 v4 []),(aa ((aa (1+v1.1.a))+v1.1.b)))) else none) else none)))) else none) else none
def AB.R (r:(dn×Int)) (u:Value) (G:List Hp):Prop:= ∃(a0:Option Addr) (n0:Nat) (H0:Hp),ak (Fl.int .u8) 5 r.1.Map a0 n0 H0/\u=(.tuple #[(.agg #[(ii r.1.Kind),(ii r.1.A),(ii r.1.B),(ll a0 r.1.Map n0)]),(ii r.2)])/\G=[H0]
theorem AB.c (H:AB.f b=some r) (g_:aT (Fl.int .u8) b jX F) (gm:List.length b<=jL):
 QR 146 [(ll jX b jL)] [] [] F (AB.R r):=by
 unfold AB.f at H;refine aB Tryz.func146 J J (λW=>rc T 2 (nc T J (λb1=>ro T 4 (dA mix ay (aj T J ?_)))));obtain⟨c1,H⟩:=az H;obtain⟨q2,o2,e2⟩:=g_.addr c1.1 c1.2;refine aO J J J (cn T J J J J J e2 c1.1 c1.2) (aO J J J (aw T J J J J (e_ (k:=(Fl.int .u8)) (rO g_ 0) e2 c1 0 J)) (aj T J (aj T J ?_)));obtain⟨c2,H⟩:=az H;refine aO J J J (kt T J J J J J J c2 gm) (aj T J (aj T J (cH (rx T 4 (k [] J MK H (pk.c ·) (λv1 H=>ro T 3 (nc T J (λb3=>sg T 2 J (ro T 10 (cb J H (λH=>?_) (λH=>?_)))))))))))
 ·refine rc T 4 (sg T 1 J (ro T 2 (ke [2,3] [0,0] J J (rx T 3 ?_))))
  cases H;refine bq (pb T J (.cO (j:=1) [(ii 0),(ii (aa (rd b 0))),(ii 0),nl] J J J J J J J (.tmp J .nil)) [2,0] ⟨(_,_),none,0,[],ak.nil,J,J⟩ J J)
 refine rc T 6 (lf T 2 J (ro T 2 (cb J H (λH=>?_) (λH=>?_))))
 ·refine rc T 8 (cd J H (λH=>?_) (λH=>?_))
  ·refine rc T 3 (sg T 1 J (ro T 6 ?_))
   cases H;refine bq (pb T J (.cO (j:=1) [(ii 0),(ii 0),(ii 0),nl] J J J J J J J (.tmp J .nil)) [3,0] ⟨(_,_),none,0,[],ak.nil,J,J⟩ J J)
  refine rc T 5 ?_;obtain⟨c7,H⟩:=az H;refine br J (kt T J J J J J J c7 (mr c2 gm)) (k [] J MQ H (qD.c · (mQ (mQ (rO g_ 0) c2 gm) c7 (mr c2 gm)) (mr c7 (mr c2 gm))) (λv2 H=>ro T 13 (cd J H (λH=>?_) (λH=>?_))))
  ·refine rc T 3 (sg T 1 J (ro T 6 ?_))
   cases H;refine bq (pb T J (.cO (j:=1) [(ii 0),(ii 0),(ii 0),nl] J J J J J J J (.tmp J .nil)) [3,0] ⟨(_,_),none,0,[],ak.nil,J,J⟩ J J)
  refine rc T 8 ?_;obtain⟨gk,H⟩:=az H;refine br J (kt T J J J J J J gk (mr c2 gm)) (bq ?_);obtain⟨eh,H⟩:=az H;refine aX (dR (k:=(Fl.int .u8)) (xs:=([]:List Int)) T (g:=3) J J J J J J J J J J ak.nil (mQ (mQ (rO g_ 0) c2 gm) gk (mr c2 gm)) eh J (λa8 n8 H8 s8=>ro T 3 (sg T 1 J (ro T 2 (ke [2,3] [0,0,1] J J (rx T 3 ?_))))))
  cases H;exact pb T J (.cO (j:=1) [(ii (aa (rd b 0))),(ii 0),(ii 0),(ll a8 ([]++(aA (aA b 1 (List.length b:Int)) 4 (aa (4+v2)))) n8)] J J J J J J J (.tmp J .nil)) [2,0] ⟨(_,_),a8,n8,H8,s8,J,J⟩ J J
 refine rc T 8 (lf T 2 J (ro T 1 (lf T 2 J (ro T 4 (cd J H (λH=>?_) (λH=>?_))))))
 ·refine rc T 3 (sg T 1 J (ro T 5 ?_))
  cases H;refine bq (pb T J (.cO (j:=1) [(ii 0),(ii 0),(ii 0),nl] J J J J J J J (.tmp J .nil)) [3,0] ⟨(_,_),none,0,[],ak.nil,J,J⟩ J J)
 refine rc T 3 (ks [2,4,5,6] J (fz J (rg [] [0,1] mix (bO bN) (λhg pf=>ha T 22 [0,1,2] (so [0,1]) hg pf J (av 3 (so [0,1]) hg pf J (aw T J J J J (aF (j:=1) J J)) ?_)))));obtain⟨je,H⟩:=az H;refine av 4 (so [0,1]) hg pf J (kt T J J J J J J je (mr c2 gm)) (ha T 18 [6,7] (so [0,1]) hg pf J (av 8 (so [0,1]) hg pf J (aw T J J J J (aF (j:=1) J J)) (ha T 16 [9] (so [0,1]) hg pf J (av 10 (so [0,1]) hg pf J (aw T J J J J (aF (j:=1) J J)) (ha T 14 [11] (so [0,1]) hg pf J (av 12 (so [0,1]) hg pf J (aw T J J J J (aF (j:=1) J J)) (ha T 12 [13] (so [0,1]) hg pf J ?_)))))));obtain⟨oL,H⟩:=az H;refine av 14 (so [0,1]) hg pf J (kt T J J J J J J oL (mr c2 gm)) (ha T 10 [17] (so [0,1]) hg pf J (av 18 (so [0,1]) hg pf J (aw T J J J J (aF (j:=1) J J)) (ha T 7 [19,20] (so [0,1]) hg pf J (av 21 (so [0,1]) hg pf J (aw T J J J J (aF (j:=1) J J)) (ha T 5 [22] (so [0,1]) hg pf J (ao 5 (kh [] J MQ H (qD.c · (mQ (mQ (rO g_ 0) c2 gm) je (mr c2 gm)) (mr je (mr c2 gm))) (λv3 H=>an (so [0,1]) (ao 15 (kh [] J MQ H (qD.c · (mQ (mQ (rO g_ 0) c2 gm) oL (mr c2 gm)) (mr oL (mr c2 gm))) (λv4 H=>an (so [0,1]) (ha T 2 [16] (so [0,1]) hg pf J (ao 23 (sf T 1 J (an (so [0,1]) (ha T 0 [24] (so [0,1]) hg pf J (ae (rx T 1 (rc T 1 ?_)))))))))))))))))))
 cases H;refine bq (pb T J (.cO (j:=1) [(ii (aa (rd b 0))),(ii v3),(ii v4),nl] J J J J J J J (.tmp J .nil)) [3,0] ⟨(_,_),none,0,[],ak.nil,J,J⟩ J J)
def GQ.f (b:(List Int)):Option Bool:=if((List.length b:Int)==0)=true then(some false) else((AB.f b).bind λv1=>some (v1.2==0))
theorem GQ.c (H:GQ.f b=some r) (g_:aT (Fl.int .u8) b jX F) (gm:List.length b<=jL):
 QU 110 [(ll jX b jL)] [] F (bb r):=by
 unfold GQ.f at H;refine aB Tryz.func110 J J (λW=>rc T 13 (cb J H (λH=>?_) (λH=>?_)))
 ·refine rc T 7 ?_
  cases H;exact p0 T J [0] J
 refine rc T 5 (kr AB.R [] [] J ab0 H (AB.c · (rO g_ 0) gm) (λv1 H=>?_));rintro _ _ ⟨a1,n1,H1,s1,rfl,rfl⟩;refine fz J (ro T 3 (nc T J (λb2=>sg T 2 J (ro T 11 ?_))))
 cases H;exact p0 T J [0] J
def rF.f (n:Int) (ai:Int):Option Bool:=if n≥0 then(if(0<=(aa (8*ai))) then(some (decide (n<(aa (1*(2^(min (Int.toNat (aa (8*ai))) (IntKind.bits .i64)))))))) else none) else(some false)
theorem rF.c (H:rF.f n ai=some r):
 QU 112 [(ii n),(ii ai)] [] F (bb r):=by
 unfold rF.f at H;refine aB Tryz.func112 J J (λW=>rc T 10 (ad 7 J H (λH=>?_) (λH=>?_)))
 ·refine ro T 3 ?_;obtain⟨c2,H⟩:=az H;refine br J (Rv J J J c2) (ro T 6 ?_)
  cases H;exact p0 T J [0] J
 refine ro T 10 ?_
 cases H;exact p0 T J [0] J
def Cr.f (o:dn):Option Bool:=if(o.Kind==0)=true then(if(o.A==(-1))=true then((if(o.B==0)=true then((GQ.f o.Map).bind λv3=>some v3) else(some false)).bind λx1=>some x1) else((pk.f o.A).bind λv4=>((rF.f o.A 1).bind λv7=>if(v7&&(!v4.2))=true then(if(o.B==0)=true then(some ((List.length o.Map:Int)==0)) else(some false)) else(some false)).bind λx5=>some x5)) else((pk.f o.Kind).bind λv8=>(if v8.2=true then((rF.f o.A v8.1.a).bind λv11=>if v11=true then((rF.f o.B v8.1.b).bind λv12=>if v12=true then(if((List.length o.Map:Int)==0)=true then(some true) else(if v8.1.load=true then(some (decide ((List.length o.Map:Int)<=4294967295))) else(some false))) else(some false)) else(some false)) else(some false)).bind λx9=>some x9)
theorem Cr.c (H:Cr.f o=some r) (z_:aT (Fl.int .u8) o.Map Br F) (zO:List.length o.Map<=Ck):
 QU 82 [(.agg #[(ii o.Kind),(ii o.A),(ii o.B),(ll Br o.Map Ck)])] [] F (bb r):=by
 unfold Cr.f at H;refine aB Tryz.func82 J J (λW=>rc T 2 (nc T J (λb1=>ro T 7 (lf T 1 J (ro T 3 (cb J H (λH=>?_) (λH=>?_)))))))
 ·refine rc T 4 (lf T 1 J (ro T 3 (cb J H (λH=>?_) (λH=>?_))))
  ·refine mq H [] [0] (λz2 (x1:Bool)=>(x1=z2,[(2,(bb x1))],[])) J J (λz2 Z3 _=>?_) ?_
   ·refine rc T 2 (lf T 1 J (ro T 2 (ab 16 J Z3 (λZ3=>?_) (λZ3=>?_))))
    ·refine ro T 1 (lf T 1 J (k [] J abL Z3 (GQ.c · (rO z_ 0) zO) (λv3 Z3=>ro T 4 (am _ [0] (oi Z3) J J))))
    refine ro T 7 (am _ [0] (oi Z3) J J)
   rintro _ x1 rfl H;refine rc T 3 ?_
   cases H;exact p0 T J [0] J
  refine rc T 5 (lf T 1 J (k [] J MK H (pk.c ·) (λv4 H=>ro T 3 (nc T J (λb2=>sg T 2 J (ro T 3 (mq H [] [0] (λz6 (x5:Bool)=>(x5=z6,[(2,(bb x5))],[])) J J (λz6 Z7 _=>?_) ?_)))))))
  ·refine rc T 2 (lf T 1 J (k [] J ML Z7 (rF.c ·) (λv7 Z7=>ro T 1 (ga T [4,5,6] 30 [1] 33 J J J J J J J (ro T 1 (ab 34 J Z7 (λZ7=>?_) (λZ7=>?_)))))))
   ·refine ro T 1 (lf T 1 J (ro T 3 (ab 39 J Z7 (λZ7=>?_) (λZ7=>?_))))
    ·refine ro T 1 (lf T 1 J (ro T 6 (am _ [0] (oi Z7) J J)))
    refine ro T 8 (am _ [0] (oi Z7) J J)
   refine ro T 13 (am _ [0] (oi Z7) J J)
  rintro _ x5 rfl H;refine rc T 2 ?_
  cases H;exact p0 T J [0] J
 refine rc T 5 (lf T 1 J (k [] J MK H (pk.c ·) (λv8 H=>ro T 3 (nc T J (λb3=>sg T 2 J (ro T 3 (mq H [] [0] (λnT (x9:Bool)=>(x9=nT,[(2,(bb x9))],[])) J J (λnT bp _=>?_) ?_)))))))
 ·refine rc T 3 (ab 52 J bp (λbp=>?_) (λbp=>?_))
  ·refine ro T 1 (lf T 1 J (ro T 1 (lf T 2 J (k [] J ML bp (rF.c ·) (λv11 bp=>ro T 2 (ab 59 J bp (λbp=>?_) (λbp=>?_)))))))
   ·refine ro T 1 (lf T 1 J (ro T 1 (lf T 2 J (k [] J ML bp (rF.c ·) (λv12 bp=>ro T 2 (ab 66 J bp (λbp=>?_) (λbp=>?_)))))))
    ·refine ro T 1 (lf T 1 J (ro T 3 (ab 71 J bp (λbp=>?_) (λbp=>?_))))
     ·refine ro T 13 (am _ [0] (oi bp) J J)
     refine ro T 1 (lf T 2 J (ro T 1 (ab 74 J bp (λbp=>?_) (λbp=>?_))))
     ·refine ro T 1 (lf T 1 J (ro T 8 (am _ [0] (oi bp) J J)))
     refine ro T 10 (am _ [0] (oi bp) J J)
    refine ro T 18 (am _ [0] (oi bp) J J)
   refine ro T 25 (am _ [0] (oi bp) J J)
  refine ro T 32 (am _ [0] (oi bp) J J)
 rintro _ x9 rfl H;refine rc T 1 ?_
 cases H;exact p0 T J [0] J
end
end Go.Proofs.YthodkonhneebbaaGreatDoor
