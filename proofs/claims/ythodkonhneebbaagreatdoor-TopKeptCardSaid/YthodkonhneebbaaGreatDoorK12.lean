/- What the functions of some packages compute, each as a function of plain Lean, with its contract. No condition. -/
import Derived.Test.YthodkonhneebbaaGreatDoorKT
import Derived.Test.YthodkonhneebbaaGreatDoorK6
import Derived.Test.YthodkonhneebbaaGreatDoorK7
import Derived.Test.YthodkonhneebbaaGreatDoorK11
import Derived.Test.YthodkonhneebbaaGreatDoorK10
namespace Go.Hx
section
variable {W : World} {P : Program} {n : Nat} {F K : Act -> World -> Prop} {Q : Exit -> Act -> World -> Prop} {env : Env} {HL : List Hp} {ops : Array Oper} {i : Nat} {rest : List Nat}
def gqF (js:List Nat) (HL:List Hp):Option (List Hp):=fH (sR js HL++[(sA js HL).flatten])
theorem gq (js:List Nat) {jS:List Hp} (hs:gqF js HL=some jS) (h:aG W n F env jS):aG W n F env HL:=gj js (AV js HL) (by rw[BL hs];exact h)
def QV (js:List Nat) (HL:List Hp):Option (List Hp×List Hp):=match fH (sA js HL),fH (sR js HL) with
 |some A,some R=>some (A,R)
 |_,_=>none
theorem cq (js:List Nat) {As R:List Hp} {H:Hp} (hs:QV js HL=some (As,R)) (hH:H=As.flatten) (h:aG W n F env (R++[H])):aG W n F env HL:=by
 unfold QV at hs;split at hs
 ·rename_i A R' h1 h2;simp only[Option.some.injEq,Prod.mk.injEq] at hs;obtain⟨rfl,rfl⟩:=hs;exact cV js (by rw[AV,BL h1,BL h2]) hH h
 ·cases hs
theorem aq {jS:List Hp} (hs:fH (HL++[[]])=some jS) (h:aG W n F env jS):aG W n F env HL:=br (by rw[BL hs];exact h)
theorem rq (late js:List Nat) {id:Nat} {H0:List Hp} (h0:nH js HL=some H0) (hm:P.follows .mixedOrders=true) (jZ:PF Q)
 (h:oR ops (Dl ops)=true->PF Q->aG W n (gF P ops Q (SO W H0) late ops.size (Array.replicate ops.size false)) env HL) (hg:oR ops (Dl ops)=true:=by kernel_rfl):
 aG W n ((Code.region id ops true).wp P Q) env HL:=rg late js hm jZ (by rw[GP h0];exact h) hg
def KJ (T:Ty P) (ops:Array Oper) (env:Env) (i j:Nat) (HL:List Hp):Option (Nat×Nat×List Hp):=match Hv T ops env i j HL with
 |some (a,b,L)=>match fH L with
  |some L'=>some (a,b,L')
  |none=>none
 |none=>none
theorem WA {T:Ty P} {j:Nat} {a b:Nat} {jS:List Hp} (h:KJ T ops env i j HL=some (a,b,jS)):Hv T ops env i j HL=some (a,b,jS):=by
 unfold KJ at h;split at h
 ·rename_i a' b' L h1;split at h
  ·rename_i L' h2;simp only[Option.some.injEq,Prod.mk.injEq] at h;obtain⟨rfl,rfl,rfl⟩:=h;rw[h1,BL h2]
  ·cases h
 ·cases h
theorem iT (T:Ty P) {b:Nat} {jS:List Hp} (j:Nat) (h1:KJ T ops env i j HL=some (b,b,jS)) (h:aG W n K env jS):aG W n (wpOp P ops Q i K) env HL:=sf T j (WA h1) h
theorem jP (T:Ty P) {b:Nat} {jS:List Hp} (j:Nat) (h1:KJ T ops env i j HL=some (b,b,jS)) (h:aG W n (wpOps P ops Q rest) env jS):aG W n (wpOps P ops Q (i::rest)) env HL:=sg T j (WA h1) h
theorem aeR {A B X:Hp} (h:X=List.flatten [A,B]): ∃C:Hp,C=B/\X=List.flatten [A,C]:=⟨_,J,h⟩
end
end Go.Hx
namespace Go.Proofs.YthodkonhneebbaaGreatDoor
open Go.Hx
set_option maxRecDepth 100000
set_option linter.unusedSimpArgs false
set_option linter.unusedVariables false
set_option maxHeartbeats 4000000
set_option autoImplicit true
set_option relaxedAutoImplicit true
noncomputable section
def xq.f (ag:Int):Option (Option bY):=if ag<1 then(some none) else((xE.f ag).bind λv1=>c_ v1 (none) (λeW=>some (some (bY.mk none eW (gv.mk 0 0 0 0 0 0)))))
def xq.R (r:(Option bY)) (u:Value) (G:List Hp):Prop:= ∃(u0:Value) (G0:List Hp),Xu r u0 G0/\u=u0/\G=G0
theorem xq.c (H:xq.f ag=some r):
 QR 51 [(ii ag)] [] [] F (xq.R r):=by
 unfold xq.f at H;refine aB Tryz.func51 J J (λW=>rc T 12 (cd J H (λH=>?_) (λH=>?_)))
 ·refine rc T 7 ?_
  cases H;exact p1 T J [0] ⟨_,_,⟨J,J⟩,J,J⟩ J
 refine rc T 5 (kr xE.R [] [] J adJ H (xE.c ·) (λv1 H=>?_));rintro _ _ ⟨_,_,O3,rfl,rfl⟩;rcases v1 with _ |eW
 ·replace H:=eJ J H
  cases H
 replace H:=eK J H;obtain⟨b1,H1,s1,rfl,rfl⟩:=O3;refine ro T 1 (nc T J (λb2=>fz J (ro T 4 ?_)))
 cases H;refine aq J (gq [2,1,1] J (p1 T J [1,0] ⟨_,_,⟨b2,(List.flatten [(cl b2 135 [(.pointer none),(.pointer none),(.pointer none),(pp b1),(uu 0),(uu 0),(uu 0),(uu 0),(uu 0),(uu 0)]),H1,[]]),(show gi (bY.mk none eW (gv.mk 0 0 0 0 0 0)) b2 (List.flatten [(cl b2 135 [(.pointer none),(.pointer none),(.pointer none),(pp b1),(uu 0),(uu 0),(uu 0),(uu 0),(uu 0),(uu 0)]),H1,[]]) from⟨b1,H1,(.pointer none),(.pointer none),(.pointer none),[],s1,(show uC none (.pointer none) (.pointer none) (.pointer none) [] from⟨J,J,J,J⟩),J⟩),J,J⟩,J,J⟩ J))
def sP.f (n:bY) (cell:Int):Option Int:=c_ n.core (none) (λx1=>(je.f x1.aI cell).bind λv2=>some v2)
theorem sP.c (H:sP.f n cell=some r) (gS:gi n cN gI):
 QU 113 [(pp cN),(ii cell)] [gI] F (ii r):=by
 unfold sP.f at H;refine aB Tryz.func113 J J (λW=>rc T 12 (dW J (rc T 3 ?_)));obtain⟨b3,H3,p_,HG,HH,H4,s3,s4,bT⟩:=(λx=>x) gS;refine bz 0 (congrArg some bT) (fz J ?_);rcases q1:n.core with _ |x1
 ·replace H:=eJ q1 H
  cases H
 replace H:=eK q1 H;rw[q1] at s4;obtain⟨b6,H6,b7,H7,b8,H8,s6,s7,s8,rfl,rfl,rfl,sD⟩:=s4;refine bz 3 (congrArg some sD) (fz J (rc T 4 (lf T 1 J (ro T 1 (k [3] J u9 H (je.c · s6) (λv2 H=>ro T 4 ?_))))))
 cases H;refine cq [3,3,3] J sD (cq [1,1,1] J bT (p0 T J [1,0] J))
def y5.f (n:bY):Option gv:=c_ n.core ((GJ.f).bind λv2=>(G3.f).bind λv3=>some (gv.mk v2 v3 0 0 0 0)) (λx1=>(GK.f x1.hZ x1.aI).bind λv4=>(G4.f x1.gZ x1.hZ x1.aI).bind λv5=>some (gv.mk v4 v5 0 0 0 0))
theorem y5.c (H:y5.f n=some r) (gS:gi n cN gI):
 QU 79 [(pp cN)] [gI] F (.agg #[(uu r.bC),(uu r.bD),(uu r.bA),(uu r.bx),(uu r.bM),(uu r.bE)]):=by
 unfold y5.f at H;refine aB Tryz.func79 J J (λW=>rc T 2 (nc T J (λb2=>fz J (ro T 3 ?_))));obtain⟨b4,H4,xW,EE,EF,H5,s4,s5,dp⟩:=(λx=>x) gS;refine bz 0 (congrArg some dp) (fz J ?_);rcases q1:n.core with _ |x1
 ·replace H:=eJ q1 H;rw[q1] at s5;obtain⟨rfl,rfl,rfl,rfl⟩:=s5;refine ks [0,2] J (fz J (rz [11] mix (bO bN) (λhg pf=>ha T 9 [0,1,2] sz hg pf J (av 3 sz hg pf J (aw T J J J J (aD (j:=2) J J)) (ha T 5 [5,6,7] sz hg pf J (av 8 sz hg pf J (aw T J J J J (aD (j:=2) J J)) (ao 4 (kh [] J Se H (GJ.c ·) (λv2 H=>an sz (ao 9 (kh [] J Sf H (G3.c ·) (λv3 H=>an sz (ha T 1 [10] sz hg pf J (ao 11 (iT T 1 J (an sl (ae (rx T 2 ?_))))))))))))))))))
  cases H;refine cq [2,2,2] J dp (pb T J (.cQ (j:=1) [(uu v2),(uu v3),(uu 0),(uu 0),(uu 0),(uu 0)] J J J J J J J .nil) [2,0] () J J)
 replace H:=eK q1 H;rw[q1] at s5;obtain⟨b7,H7,b8,H8,b9,H9,s7,s8,s9,rfl,rfl,rfl,oa⟩:=s5;refine bz 4 (congrArg some oa) (fz J (ks [0,2] J (fz J (rz [11] mix (bO bN) (λhg pf=>ha T 9 [0,1,2] sz hg pf J (av 3 sz hg pf J (aw T J J J J (aD (j:=2) J J)) (ha T 5 [5,6,7] sz hg pf J (av 8 sz hg pf J (aw T J J J J (aD (j:=2) J J)) (ao 4 (kh [5,4] J Se H (GK.c · s8 s7) (λv4 H=>an sz (ao 9 (kh [6,5,4] J Sf H (G4.c · s9 s8 s7) (λv5 H=>an sz (ha T 1 [10] sz hg pf J (ao 11 (iT T 1 J (an sl (ae (rx T 2 ?_))))))))))))))))))))
 cases H;refine cq [4,4,4] J oa (cq [2,2,2] J dp (pb T J (.cQ (j:=1) [(uu v4),(uu v5),(uu 0),(uu 0),(uu 0),(uu 0)] J J J J J J J .nil) [2,0] () J J))
def xo.f (n:bY) (m:aJ):Option (Int×bY):=(ym.f m).bind λv1=>if(!v1)=true then(some (6,n)) else((y5.f n).bind λv2=>(mi.f n.aU v2).bind λv3=>c_ n.core ((FC.f).bind λv5=>(lP.f m v5).bind λv6=>c_ v6 (none) (λxZ=>(rI.f xZ).bind λv7=>c_ v7 (none) (λqW=>(sW.f qW xZ).bind λv8=>c_ v8 (none) (λEK=>(pw.f n.eh).bind λv9=>some (0,(bY.mk (some (eI.mk xZ qW EK)) v9 v3)))))) (λx4=>(oS.f x4.aI).bind λv10=>(lP.f m v10).bind λv11=>c_ v11 (none) (λzG=>(rI.f zG).bind λv12=>c_ v12 (none) (λHX=>(sW.f HX zG).bind λgT=>c_ gT (none) (λK5=>(pw.f n.eh).bind λbZ=>some (0,(bY.mk (some (eI.mk zG HX K5)) bZ v3)))))))
def xo.R (sk:Nat) (r:(Int×bY)) (u:Value) (G:List Hp):Prop:= ∃(H0:Hp),gi r.2 sk H0/\u=(ii r.1)/\G=[H0]
theorem xo.c (H:xo.f n m=some r) (gS:gi n cN gI) (sE:aS (Fl.int .u8) m.C oD F) (uM:List.length m.C<=oo):
 QR 115 [(pp cN),(.agg #[(ii m.W),(ii m.H),(ll oD m.C oo)])] [gI] [] F (xo.R cN r):=by
 unfold xo.f at H;refine aB Tryz.func115 J J (λW=>rc T 2 (nc T J (λb2=>fz J (ro T 12 (dW J (rc T 2 (lm T 2 J (k [] J Sm H (ym.c · (rO sE 1) uM) (λv1 H=>ro T 4 (cb J H (λH=>?_) (λH=>?_)))))))))))
 ·refine rc T 8 ?_
  cases H;exact p1 T J [0,0] ⟨gI,gS,J,J⟩ J
 refine rc T 4 ?_;obtain⟨b4,H4,xW,EE,EF,H5,s4,s5,dp⟩:=(λx=>x) gS;refine bz 0 (congrArg some dp) (fz J (ks [0,3] J (fz J (rz [10] mix (bO bN) (λhg pf=>ha T 7 [0,1,2,3] sz hg pf J (av 4 sz hg pf J (gA T 2 J J J J J J J) (ha T 5 [5] sz hg pf J (ao 6 ?_))))))));obtain⟨v2,V3,H⟩:=fY H;refine IF (As:=[(cl cN 135 [xW,EE,EF,(pp b4),(uu n.aU.bC),(uu n.aU.bD),(uu n.aU.bA),(uu n.aU.bx),(uu n.aU.bM),(uu n.aU.bE)]),H4,H5]) [2,2,2] J J J J S7 J J (IU (A:=[gI]) (by simp only[dp,List.flatten_cons,List.flatten_append,List.flatten_nil,List.append_nil,List.append_assoc]) (y5.c V3 gS)) (an sz (ao 7 (kh [] J Nb H (mi.c ·) (λv3 H=>an sz (ha T 1 [8,9] sz hg pf J (ao 10 (iT T 2 J (an sl (ae (rx T 2 ?_))))))))))
 rcases q5:n.core with _ |x4
 ·replace H:=eJ q5 H;rw[q5] at s5;obtain⟨rfl,rfl,rfl,rfl⟩:=s5;refine ks [0,3] J (fz J (rq [10] [0,0,0,0,0] J mix (bO bN) (λhg pf=>ha T 10 [0] sz hg pf J (av 1 sz hg pf J (gA T 1 J J J J J J J) (ha T 6 [2,3,4] sz hg pf J (av 5 sz hg pf J (aw T J J J J (aD (j:=2) J J)) (ao 6 (kh [] J BQ H (FC.c ·) (λv5 H=>an sz (ao 7 (kR lP.R [] [] J Sn H (lP.c · (rO sE 0) uM) (λv6 H=>?_))))))))))));rintro _ _ ⟨_,_,O8,rfl,rfl⟩;rcases v6 with _ |xZ
  ·replace H:=eJ J H
   cases H
  replace H:=eK J H;obtain⟨fL,bV,bS,rfl,rfl⟩:=O8;refine an (so [0,0,0,0,0]) (ha T 1 [8,9] (so [0,0,0,0,0]) hg pf J (ao 10 (iT T 2 J (an sl (ae (rx T 7 (lf T 2 J (kr (rI.R fL) [5] [5] J Sp H (rI.c · bS) (λv7 H=>?_)))))))));rintro _ _ ⟨_,_,Lc,rfl,rfl⟩;rcases v7 with _ |qW
  ·replace H:=eJ J H
   cases H
  replace H:=eK J H;obtain⟨jG,cA,cS,rfl,rfl⟩:=Lc;refine ro T 2 (jP T 2 J (ro T 3 (ke [0] [0,1,1,1,1,1] J J (fz J (rq [12] [0,0,0,0,0,0] J mix (bO bN) (λhg pf=>ha T 9 [0,1,2,3] sz hg pf J (av 4 sz hg pf J (aw T J J J J (aD (j:=1) J J)) (ha T 5 [5,6,7] sz hg pf J (av 8 sz hg pf J (aw T J J J J (aD (j:=1) J J)) (ao 9 (kR (sW.R jG fL) [4,4] [4,4] J Sq H (sW.c · cS bS) (λv8 H=>?_))))))))))));rintro _ _ ⟨_,_,Xk,rfl,rfl⟩;rcases v8 with _ |EK
  ·replace H:=eJ J H
   cases H
  replace H:=eK J H;obtain⟨ki,dw,dD,rfl,rfl⟩:=Xk;refine an (so [0,0,0,0,1,1]) (ha T 1 [10,11] (so [0,0,0,0,1,1]) hg pf J (ao 12 (iT T 1 J (an sl (ae (rx T 6 (lf T 1 J (kr (pw.R b4) [] [2] J MR H (pw.c · s4) (λv9 H=>?_)))))))));rintro _ _ ⟨eo,dh,rfl,rfl⟩;refine fz J (ro T 8 ?_)
  cases H;refine gq [5,4,3] J (gq [1,2,2] J (p1 T J [2,0] ⟨(List.flatten [(cl cN 135 [(pp fL),(pp jG),(pp ki),(pp b4),(uu v3.bC),(uu v3.bD),(uu v3.bA),(uu v3.bx),(uu v3.bM),(uu v3.bE)]),eo,(List.flatten [bV,cA,dw])]),(show gi (bY.mk (some (eI.mk xZ qW EK)) v9 v3) cN (List.flatten [(cl cN 135 [(pp fL),(pp jG),(pp ki),(pp b4),(uu v3.bC),(uu v3.bD),(uu v3.bA),(uu v3.bx),(uu v3.bM),(uu v3.bE)]),eo,(List.flatten [bV,cA,dw])]) from⟨b4,eo,(pp fL),(pp jG),(pp ki),(List.flatten [bV,cA,dw]),dh,(show uC (some (eI.mk xZ qW EK)) (pp fL) (pp jG) (pp ki) (List.flatten [bV,cA,dw]) from⟨fL,bV,jG,cA,ki,dw,bS,cS,dD,J,J,J,J⟩),J⟩),J,J⟩ J))
 replace H:=eK q5 H;rw[q5] at s5;obtain⟨b7,H7,b8,H8,b9,H9,s7,s8,s9,rfl,rfl,rfl,oa⟩:=s5;refine bz 4 (congrArg some oa) (fz J (ks [0,3] J (fz J (rq [10] [0,0,0,0,0,0,0] J mix (bO bN) (λhg pf=>ha T 10 [0] sz hg pf J (av 1 sz hg pf J (gA T 1 J J J J J J J) (ha T 6 [2,3,4] sz hg pf J (av 5 sz hg pf J (aw T J J J J (aD (j:=2) J J)) (ao 6 (kh [4] J BQ H (oS.c · s7) (λv10 H=>an sz (ao 7 (kR lP.R [] [] J Sn H (lP.c · (rO sE 0) uM) (λv11 H=>?_))))))))))))));rintro _ _ ⟨_,_,Xl,rfl,rfl⟩;rcases v11 with _ |zG
 ·replace H:=eJ J H
  cases H
 replace H:=eK J H;obtain⟨mX,dF,dK,rfl,rfl⟩:=Xl;refine an (so [0,0,0,0,0,0,0]) (ha T 1 [8,9] (so [0,0,0,0,0,0,0]) hg pf J (ao 10 (iT T 2 J (an sl (ae (rx T 7 (lf T 2 J (kr (rI.R mX) [7] [7] J Sp H (rI.c · dK) (λv12 H=>?_)))))))));rintro _ _ ⟨_,_,Xm,rfl,rfl⟩;rcases v12 with _ |HX
 ·replace H:=eJ J H
  cases H
 replace H:=eK J H;obtain⟨pF,fV,fP,rfl,rfl⟩:=Xm;refine ro T 2 (jP T 2 J (ro T 3 (ke [0] [0,1,1,1,1,1,1,1] J J (fz J (rq [12] [0,0,0,0,0,0,0,0] J mix (bO bN) (λhg pf=>ha T 9 [0,1,2,3] sz hg pf J (av 4 sz hg pf J (aw T J J J J (aD (j:=1) J J)) (ha T 5 [5,6,7] sz hg pf J (av 8 sz hg pf J (aw T J J J J (aD (j:=1) J J)) (ao 9 (kR (sW.R pF mX) [6,6] [6,6] J Sq H (sW.c · fP dK) (λgT H=>?_))))))))))));rintro _ _ ⟨_,_,Xn,rfl,rfl⟩;rcases gT with _ |K5
 ·replace H:=eJ J H
  cases H
 replace H:=eK J H;obtain⟨BA,dV,fh,rfl,rfl⟩:=Xn;refine an (so [0,0,0,0,0,0,1,1]) (ha T 1 [10,11] (so [0,0,0,0,0,0,1,1]) hg pf J (ao 12 (iT T 1 J (an sl (ae (rx T 6 (lf T 1 J (kr (pw.R b4) [] [2] J MR H (pw.c · s4) (λbZ H=>?_)))))))));rintro _ _ ⟨fb,fq,rfl,rfl⟩;refine fz J (ro T 8 ?_)
 cases H;refine gq [7,6,5] J (gq [1,4,4] J (p1 T J [4,0] ⟨(List.flatten [(cl cN 135 [(pp mX),(pp pF),(pp BA),(pp b4),(uu v3.bC),(uu v3.bD),(uu v3.bA),(uu v3.bx),(uu v3.bM),(uu v3.bE)]),fb,(List.flatten [dF,fV,dV])]),(show gi (bY.mk (some (eI.mk zG HX K5)) bZ v3) cN (List.flatten [(cl cN 135 [(pp mX),(pp pF),(pp BA),(pp b4),(uu v3.bC),(uu v3.bD),(uu v3.bA),(uu v3.bx),(uu v3.bM),(uu v3.bE)]),fb,(List.flatten [dF,fV,dV])]) from⟨b4,fb,(pp mX),(pp pF),(pp BA),(List.flatten [dF,fV,dV]),fq,(show uC (some (eI.mk zG HX K5)) (pp mX) (pp pF) (pp BA) (List.flatten [dF,fV,dV]) from⟨mX,dF,pF,fV,BA,dV,dK,fP,fh,J,J,J,J⟩),J⟩),J,J⟩ J))
def xm.f (n:bY):Option bY:=(pw.f n.eh).bind λv1=>c_ n.core ((G5.f).bind λv3=>some (bY.mk none v1 n.aU)) (λx2=>(AL.f x2.gZ x2.hZ x2.aI).bind λv4=>some (bY.mk (some (eI.mk x2.aI x2.hZ v4)) v1 n.aU))
def xm.R (sk:Nat) (r:bY) (u:Value) (G:List Hp):Prop:= ∃(H0:Hp),gi r sk H0/\u=(.tuple #[])/\G=[H0]
theorem xm.c (H:xm.f n=some r) (gS:gi n cN gI):
 QR 85 [(pp cN)] [gI] [] F (xm.R cN r):=by
 unfold xm.f at H;refine aB Tryz.func85 J J (λW=>rc T 6 (mW J (rc T 1 ?_)));obtain⟨b3,H3,p_,HG,HH,H4,s3,s4,bT⟩:=(λx=>x) gS;refine bz 0 (congrArg some bT) (fz J (rc T 4 (lf T 1 J (kr (pw.R b3) [] [2] J MR H (pw.c · s3) (λv1 H=>?_)))));rintro _ _ ⟨H5,s5,rfl,rfl⟩;refine fz J (ro T 2 ?_);rcases q2:n.core with _ |x2
 ·replace H:=eJ q2 H;rw[q2] at s4;obtain⟨rfl,rfl,rfl,rfl⟩:=s4;refine rc T 4 (lf T 1 J (k [] J Sh H (G5.c ·) (λv3 H=>ro T 1 (i_ ?_))))
  cases H;refine aq J (gq [1,2,2] J (p1 T J [2,0] ⟨(List.flatten [(cl cN 135 [(.pointer none),(.pointer none),(.pointer none),(pp b3),(uu n.aU.bC),(uu n.aU.bD),(uu n.aU.bA),(uu n.aU.bx),(uu n.aU.bM),(uu n.aU.bE)]),H5,[]]),(show gi (bY.mk none v1 n.aU) cN (List.flatten [(cl cN 135 [(.pointer none),(.pointer none),(.pointer none),(pp b3),(uu n.aU.bC),(uu n.aU.bD),(uu n.aU.bA),(uu n.aU.bx),(uu n.aU.bM),(uu n.aU.bE)]),H5,[]]) from⟨b3,H5,(.pointer none),(.pointer none),(.pointer none),[],s5,(show uC none (.pointer none) (.pointer none) (.pointer none) [] from⟨J,J,J,J⟩),J⟩),J,J⟩ J))
 replace H:=eK q2 H;rw[q2] at s4;obtain⟨b7,H7,b8,H8,b9,H9,s7,s8,s9,rfl,rfl,rfl,oa⟩:=s4;refine bz 2 (congrArg some oa) (fz J (rc T 4 (lf T 1 J (kr (AL.R b9 b8 b7) [4,3] [5,4,3] J Sh H (AL.c · s9 s8 s7) (λv4 H=>?_)))));rintro _ _ ⟨cA,cS,rfl,rfl⟩;refine fz J (ro T 1 (i_ ?_))
 cases H;refine gq [5,4,3] J (gq [1,1,1] J (p1 T J [1,0] ⟨(List.flatten [(cl cN 135 [(pp b7),(pp b8),(pp b9),(pp b3),(uu n.aU.bC),(uu n.aU.bD),(uu n.aU.bA),(uu n.aU.bx),(uu n.aU.bM),(uu n.aU.bE)]),H5,(List.flatten [H7,H8,cA])]),(show gi (bY.mk (some (eI.mk x2.aI x2.hZ v4)) v1 n.aU) cN (List.flatten [(cl cN 135 [(pp b7),(pp b8),(pp b9),(pp b3),(uu n.aU.bC),(uu n.aU.bD),(uu n.aU.bA),(uu n.aU.bx),(uu n.aU.bM),(uu n.aU.bE)]),H5,(List.flatten [H7,H8,cA])]) from⟨b3,H5,(pp b7),(pp b8),(pp b9),(List.flatten [H7,H8,cA]),s5,(show uC (some (eI.mk x2.aI x2.hZ v4)) (pp b7) (pp b8) (pp b9) (List.flatten [H7,H8,cA]) from⟨b7,H7,b8,H8,b9,cA,s7,s8,cS,J,J,J,J⟩),J⟩),J,J⟩ J))
def xk.f (n:bY) (cell:Int) (cost:Int):Option (Int×bY):=c_ n.core (none) (λx1=>(wP.f x1.aI cell cost).bind λv2=>some (v2.1,(bY.mk (some (eI.mk v2.2 x1.hZ x1.gZ)) n.eh n.aU)))
def xk.R (sk:Nat) (r:(Int×bY)) (u:Value) (G:List Hp):Prop:= ∃(H0:Hp),gi r.2 sk H0/\u=(ii r.1)/\G=[H0]
theorem xk.c (H:xk.f n cell cost=some r) (gS:gi n cN gI):
 QR 120 [(pp cN),(ii cell),(ii cost)] [gI] [] F (xk.R cN r):=by
 unfold xk.f at H;refine aB Tryz.func120 J J (λW=>rc T 12 (dW J (rc T 3 ?_)));obtain⟨b3,H3,p_,HG,HH,H4,s3,s4,bT⟩:=(λx=>x) gS;refine bz 0 (congrArg some bT) (fz J ?_);rcases q1:n.core with _ |x1
 ·replace H:=eJ q1 H
  cases H
 replace H:=eK q1 H;rw[q1] at s4;obtain⟨b6,H6,b7,H7,b8,H8,s6,s7,s8,rfl,rfl,rfl,sD⟩:=s4;refine bz 3 (congrArg some sD) (fz J (rc T 4 (lf T 1 J (ro T 2 (kr (wP.R b6) [] [3] J ab7 H (wP.c · s6) (λv2 H=>?_))))));rintro _ _ ⟨H9,s9,rfl,rfl⟩;refine fz J (ro T 4 ?_)
 cases H;refine gq [5,3,3] J (gq [1,1,1] J (p1 T J [1,0] ⟨(List.flatten [(cl cN 135 [(pp b6),(pp b7),(pp b8),(pp b3),(uu n.aU.bC),(uu n.aU.bD),(uu n.aU.bA),(uu n.aU.bx),(uu n.aU.bM),(uu n.aU.bE)]),H3,(List.flatten [H9,H7,H8])]),(show gi (bY.mk (some (eI.mk v2.2 x1.hZ x1.gZ)) n.eh n.aU) cN (List.flatten [(cl cN 135 [(pp b6),(pp b7),(pp b8),(pp b3),(uu n.aU.bC),(uu n.aU.bD),(uu n.aU.bA),(uu n.aU.bx),(uu n.aU.bM),(uu n.aU.bE)]),H3,(List.flatten [H9,H7,H8])]) from⟨b3,H3,(pp b6),(pp b7),(pp b8),(List.flatten [H9,H7,H8]),s3,(show uC (some (eI.mk v2.2 x1.hZ x1.gZ)) (pp b6) (pp b7) (pp b8) (List.flatten [H9,H7,H8]) from⟨b6,H9,b7,H7,b8,H8,s9,s7,s8,J,J,J,J⟩),J⟩),J,J⟩ J))
def yZ.f (n:bY):Option (Int×Int):=c_ n.core (none) (λx1=>(iE.f x1.aI).bind λv2=>some (v2.1,v2.2))
theorem yZ.c (H:yZ.f n=some r) (gS:gi n cN gI):
 QU 164 [(pp cN)] [gI] F (.tuple #[(ii r.1),(ii r.2)]):=by
 unfold yZ.f at H;refine aB Tryz.func164 J J (λW=>rc T 13 (dW J (rc T 3 ?_)));obtain⟨b3,H3,p_,HG,HH,H4,s3,s4,bT⟩:=(λx=>x) gS;refine bz 0 (congrArg some bT) (fz J ?_);rcases q1:n.core with _ |x1
 ·replace H:=eJ q1 H
  cases H
 replace H:=eK q1 H;rw[q1] at s4;obtain⟨b6,H6,b7,H7,b8,H8,s6,s7,s8,rfl,rfl,rfl,sD⟩:=s4;refine bz 3 (congrArg some sD) (fz J (rc T 4 (lf T 1 J (k [3] J tP H (iE.c · s6) (λv2 H=>ro T 7 ?_)))))
 cases H;refine cq [3,3,3] J sD (cq [1,1,1] J bT (p0 T J [1,0] J))
def qC.f (n:bY) (goal:Int) (bB:Int):Option (fX×Er×bY):=(c_ n.core (some true) (λx3=>some false)).bind λx1=>if x1=true then((some (Er.wrap 222 [goal] (Er.dS 2))).bind λx4=>some ((fX.mk [] []),x4,n)) else(c_ n.core (none) (λx6=>(lO.f x6.aI bB).bind λv7=>(je.f x6.aI goal).bind λv8=>if((v8==0)||(!v7.2))=true then((some (Er.wrap 222 [goal] (Er.dS 3))).bind λx9=>some ((fX.mk [] []),x9,n)) else((xA.f x6.gZ goal x6.hZ x6.aI).bind λv11=>c_ v11.1 ((Aw.f x6.aI bB).bind λv12=>((pP.f x6.aI bB).bind λfF=>(mf.f n.eh goal bB fF v7.1 v12).bind λnO=>some (nO.1.fa,nO.1.cz,nO.2.1,nO.2.2)).bind λ(aT,bc,cn,dm)=>if(cn !=0)=true then((some (Er.wrap 222 [goal] (Er.dS 4))).bind λdQ=>some ((fX.mk [] []),dQ,(bY.mk (some (eI.mk x6.aI v11.2.2 v11.2.1)) dm n.aU))) else(some ((fX.mk aT bc),Er.nil,(bY.mk (some (eI.mk x6.aI v11.2.2 v11.2.1)) dm n.aU)))) (λzG=>(iQ.f x6.aI zG bB).bind λv25=>((pP.f x6.aI bB).bind λv31=>(mf.f n.eh goal bB v31 v7.1 v25).bind λv32=>some (v32.1.fa,v32.1.cz,v32.2.1,v32.2.2)).bind λ(fv,l6,mN,iV)=>if(mN !=0)=true then((some (Er.wrap 222 [goal] (Er.dS 4))).bind λwh=>some ((fX.mk [] []),wh,(bY.mk (some (eI.mk x6.aI v11.2.2 v11.2.1)) iV n.aU))) else(some ((fX.mk fv l6),Er.nil,(bY.mk (some (eI.mk x6.aI v11.2.2 v11.2.1)) iV n.aU)))))))
def qC.R (el:Nat->Addr) (sk:Nat) (r:(fX×Er×bY)) (u:Value) (G:List Hp):Prop:= ∃(a0:Option Addr) (n0:Nat) (H0:Hp) (a1:Option Addr) (n1:Nat) (H1:Hp) (v2:Value) (H2:Hp) (H3:Hp),aj (Fl.int .i64) 3 r.1.fa a0 n0 H0/\aj (Fl.int .i64) 3 r.1.cz a1 n1 H1/\fU 414 el r.2.1 v2 H2/\gi r.2.2 sk H3/\u=(.tuple #[(.agg #[(ll a0 r.1.fa n0),(ll a1 r.1.cz n1)]),v2])/\G=[H0,H1,H2,H3]
theorem qC.c (H:qC.f n goal bB=some r) (hG:fK 414 eZ hU el F) (gS:gi n cN gI):
 QR 100 [(pp cN),(ii goal),(ii bB)] [gI] [] F (qC.R el cN r):=by
 unfold qC.f at H;refine aB Tryz.func100 J J (λW=>rc T 2 (nc T J (λb2=>fz J (ro T 4 (mq H [0,1,2,6] [1,0,0] (λz2 (x1:Bool)=>(x1=z2,[(21,(bb x1))],[])) J J (λz2 Z1 _=>?_) ?_)))))
 ·obtain⟨b4,H4,xW,EE,EF,H5,s4,s5,dp⟩:=(λx=>x) gS;refine bz 0 (congrArg some dp) (fz J ?_);rcases q2:n.core with _ |x3
  ·replace Z1:=eJ q2 Z1;rw[q2] at s5;obtain⟨rfl,rfl,rfl,rfl⟩:=s5;refine rc T 7 (lf T 2 J (ro T 4 (cq [2,2,2] J dp (am _ [0,1,0] (oi Z1) J J))))
  replace Z1:=eK q2 Z1;rw[q2] at s5;obtain⟨b7,H7,b8,H8,b9,H9,s7,s8,s9,rfl,rfl,rfl,oa⟩:=s5;refine bz 4 (congrArg some oa) (fz J (rc T 7 (lf T 2 J (ro T 4 (cq [4,4,4] J oa (cq [2,2,2] J dp (am _ [0,1,0] (oi Z1) J J)))))))
 rintro _ x1 rfl H;refine cb J H (λH=>?_) (λH=>?_)
 ·refine mq H [6] [0,1,0] (λz5 (⟨x4,KV,bV⟩:Er×Value×Hp)=>(x4=z5/\fU 414 el x4 KV bV,[(7,KV)],[bV])) J J (λz5 Z4 _=>?_) ?_
  ·refine fz J (rz [] mix (bO bN) (λhg pf=>ha T 6 [0,1] sz hg pf J (av 2 sz hg pf J (aw T J J J J (rG (j:=0) J hG (g:=2) (by decide))) (ha T 4 [3] sz hg pf J (gw 4 6 ?_ ?_)))))
   ·refine nw T J (λjG=>fz J (an (so [0,0,0]) (gw 5 6 ?_ ?_)))
    ·refine aq J (gq [3,3] J (lv J (g_ T J J J J) (an (so [0,0,0]) (ao 6 (iT T 2 J (an (so [0,0,0]) (ha T 0 [7] (so [0,0,0]) hg pf J (ae (rx T 1 (am (_,_,_) [0,1,0,0] ⟨oi Z4,(pM nZ)⟩ J J))))))))))
    refine iT T 2 J (an (so [0,0,0]) (ao 5 (aq J (gq [3,3] J (lv J (g_ T J J J J) (an (so [0,0,0]) (ha T 0 [7] (so [0,0,0]) hg pf J (ae (rx T 1 (am (_,_,_) [0,1,0,0] ⟨oi Z4,(pM nZ)⟩ J J))))))))))
   refine iT T 2 J (an sz (ao 4 (nw T J (λpF=>fz J (an (so [0,0,0]) (ao 5 (aq J (gq [3,3] J (lv J (g_ T J J J J) (an (so [0,0,0]) (ha T 0 [7] (so [0,0,0]) hg pf J (ae (rx T 1 (am (_,_,_) [0,1,0,0] ⟨oi Z4,(pM nZ)⟩ J J))))))))))))))
  rintro _ ⟨x4,KV,bV⟩ ⟨rfl,bS⟩ H;refine rc T 2 ?_
  cases H;refine aq J (aq J (pb T J (.cQ (j:=1) [nl,nl] J J J J J J J (.tmp J .nil)) [4,4,3,2,0] ⟨(_,_),none,0,[],none,0,[],KV,bV,gI,aj.nil,aj.nil,bS,gS,J,J⟩ J J))
 refine rc T 3 ?_;obtain⟨kJ,mj,ajP,ajQ,ajR,jF,iI,gR,RV⟩:=(λx=>x) gS;refine bz 1 (congrArg some RV) (fz J ?_);rcases q5:n.core with _ |x6
 ·replace H:=eJ q5 H
  cases H
 replace H:=eK q5 H;rw[q5] at gR;obtain⟨kK,gV,kL,oB,lL,EM,jB,nF,vK,rfl,rfl,rfl,R0⟩:=gR;refine bz 4 (congrArg some R0) (fz J (rc T 4 (lf T 2 J (ro T 1 (kr lO.R [4] [4] J Sj H (lO.c · jB) (λv7 H=>?_))))));rintro _ _ ⟨a28,n28,ux,j4,rfl,rfl⟩;refine fz J (ro T 3 (nc T J (λzQ=>fz J (jP T 8 J (ro T 9 (lf T 2 J (ro T 1 (k [7] J u9 H (je.c · jB) (λv8 H=>ro T 2 (go T [8,9,10] 44 [0,1,2,6,8] 47 J J J J J J J (ro T 2 (cb J H (λH=>?_) (λH=>?_)))))))))))))
 ·refine mq H [6] [0,0,0,4,1,1,0] (λnR (⟨x9,KX,qZ⟩:Er×Value×Hp)=>(x9=nR/\fU 414 el x9 KX qZ,[(7,KX)],[qZ])) J J (λnR Z9 _=>?_) ?_
  ·refine ke [1,6] [0,0,0,0,0,0,1] J J (fz J (rz [] mix (bO bN) (λhg pf=>ha T 6 [0,1] sz hg pf J (av 2 sz hg pf J (aw T J J J J (rG (j:=0) J hG (g:=3) (by decide))) (ha T 4 [3] sz hg pf J (gw 4 6 ?_ ?_))))))
   ·refine nw T J (λZn=>fz J (an (so [0,0,0,0,0,0,0]) (gw 5 6 ?_ ?_)))
    ·refine aq J (gq [7,7] J (lv J (g_ T J J J J) (an (so [0,0,0,0,0,0,0]) (ao 6 (iT T 1 J (an (so [0,0,0,0,0,0,0]) (ha T 0 [7] (so [0,0,0,0,0,0,0]) hg pf J (ae (rx T 1 (am (_,_,_) [0,0,0,3,1,1,0,0] ⟨oi Z9,(pM nZ)⟩ J J))))))))))
    refine iT T 1 J (an (so [0,0,0,0,0,0,0]) (ao 5 (aq J (gq [7,7] J (lv J (g_ T J J J J) (an (so [0,0,0,0,0,0,0]) (ha T 0 [7] (so [0,0,0,0,0,0,0]) hg pf J (ae (rx T 1 (am (_,_,_) [0,0,0,3,1,1,0,0] ⟨oi Z9,(pM nZ)⟩ J J))))))))))
   refine iT T 1 J (an sz (ao 4 (nw T J (λb36=>fz J (an (so [0,0,0,0,0,0,0]) (ao 5 (aq J (gq [7,7] J (lv J (g_ T J J J J) (an (so [0,0,0,0,0,0,0]) (ha T 0 [7] (so [0,0,0,0,0,0,0]) hg pf J (ae (rx T 1 (am (_,_,_) [0,0,0,3,1,1,0,0] ⟨oi Z9,(pM nZ)⟩ J J))))))))))))))
  rintro _ ⟨x9,KX,qZ⟩ ⟨rfl,pn⟩ H;refine rc T 2 ?_
  cases H;refine cq [3,3,3] J R0 (cq [2,2,3] J RV (aq J (aq J (pb T J (.cQ (j:=1) [nl,nl] J J J J J J J (.tmp J .nil)) [4,4,2,2,0] ⟨(_,_),none,0,[],none,0,[],KX,qZ,gI,aj.nil,aj.nil,pn,gS,J,J⟩ J J))))
 refine rc T 3 (ks [0,1,2,6,8] J (fz J (rq [] [0,0,0,0,2,2,2] J mix (bO bN) (λhg pf=>ha T 10 [0,1,2] (so [0,0,0,0,2,2,2]) hg pf J (av 3 (so [0,0,0,0,2,2,2]) hg pf J (aw T J J J J (aD (j:=2) J J)) (ha T 6 [4,5,6] (so [0,0,0,0,2,2,2]) hg pf J (av 7 (so [0,0,0,0,2,2,2]) hg pf J (aw T J J J J (aD (j:=2) J J)) (ha T 3 [8,10] (so [0,0,0,0,2,2,2]) hg pf J (ao 9 (kR (xA.R lL kL kK kL kK) [7] [5,4,5] J ab3 H (xA.c · vK nF jB) (λv11 H=>?_)))))))))));rintro _ _ ⟨ajM,ln,gr,Iq,sY,rfl,rfl⟩;refine fz J ?_;rcases JR:v11.1 with _ |zG
 ·replace H:=eJ JR H;rw[JR] at Iq;obtain⟨rfl,CJ⟩:=Iq;refine an (so [0,0,0,0,0,3,0]) (ao 11 (kR Aw.R [8] [8] J Sk H (Aw.c · jB) (λv12 H=>?_)));rintro _ _ ⟨a54,n54,H54,En,rfl,rfl⟩;refine fz J (an (so [0,0,0,0,0,4,0]) (ha T 0 [12] (so [0,0,0,0,0,4,0]) hg pf J (ae (rx T 1 (mq H [1,6] [0,0,0,6,4,3] (λz17 (⟨aT,bc,cn,dm,LJ,E0,GM,Ij,E3,n57,Ik,yd⟩:List Int×List Int×Int×iU×Nat×Option Addr×Nat×Hp×Option Addr×Nat×Hp×Hp)=>((aT,bc,cn,dm)=z17/\aj (Fl.int .i64) 3 aT E0 GM Ij/\aj (Fl.int .i64) 3 bc E3 n57 Ik/\ri dm kJ yd,[(11,(pp LJ)),(12,(ii cn))],[(cl LJ 79 [(ll E0 aT GM),(ll E3 bc n57)]),Ij,Ik,yd])) J J (λz17 ck _=>?_) ?_)))))
  ·refine ks [0,1,2,6,8,10] J (fz J (rz [14] mix (bO bN) (λhg pf=>ha T 18 [0,1,2] sz hg pf J (av 3 sz hg pf J (aw T J J J J (aD (j:=2) J J)) (ha T 12 [4,5,6,7,8] sz hg pf J (av 9 sz hg pf J (aw T J J J J (aD (j:=2) J J)) (ha T 10 [10] sz hg pf J (av 12 sz hg pf J (gA T 5 J J J J J J J) (ha T 8 [13] sz hg pf J (gw 11 18 ?_ ?_))))))))))
   ·refine kh [9] J BR ck (pP.c · jB) (λfF ck=>an sz (gw 14 18 ?_ ?_))
    ·refine kR (mf.R kJ) [] [3] J DJ ck (mf.c · iI (oO j4 3) j4.bW (oO En 7) En.bW) (λnO ck=>?_);rintro _ _ ⟨a59,n59,H59,a60,n60,H60,H61,s59,s60,s61,rfl,rfl⟩;refine fz J (an sl (hb T 15 sl hg pf J (hb T 16 sl hg pf J (hb T 17 sl hg pf J (ao 18 (nw T J (λb62=>fz J (an sl (ao 19 (iT T 12 J (an sl (hb T 20 sl hg pf J (ae (rx T 1 (am (_,_,_,_,_,_,_,_,_,_,_,_) [0,0,0,5,3,2,6,3,3,3] ⟨oi ck,s59,s60,s61⟩ J J)))))))))))))))
    refine nw T J (λb63=>fz J (an (so [0,0,0,0,0,0,0,0,0,0]) (ao 14 (kR (mf.R kJ) [] [3] J DJ ck (mf.c · iI (oO j4 3) j4.bW (oO En 7) En.bW) (λv20 ck=>?_)))));rintro _ _ ⟨a64,n64,H64,a65,n65,H65,H66,s64,s65,s66,rfl,rfl⟩;refine fz J (an sl (hb T 15 sl hg pf J (hb T 16 sl hg pf J (hb T 17 sl hg pf J (ao 19 (iT T 9 J (an sl (hb T 20 sl hg pf J (ae (rx T 1 (am (_,_,_,_,_,_,_,_,_,_,_,_) [0,0,0,5,3,2,3,3,3,3] ⟨oi ck,s64,s65,s66⟩ J J)))))))))))
   refine nw T J (λb67=>fz J (an (so [0,0,0,0,0,0,0,0,0,0]) (ao 11 (kh [9] J BR ck (pP.c · jB) (λv21 ck=>an (so [0,0,0,0,0,0,0,0,0,0]) (ao 14 (kR (mf.R kJ) [] [3] J DJ ck (mf.c · iI (oO j4 3) j4.bW (oO En 7) En.bW) (λv22 ck=>?_))))))));rintro _ _ ⟨a68,n68,H68,a69,n69,H69,H70,s68,s69,s70,rfl,rfl⟩;refine fz J (an sl (hb T 15 sl hg pf J (hb T 16 sl hg pf J (hb T 17 sl hg pf J (ao 19 (iT T 9 J (an sl (hb T 20 sl hg pf J (ae (rx T 1 (am (_,_,_,_,_,_,_,_,_,_,_,_) [0,0,0,5,3,2,3,3,3,3] ⟨oi ck,s68,s69,s70⟩ J J)))))))))))
  rintro _ ⟨aT,bc,cn,dm,LJ,E0,GM,Ij,E3,n57,Ik,yd⟩ ⟨rfl,s56,s57,Wi⟩ H;refine rc T 7 (cb J H (λH=>?_) (λH=>?_))
  ·refine mq H [6] [0,0,0,0,0,0,3] (λz24 (⟨dQ,KZ,Il⟩:Er×Value×Hp)=>(dQ=z24/\fU 414 el dQ KZ Il,[(7,KZ)],[Il])) J J (λz24 r_ _=>?_) ?_
   ·refine fz J (rz [] mix (bO bN) (λhg pf=>ha T 6 [0,1] sz hg pf J (av 2 sz hg pf J (aw T J J J J (rG (j:=0) J hG (g:=4) (by decide))) (ha T 4 [3] sz hg pf J (gw 4 6 ?_ ?_)))))
    ·refine nw T J (λb72=>fz J (an (so [0,0,0,0,0,0,0,0,0,0]) (gw 5 6 ?_ ?_)))
     ·refine aq J (gq [10,10] J (lv J (g_ T J J J J) (an (so [0,0,0,0,0,0,0,0,0,0]) (ao 6 (iT T 1 J (an (so [0,0,0,0,0,0,0,0,0,0]) (ha T 0 [7] (so [0,0,0,0,0,0,0,0,0,0]) hg pf J (ae (rx T 1 (am (_,_,_) [0,0,0,0,0,0,3,3] ⟨oi r_,(pM nZ)⟩ J J))))))))))
     refine iT T 1 J (an (so [0,0,0,0,0,0,0,0,0,0]) (ao 5 (aq J (gq [10,10] J (lv J (g_ T J J J J) (an (so [0,0,0,0,0,0,0,0,0,0]) (ha T 0 [7] (so [0,0,0,0,0,0,0,0,0,0]) hg pf J (ae (rx T 1 (am (_,_,_) [0,0,0,0,0,0,3,3] ⟨oi r_,(pM nZ)⟩ J J))))))))))
    refine iT T 1 J (an sz (ao 4 (nw T J (λb77=>fz J (an (so [0,0,0,0,0,0,0,0,0,0]) (ao 5 (aq J (gq [10,10] J (lv J (g_ T J J J J) (an (so [0,0,0,0,0,0,0,0,0,0]) (ha T 0 [7] (so [0,0,0,0,0,0,0,0,0,0]) hg pf J (ae (rx T 1 (am (_,_,_) [0,0,0,0,0,0,3,3] ⟨oi r_,(pM nZ)⟩ J J))))))))))))))
   rintro _ ⟨dQ,KZ,Il⟩ ⟨rfl,s71⟩ H;refine rc T 2 ?_
   cases H;refine gq [3,3,3] J (gq [2,2,3] J (aq J (aq J (pb T J (.cQ (j:=1) [nl,nl] J J J J J J J (.tmp J .nil)) [4,4,2,2,0] ⟨(_,_),none,0,[],none,0,[],KZ,Il,(List.flatten [(cl cN 135 [(pp kK),(pp kL),(pp lL),(pp kJ),(uu n.aU.bC),(uu n.aU.bD),(uu n.aU.bA),(uu n.aU.bx),(uu n.aU.bM),(uu n.aU.bE)]),yd,(List.flatten [gV,gr,ln])]),aj.nil,aj.nil,s71,(show gi (bY.mk (some (eI.mk x6.aI v11.2.2 v11.2.1)) dm n.aU) cN (List.flatten [(cl cN 135 [(pp kK),(pp kL),(pp lL),(pp kJ),(uu n.aU.bC),(uu n.aU.bD),(uu n.aU.bA),(uu n.aU.bx),(uu n.aU.bM),(uu n.aU.bE)]),yd,(List.flatten [gV,gr,ln])]) from⟨kJ,yd,(pp kK),(pp kL),(pp lL),(List.flatten [gV,gr,ln]),Wi,(show uC (some (eI.mk x6.aI v11.2.2 v11.2.1)) (pp kK) (pp kL) (pp lL) (List.flatten [gV,gr,ln]) from⟨kK,gV,kL,gr,lL,ln,jB,sY,CJ,J,J,J,J⟩),J⟩),J,J⟩ J J))))
  refine rc T 4 (lm T 6 J (jP T 1 J (ro T 4 ?_)))
  cases H;refine gq [3,3,3] J (gq [2,5,5] J (aq J (pb T J (.cQ (j:=1) [(ll E0 aT GM),(ll E3 bc n57)] J J J J J J J (.tmp J .nil)) [3,3,4,3,0] ⟨(_,_),E0,GM,Ij,E3,n57,Ik,.nilIface,[],(List.flatten [(cl cN 135 [(pp kK),(pp kL),(pp lL),(pp kJ),(uu n.aU.bC),(uu n.aU.bD),(uu n.aU.bA),(uu n.aU.bx),(uu n.aU.bM),(uu n.aU.bE)]),yd,(List.flatten [gV,gr,ln])]),s56,s57,tK,(show gi (bY.mk (some (eI.mk x6.aI v11.2.2 v11.2.1)) dm n.aU) cN (List.flatten [(cl cN 135 [(pp kK),(pp kL),(pp lL),(pp kJ),(uu n.aU.bC),(uu n.aU.bD),(uu n.aU.bA),(uu n.aU.bx),(uu n.aU.bM),(uu n.aU.bE)]),yd,(List.flatten [gV,gr,ln])]) from⟨kJ,yd,(pp kK),(pp kL),(pp lL),(List.flatten [gV,gr,ln]),Wi,(show uC (some (eI.mk x6.aI v11.2.2 v11.2.1)) (pp kK) (pp kL) (pp lL) (List.flatten [gV,gr,ln]) from⟨kK,gV,kL,gr,lL,ln,jB,sY,CJ,J,J,J,J⟩),J⟩),J,J⟩ J J)))
 replace H:=eK JR H;rw[JR] at Iq;obtain⟨vC,Qq,Li,n52,Lb,Em,rfl,RX⟩:=Iq;have Wh:rZ v11.2.1 lL kL kK ln:=⟨(pp Qq),_,(by rw[vC];exact⟨Qq,Li,n52,Lb,Em,J,J⟩),RX⟩
 obtain⟨Xf,MH,MF⟩:=aeR RX;refine bz 6 (congrArg some MF) (fz J (bz 9 (congrArg some MH) (fz J (an (so [0,0,0,0,0,2,0]) (ao 11 (kR iQ.R [7,8,8] [7,8,8] J Sk H (iQ.c · jB Em) (λv25 H=>?_)))))));rintro _ _ ⟨a85,n85,H85,Eo,rfl,rfl⟩;refine fz J (an (so [0,0,0,0,0,4,0]) (ha T 0 [12] (so [0,0,0,0,0,4,0]) hg pf J (ae (rx T 1 (mq H [1,6] [0,0,0,6,3,3,4,4] (λW9 (⟨fv,l6,mN,iV,LL,a87,GN,Im,E4,GO,Io,ye⟩:List Int×List Int×Int×iU×Nat×Option Addr×Nat×Hp×Option Addr×Nat×Hp×Hp)=>((fv,l6,mN,iV)=W9/\aj (Fl.int .i64) 3 fv a87 GN Im/\aj (Fl.int .i64) 3 l6 E4 GO Io/\ri iV kJ ye,[(11,(pp LL)),(12,(ii mN))],[(cl LL 79 [(ll a87 fv GN),(ll E4 l6 GO)]),Im,Io,ye])) J J (λW9 sa _=>?_) ?_)))))
 ·refine ks [0,1,2,6,8,10] J (fz J (rz [14] mix (bO bN) (λhg pf=>ha T 18 [0,1,2] sz hg pf J (av 3 sz hg pf J (aw T J J J J (aD (j:=2) J J)) (ha T 12 [4,5,6,7,8] sz hg pf J (av 9 sz hg pf J (aw T J J J J (aD (j:=2) J J)) (ha T 10 [10] sz hg pf J (av 12 sz hg pf J (gA T 5 J J J J J J J) (ha T 8 [13] sz hg pf J (gw 11 18 ?_ ?_))))))))))
  ·refine kh [9] J BR sa (pP.c · jB) (λv31 sa=>an sz (gw 14 18 ?_ ?_))
   ·refine kR (mf.R kJ) [] [3] J DJ sa (mf.c · iI (oO j4 3) j4.bW (oO Eo 7) Eo.bW) (λv32 sa=>?_);rintro _ _ ⟨a90,n90,H90,a91,n91,H91,H92,s90,s91,s92,rfl,rfl⟩;refine fz J (an sl (hb T 15 sl hg pf J (hb T 16 sl hg pf J (hb T 17 sl hg pf J (ao 18 (nw T J (λb93=>fz J (an sl (ao 19 (iT T 14 J (an sl (hb T 20 sl hg pf J (ae (rx T 1 (am (_,_,_,_,_,_,_,_,_,_,_,_) [0,0,0,5,2,2,3,3,6,3,3,3] ⟨oi sa,s90,s91,s92⟩ J J)))))))))))))))
   refine nw T J (λb94=>fz J (an (so [0,0,0,0,0,0,0,0,0,0,0,0]) (ao 14 (kR (mf.R kJ) [] [3] J DJ sa (mf.c · iI (oO j4 3) j4.bW (oO Eo 7) Eo.bW) (λv33 sa=>?_)))));rintro _ _ ⟨a95,n95,H95,a96,n96,H96,H97,s95,s96,s97,rfl,rfl⟩;refine fz J (an sl (hb T 15 sl hg pf J (hb T 16 sl hg pf J (hb T 17 sl hg pf J (ao 19 (iT T 11 J (an sl (hb T 20 sl hg pf J (ae (rx T 1 (am (_,_,_,_,_,_,_,_,_,_,_,_) [0,0,0,5,2,2,3,3,3,3,3,3] ⟨oi sa,s95,s96,s97⟩ J J)))))))))))
  refine nw T J (λb98=>fz J (an (so [0,0,0,0,0,0,0,0,0,0,0,0]) (ao 11 (kh [9] J BR sa (pP.c · jB) (λPm sa=>an (so [0,0,0,0,0,0,0,0,0,0,0,0]) (ao 14 (kR (mf.R kJ) [] [3] J DJ sa (mf.c · iI (oO j4 3) j4.bW (oO Eo 7) Eo.bW) (λv35 sa=>?_))))))));rintro _ _ ⟨a99,n99,H99,ajl,n100,ajj,ajk,s99,ahG,ahH,rfl,rfl⟩;refine fz J (an sl (hb T 15 sl hg pf J (hb T 16 sl hg pf J (hb T 17 sl hg pf J (ao 19 (iT T 11 J (an sl (hb T 20 sl hg pf J (ae (rx T 1 (am (_,_,_,_,_,_,_,_,_,_,_,_) [0,0,0,5,2,2,3,3,3,3,3,3] ⟨oi sa,s99,ahG,ahH⟩ J J)))))))))))
 rintro _ ⟨fv,l6,mN,iV,LL,a87,GN,Im,E4,GO,Io,ye⟩ ⟨rfl,s87,s88,Wj⟩ H;refine rc T 7 (cb J H (λH=>?_) (λH=>?_))
 ·refine mq H [6] [0,0,0,0,0,0,0,0,3] (λz37 (⟨wh,KU,Ie⟩:Er×Value×Hp)=>(wh=z37/\fU 414 el wh KU Ie,[(7,KU)],[Ie])) J J (λz37 Lh _=>?_) ?_
  ·refine fz J (rz [] mix (bO bN) (λhg pf=>ha T 6 [0,1] sz hg pf J (av 2 sz hg pf J (aw T J J J J (rG (j:=0) J hG (g:=4) (by decide))) (ha T 4 [3] sz hg pf J (gw 4 6 ?_ ?_)))))
   ·refine nw T J (λajm=>fz J (an (so [0,0,0,0,0,0,0,0,0,0,0,0]) (gw 5 6 ?_ ?_)))
    ·refine aq J (gq [12,12] J (lv J (g_ T J J J J) (an (so [0,0,0,0,0,0,0,0,0,0,0,0]) (ao 6 (iT T 1 J (an (so [0,0,0,0,0,0,0,0,0,0,0,0]) (ha T 0 [7] (so [0,0,0,0,0,0,0,0,0,0,0,0]) hg pf J (ae (rx T 1 (am (_,_,_) [0,0,0,0,0,0,0,0,3,3] ⟨oi Lh,(pM nZ)⟩ J J))))))))))
    refine iT T 1 J (an (so [0,0,0,0,0,0,0,0,0,0,0,0]) (ao 5 (aq J (gq [12,12] J (lv J (g_ T J J J J) (an (so [0,0,0,0,0,0,0,0,0,0,0,0]) (ha T 0 [7] (so [0,0,0,0,0,0,0,0,0,0,0,0]) hg pf J (ae (rx T 1 (am (_,_,_) [0,0,0,0,0,0,0,0,3,3] ⟨oi Lh,(pM nZ)⟩ J J))))))))))
   refine iT T 1 J (an sz (ao 4 (nw T J (λajn=>fz J (an (so [0,0,0,0,0,0,0,0,0,0,0,0]) (ao 5 (aq J (gq [12,12] J (lv J (g_ T J J J J) (an (so [0,0,0,0,0,0,0,0,0,0,0,0]) (ha T 0 [7] (so [0,0,0,0,0,0,0,0,0,0,0,0]) hg pf J (ae (rx T 1 (am (_,_,_) [0,0,0,0,0,0,0,0,3,3] ⟨oi Lh,(pM nZ)⟩ J J))))))))))))))
  rintro _ ⟨wh,KU,Ie⟩ ⟨rfl,ahI⟩ H;refine rc T 2 ?_
  cases H;refine cq [6,6] J MH (cq [5,7] J MF (gq [3,3,5] J (gq [2,2,3] J (aq J (aq J (pb T J (.cQ (j:=1) [nl,nl] J J J J J J J (.tmp J .nil)) [4,4,2,2,0] ⟨(_,_),none,0,[],none,0,[],KU,Ie,(List.flatten [(cl cN 135 [(pp kK),(pp kL),(pp lL),(pp kJ),(uu n.aU.bC),(uu n.aU.bD),(uu n.aU.bA),(uu n.aU.bx),(uu n.aU.bM),(uu n.aU.bE)]),ye,(List.flatten [gV,gr,ln])]),aj.nil,aj.nil,ahI,(show gi (bY.mk (some (eI.mk x6.aI v11.2.2 v11.2.1)) iV n.aU) cN (List.flatten [(cl cN 135 [(pp kK),(pp kL),(pp lL),(pp kJ),(uu n.aU.bC),(uu n.aU.bD),(uu n.aU.bA),(uu n.aU.bx),(uu n.aU.bM),(uu n.aU.bE)]),ye,(List.flatten [gV,gr,ln])]) from⟨kJ,ye,(pp kK),(pp kL),(pp lL),(List.flatten [gV,gr,ln]),Wj,(show uC (some (eI.mk x6.aI v11.2.2 v11.2.1)) (pp kK) (pp kL) (pp lL) (List.flatten [gV,gr,ln]) from⟨kK,gV,kL,gr,lL,ln,jB,sY,Wh,J,J,J,J⟩),J⟩),J,J⟩ J J))))))
 refine rc T 4 (lm T 8 J (jP T 1 J (ro T 4 ?_)))
 cases H;refine cq [6,6] J MH (cq [5,9] J MF (gq [3,3,7] J (gq [2,5,5] J (aq J (pb T J (.cQ (j:=1) [(ll a87 fv GN),(ll E4 l6 GO)] J J J J J J J (.tmp J .nil)) [3,3,4,3,0] ⟨(_,_),a87,GN,Im,E4,GO,Io,.nilIface,[],(List.flatten [(cl cN 135 [(pp kK),(pp kL),(pp lL),(pp kJ),(uu n.aU.bC),(uu n.aU.bD),(uu n.aU.bA),(uu n.aU.bx),(uu n.aU.bM),(uu n.aU.bE)]),ye,(List.flatten [gV,gr,ln])]),s87,s88,tK,(show gi (bY.mk (some (eI.mk x6.aI v11.2.2 v11.2.1)) iV n.aU) cN (List.flatten [(cl cN 135 [(pp kK),(pp kL),(pp lL),(pp kJ),(uu n.aU.bC),(uu n.aU.bD),(uu n.aU.bA),(uu n.aU.bx),(uu n.aU.bM),(uu n.aU.bE)]),ye,(List.flatten [gV,gr,ln])]) from⟨kJ,ye,(pp kK),(pp kL),(pp lL),(List.flatten [gV,gr,ln]),Wj,(show uC (some (eI.mk x6.aI v11.2.2 v11.2.1)) (pp kK) (pp kL) (pp lL) (List.flatten [gV,gr,ln]) from⟨kK,gV,kL,gr,lL,ln,jB,sY,Wh,J,J,J,J⟩),J⟩),J,J⟩ J J)))))
def y6.f (n:bY) (goal:Int) (cell:Int):Option (Int×Int×Er×bY):=(yZ.f n).bind λv1=>(gD.f v1.1 v1.2 cell).bind λv2=>(qC.f n goal v2).bind λv3=>if(!(Er.isNil v3.2.1))=true then(some (0,0,v3.2.1,v3.2.2)) else((qR.f v1.1 v1.2 cell).bind λv4=>if(0<=v4/\v4<(List.length v3.1.fa:Int)) then(if(0<=v4/\v4<(List.length v3.1.cz:Int)) then(some ((rd v3.1.fa v4),(rd v3.1.cz v4),Er.nil,v3.2.2)) else none) else none)
def y6.R (el:Nat->Addr) (sk:Nat) (r:(Int×Int×Er×bY)) (u:Value) (G:List Hp):Prop:= ∃(v0:Value) (H0:Hp) (H1:Hp),fU 414 el r.2.2.1 v0 H0/\gi r.2.2.2 sk H1/\u=(.tuple #[(ii r.1),(ii r.2.1),v0])/\G=[H0,H1]
theorem y6.c (H:y6.f n goal cell=some r) (hG:fK 414 eZ hU el F) (gS:gi n cN gI):
 QR 163 [(pp cN),(ii goal),(ii cell)] [gI] [] F (y6.R el cN r):=by
 unfold y6.f at H;refine aB Tryz.func163 J J (λW=>rc T 10 (k [0] J Sv H (yZ.c · gS) (λv1 H=>ro T 14 (k [] J rC H (gD.c ·) (λv2 H=>kr (qC.R el cN) [] [0] J Sb H (qC.c · (dB hG (j:=0) J) gS) (λv3 H=>?_))))));rintro _ _ ⟨a2,n2,H2,a3,n3,H3,v4,H4,H5,s2,s3,s4,s5,rfl,rfl⟩;refine fz J (ro T 3 (nc T J (λb6=>fz J (jP T 5 J (ro T 7 (bp J (Dz T J J J (ru s4 (j:=3) J)) (ro T 2 (cb J H (λH=>?_) (λH=>?_)))))))))
 ·refine rc T 10 ?_
  cases H;exact p1 T J [3,3,0] ⟨v4,H4,H5,s4,s5,J,J⟩ J
 refine rc T 7 (k [] J FN H (qR.c ·) (λv4 H=>ro T 4 (dj mix ay (au T J (aN J J J (aw T J J J J (aD (j:=5) J J)) (au T J ?_))))));obtain⟨c6,H⟩:=az H;obtain⟨q7,o7,e7⟩:=s2.r.addr c6.1 c6.2;refine aN J J J (cB T J J J J J e7 c6.1 c6.2) (aN J J J (aw T J J J J (gM (k:=(Fl.int .i64)) (oO s2 1) e7 c6 0 J)) (au T J (aN J J J (aw T J J J J (aD (j:=5) J J)) (au T J ?_))));obtain⟨c7,H⟩:=az H;obtain⟨q8,o8,e8⟩:=s3.r.addr c7.1 c7.2;refine aN J J J (cB T J J J J J e8 c7.1 c7.2) (aN J J J (aw T J J J J (gM (k:=(Fl.int .i64)) (oO s3 2) e8 c7 0 J)) (au T J (au T J (au T J (cR (rx T 2 ?_))))))
 cases H;refine aq J (p1 T J [6,4,0] ⟨.nilIface,[],H5,tK,s5,J,J⟩ J)
def y_.f (err:Er):Option Int:=if(Er.isNil err)=true then(some 0) else((uT.f err (Er.dS 2)).bind λv1=>if v1=true then(some 4) else((uT.f err (Er.dS 3)).bind λv2=>if v2=true then(some 7) else(some 1)))
theorem y_.c (H:y_.f err=some r) (hG:fK 414 eZ hU el F) (Du:lI 414 el err Pn F):
 QU 101 [Pn] [] F (ii r):=by
 unfold y_.f at H;refine aB Tryz.func101 J J (λW=>rc T 10 (bp J (I9 T J J J (Fz Du (j:=0) J)) (ro T 3 (cb J H (λH=>?_) (λH=>?_)))))
 ·refine rc T 8 ?_
  cases H;exact p0 T J [0] J
 refine rc T 3 (lg T J (rG (j:=0) J hG (g:=2) (by decide)) (k [] J Jv H (uT.c err (Er.dS 2) _ _ · (dB hG (j:=0) J) (Fz Du (j:=0) J) IX) (λv1 H=>ro T 3 (cb J H (λH=>?_) (λH=>?_)))))
 ·refine rc T 8 ?_
  cases H;exact p0 T J [0] J
 refine rc T 3 (lg T J (rG (j:=0) J hG (g:=3) (by decide)) (k [] J Jv H (uT.c err (Er.dS 3) _ _ · (dB hG (j:=0) J) (Fz Du (j:=0) J) IX) (λv2 H=>ro T 3 (cb J H (λH=>?_) (λH=>?_)))))
 ·refine rc T 8 ?_
  cases H;exact p0 T J [0] J
 refine rc T 9 ?_
 cases H;exact p0 T J [0] J
def xp.f (n:bY) (goal:Int) (cell:Int):Option (Int×Int×Int×bY):=(y6.f n goal cell).bind λv1=>(y_.f v1.2.2.1).bind λv2=>some (v1.1,v1.2.1,v2,v1.2.2.2)
def xp.R (el:Nat->Addr) (sk:Nat) (r:(Int×Int×Int×bY)) (u:Value) (G:List Hp):Prop:= ∃(H0:Hp),gi r.2.2.2 sk H0/\u=(.tuple #[(ii r.1),(ii r.2.1),(ii r.2.2.1)])/\G=[H0]
theorem xp.c (H:xp.f n goal cell=some r) (hG:fK 414 eZ hU el F) (gS:gi n cN gI):
 QR 127 [(pp cN),(ii goal),(ii cell)] [gI] [] F (xp.R el cN r):=by
 unfold xp.f at H;refine aB Tryz.func127 J J (λW=>rc T 12 (kr (y6.R el cN) [] [0] J ab' H (y6.c · (dB hG (j:=0) J) gS) (λv1 H=>?_)));rintro _ _ ⟨v2,H2,H3,s2,s3,rfl,rfl⟩;refine fz J (ro T 14 (k [] J Sc H (y_.c · (dB hG (j:=0) J) (ru s2 (j:=1) J)) (λv2 H=>ro T 6 ?_)))
 cases H;exact p1 T J [2,0] ⟨H3,s3,J,J⟩ J
def ue.f (n:bY) (goal:Int) (bB:Int):Option (fX×Int×bY):=(qC.f n goal bB).bind λv1=>(y_.f v1.2.1).bind λv2=>some (v1.1,v2,v1.2.2)
def ue.R (el:Nat->Addr) (sk:Nat) (r:(fX×Int×bY)) (u:Value) (G:List Hp):Prop:= ∃(a0:Option Addr) (n0:Nat) (H0:Hp) (a1:Option Addr) (n1:Nat) (H1:Hp) (H2:Hp),aj (Fl.int .i64) 3 r.1.fa a0 n0 H0/\aj (Fl.int .i64) 3 r.1.cz a1 n1 H1/\gi r.2.2 sk H2/\u=(.tuple #[(.agg #[(ll a0 r.1.fa n0),(ll a1 r.1.cz n1)]),(ii r.2.1)])/\G=[H0,H1,H2]
theorem ue.c (H:ue.f n goal bB=some r) (hG:fK 414 eZ hU el F) (gS:gi n cN gI):
 QR 68 [(pp cN),(ii goal),(ii bB)] [gI] [] F (ue.R el cN r):=by
 unfold ue.f at H;refine aB Tryz.func68 J J (λW=>rc T 2 (nc T J (λb2=>fz J (ro T 8 (kr (qC.R el cN) [] [0] J Sb H (qC.c · (dB hG (j:=0) J) gS) (λv1 H=>?_))))));rintro _ _ ⟨a3,n3,H3,a4,n4,H4,v5,H5,H6,s3,s4,s5,s6,rfl,rfl⟩;refine fz J (ro T 3 (nc T J (λb7=>fz J (jP T 6 J (ro T 4 (ks [6,8,9] J (fz J (rz [3] mix (bO bN) (λhg pf=>av 0 sz hg pf J (gA T 6 J J J J J J J) (ha T 3 [1] sz hg pf J (ao 2 (kh [] J Sc H (y_.c · (dB hG (j:=0) J) (ru s5 (j:=4) J)) (λv2 H=>an sz (ao 3 (iT T 1 J (an sl (hb T 4 sl hg pf J (ae (rx T 2 ?_)))))))))))))))))))
 cases H;exact pb T J (.cQ (j:=1) [(ll a3 v1.1.fa n3),(ll a4 v1.1.cz n4)] J J J J J J J (.tmp J .nil)) [2,2,3,0] ⟨(_,_),a3,n3,H3,a4,n4,H4,H6,s3,s4,s6,J,J⟩ J J
def Cn.f (n:bY):Option gv:=(y5.f n).bind λv1=>(mi.f n.aU v1).bind λv2=>(Ew.f n.eh).bind λv3=>(mi.f v2 v3).bind λv4=>some v4
theorem Cn.c (H:Cn.f n=some r) (gS:gi n cN gI):
 QU 52 [(pp cN)] [gI] F (.agg #[(uu r.bC),(uu r.bD),(uu r.bA),(uu r.bx),(uu r.bM),(uu r.bE)]):=by
 unfold Cn.f at H;refine aB Tryz.func52 J J (λW=>rc T 2 (nc T J (λb2=>fz J (ro T 9 (dW J (rc T 3 ?_))))));obtain⟨b4,H4,xW,EE,EF,H5,s4,s5,dp⟩:=(λx=>x) gS;refine bz 0 (congrArg some dp) (fz J (ks [0,2] J (fz J (rz [13] mix (bO bN) (λhg pf=>ha T 11 [0,1,2] sz hg pf J (av 3 sz hg pf J (gA T 2 J J J J J J J) (ha T 6 [4,7,8,9] sz hg pf J (av 10 sz hg pf J (aw T J J J J (aD (j:=2) J J)) (ao 5 ?_)))))))));obtain⟨v1,V1,H⟩:=fY H;refine IF (As:=[(cl cN 135 [xW,EE,EF,(pp b4),(uu n.aU.bC),(uu n.aU.bD),(uu n.aU.bA),(uu n.aU.bx),(uu n.aU.bM),(uu n.aU.bE)]),H4,H5]) [2,2,2] J J J J S7 J J (IU (A:=[gI]) (by simp only[dp,List.flatten_cons,List.flatten_append,List.flatten_nil,List.append_nil,List.append_assoc]) (y5.c V1 gS)) (an sz (ao 6 (kh [] J Nb H (mi.c ·) (λv2 H=>an sz (ao 11 (kh [3] J adK H (Ew.c · s4) (λv3 H=>an sz (ao 12 (kh [] J Nb H (mi.c ·) (λv4 H=>an sz (ao 13 (iT T 1 J (an sl (ae (rx T 2 ?_)))))))))))))))
 cases H;refine cq [2,2,2] J dp (pb T J (.cQ (j:=1) [(uu r.bC),(uu r.bD),(uu r.bA),(uu r.bx),(uu r.bM),(uu r.bE)] J J J J J J J .nil) [2,0] () J J)
def vx.f (n:bY):Option aJ:=c_ n.core ((Ab.f).bind λv2=>some v2) (λx1=>(wQ.f x1.aI).bind λv3=>some v3)
def vx.R (r:aJ) (u:Value) (G:List Hp):Prop:= ∃(a0:Option Addr) (n0:Nat) (H0:Hp),aj (Fl.int .u8) 5 r.C a0 n0 H0/\u=(.agg #[(ii r.W),(ii r.H),(ll a0 r.C n0)])/\G=[H0]
theorem vx.c (H:vx.f n=some r) (gS:gi n cN gI):
 QR 43 [(pp cN)] [gI] [gI] F (vx.R r):=by
 unfold vx.f at H;refine aB Tryz.func43 J J (λW=>rc T 2 (nc T J (λb2=>fz J (ro T 9 (dW J (rc T 3 ?_))))));obtain⟨b4,H4,xW,EE,EF,H5,s4,s5,dp⟩:=(λx=>x) gS;refine bz 0 (congrArg some dp) (fz J ?_);rcases q1:n.core with _ |x1
 ·replace H:=eJ q1 H;rw[q1] at s5;obtain⟨rfl,rfl,rfl,rfl⟩:=s5;refine rc T 4 (lf T 2 J (kr Ab.R [] [] J S6 H (Ab.c ·) (λv2 H=>?_)));rintro _ _ ⟨cw,n10,bV,bS,rfl,rfl⟩;refine fz J (jP T 1 J (ro T 3 ?_))
  cases H;refine cq [2,2,2] J dp (pb T J (.cQ (j:=1) [(ii r.W),(ii r.H),(ll cw r.C n10)] J J J J J J J .nil) [2,2,0] ⟨(_,_),cw,n10,bV,bS,J,J⟩ J J)
 replace H:=eK q1 H;rw[q1] at s5;obtain⟨b7,H7,b8,H8,b9,H9,s7,s8,s9,rfl,rfl,rfl,oa⟩:=s5;refine bz 4 (congrArg some oa) (fz J (rc T 4 (lf T 2 J (kr wQ.R [4] [4] J S6 H (wQ.c · s7) (λv3 H=>?_)))));rintro _ _ ⟨dt,n11,cA,cS,rfl,rfl⟩;refine fz J (jP T 1 J (ro T 3 ?_))
 cases H;refine cq [7,4,4] J oa (cq [2,2,3] J dp (pb T J (.cQ (j:=1) [(ii r.W),(ii r.H),(ll dt r.C n11)] J J J J J J J .nil) [2,2,0] ⟨(_,_),dt,n11,cA,cS,J,J⟩ J J))
def xn.f (n:bY):Option (List (Int×Int)):=(zp.f n.eh).bind λv1=>some v1
def xn.R (r:(List (Int×Int))) (u:Value) (G:List Hp):Prop:= ∃(a0:Option Addr) (n0:Nat) (H0:Hp),aj (Fl.pair .i64) 76 r a0 n0 H0/\u=(ll a0 r n0)/\G=[H0]
theorem xn.c (H:xn.f n=some r) (gS:gi n cN gI):
 QR 66 [(pp cN)] [gI] [gI] F (xn.R r):=by
 unfold xn.f at H;refine aB Tryz.func66 J J (λW=>rc T 12 (dW J (rc T 3 ?_)));obtain⟨b3,H3,p_,HG,HH,H4,s3,s4,bT⟩:=(λx=>x) gS;refine bz 0 (congrArg some bT) (fz J (rc T 4 (lf T 1 J (kr zp.R [2] [2] J adV H (zp.c · s3) (λv1 H=>?_)))));rintro _ _ ⟨a5,n5,H5,s5,rfl,rfl⟩;refine fz J (ro T 4 ?_)
 cases H;refine cq [1,3,1] J bT (p1 T J [1,1,0] ⟨a5,n5,H5,s5,J,J⟩ J)
def D9.f (n:bY):Option (Int×Bool):=c_ n.core ((G6.f).bind λv2=>some (v2.1,v2.2.2)) (λx1=>(CD.f x1.gZ x1.hZ x1.aI).bind λv3=>some (v3.1,v3.2.2))
theorem D9.c (H:D9.f n=some r) (gS:gi n cN gI):
 QU 72 [(pp cN)] [gI] F (.tuple #[(ii r.1),(bb r.2)]):=by
 unfold D9.f at H;refine aB Tryz.func72 J J (λW=>rc T 13 (dW J (rc T 3 ?_)));obtain⟨b3,H3,p_,HG,HH,H4,s3,s4,bT⟩:=(λx=>x) gS;refine bz 0 (congrArg some bT) (fz J ?_);rcases q1:n.core with _ |x1
 ·replace H:=eJ q1 H;rw[q1] at s4;obtain⟨rfl,rfl,rfl,rfl⟩:=s4;refine rc T 4 (lf T 1 J (k [] J Sd H (G6.c ·) (λv2 H=>ro T 17 ?_)))
  cases H;refine cq [1,1,1] J bT (p0 T J [1,0] J)
 replace H:=eK q1 H;rw[q1] at s4;obtain⟨b6,H6,b7,H7,b8,H8,s6,s7,s8,rfl,rfl,rfl,sD⟩:=s4;refine bz 3 (congrArg some sD) (fz J (rc T 4 (lf T 1 J (k [5,4,3] J Sd H (CD.c · s8 s7 s6) (λv3 H=>ro T 17 ?_)))))
 cases H;refine cq [3,3,3] J sD (cq [1,1,1] J bT (p0 T J [1,0] J))
end
noncomputable section
def pg.f (kind:Int):Option (AD×Bool):=if(kind==1)=true then(some ((AD.mk 0 0 true),true)) else(if(kind==2)=true then(some ((AD.mk 4 1 false),true)) else((if(kind==3)=true then(some (kind==3)) else(if(kind==4)=true then(some (kind==4)) else(some (kind==6)))).bind λx1=>if x1=true then(some ((AD.mk 4 4 false),true)) else(if(kind==5)=true then(some ((AD.mk 4 0 false),true)) else((if(kind==7)=true then(some (kind==7)) else(some (kind==8))).bind λx3=>if x3=true then(some ((AD.mk 0 0 false),true)) else(some ((AD.mk 0 0 false),false))))))
theorem pg.c (H:pg.f kind=some r):
 QU 111 [(ii kind)] [] F (.tuple #[(.agg #[(ii r.1.a),(ii r.1.b),(bb r.1.load)]),(bb r.2)]):=by
 unfold pg.f at H;refine aB Tryz.func111 J J (λW=>rc T 2 (nc T J (λb1=>ro T 5 (nc T J (λb2=>ro T 29 (cb J H (λH=>?_) (λH=>?_)))))))
 ·refine rc T 8 (sg T 2 J (ro T 1 (ks [2,4] J (rx T 16 (lm T 2 J (sg T 1 J (ro T 1 (ro T 3 ?_))))))))
  cases H;exact pb T J (.cQ (j:=1) [(ii 0),(ii 0),(bb true)] J J J J J J J (.tmp J .nil)) [0] () J J
 refine rc T 9 (cb J H (λH=>?_) (λH=>?_))
 ·refine rc T 10 (sg T 2 J (ro T 1 (sg T 2 J (ro T 1 (ks [2,4] J (rx T 14 (lm T 2 J (sg T 1 J (ro T 4 ?_)))))))))
  cases H;exact pb T J (.cQ (j:=1) [(ii 4),(ii 1),(bb false)] J J J J J J J (.tmp J .nil)) [0] () J J
 refine rc T 3 (mq H [2,4,5] [0,0,0] (λz2 (x1:Bool)=>(x1=z2,[(10,(bb x1))],[])) J J (λz2 Z3 _=>?_) ?_)
 ·refine rc T 6 (cb J Z3 (λZ3=>?_) (λZ3=>?_))
  ·refine rc T 2 (am _ [0,0,0] (oi Z3) J J)
  refine rc T 6 (cb J Z3 (λZ3=>?_) (λZ3=>?_))
  ·refine rc T 2 (am _ [0,0,0] (oi Z3) J J)
  refine rc T 5 (am _ [0,0,0] (oi Z3) J J)
 rintro _ x1 rfl H;refine cb J H (λH=>?_) (λH=>?_)
 ·refine rc T 11 (sg T 2 J (ro T 5 (sg T 2 J (ro T 10 (lm T 2 J (sg T 1 J (ro T 1 (ro T 1 (ke [2,3] [0,0] J J (rx T 2 ?_))))))))))
  cases H;exact pb T J (.cQ (j:=1) [(ii 4),(ii 4),(bb false)] J J J J J J J (.tmp J .nil)) [0] () J J
 refine rc T 9 (cb J H (λH=>?_) (λH=>?_))
 ·refine rc T 13 (sg T 2 J (ro T 10 (lm T 2 J (sg T 1 J (ro T 4 ?_)))))
  cases H;exact pb T J (.cQ (j:=1) [(ii 4),(ii 0),(bb false)] J J J J J J J (.tmp J .nil)) [0] () J J
 refine rc T 2 (mq H [2,4] [0,0,0] (λz4 (x3:Bool)=>(x3=z4,[(16,(bb x3))],[])) J J (λz4 Z8 _=>?_) ?_)
 ·refine rc T 6 (cb J Z8 (λZ8=>?_) (λZ8=>?_))
  ·refine rc T 2 (am _ [0,0,0] (oi Z8) J J)
  refine rc T 5 (am _ [0,0,0] (oi Z8) J J)
 rintro _ x3 rfl H;refine cb J H (λH=>?_) (λH=>?_)
 ·refine rc T 19 (lm T 2 J (sg T 1 J (ro T 4 ?_)))
  cases H;exact pb T J (.cQ (j:=1) [(ii 0),(ii 0),(bb false)] J J J J J J J (.tmp J .nil)) [0] () J J
 refine rc T 19 (sg T 1 J (ro T 7 ?_))
 cases H;exact pb T J (.cQ (j:=1) [(ii 0),(ii 0),(bb false)] J J J J J J J (.tmp J .nil)) [0] () J J
def qE.l0:Nat->(List Int)->Int->Int->Option Int
 |0,_,_,_=>none
 |k5+1,b,x3,x4=>if x4<(List.length b:Int) then(if(0<=x4/\x4<(List.length b:Int)) then(if(0<=(aa (8*x4))) then(qE.l0 k5 b (aa (BitVec.toNat (BitVec.ofInt (IntKind.bits .i64) x3|||BitVec.ofInt (IntKind.bits .i64) (aa ((aa (rd b x4))*(2^(min (Int.toNat (aa (8*x4))) (IntKind.bits .i64)))))))) (aa (x4+1))) else none) else none) else(some x3)
def qE.f (b:(List Int)):Option Int:=qE.l0 fuel b 0 0
theorem qE.c (H:qE.f b=some r) (hJ:aS (Fl.int .u8) b jV F) (gm:List.length b<=jK):
 QU 190 [(ll jV b jK)] [] F (ii r):=by
 unfold qE.f at H;refine aB Tryz.func190 J J (λW=>rc T 19 (lq [6,7] [0] (λ(⟨k5,x3,x4⟩:Nat×Int×Int)=>(qE.l0 k5 b x3 x4=some r,[(3,(ii x3)),(8,(ii x4))],[])) J J (fuel,0,0) [0] H J J ?_));rintro k5 ⟨x3,x4⟩ Z1;replace Z1:qE.l0 (k5+1) b x3 x4=some r:=Z1;rw[qE.l0] at Z1;refine rc T 6 (cd J Z1 (λZ1=>?_) (λZ1=>?_))
 ·refine rc T 7 ?_;obtain⟨c3,Z1⟩:=az Z1;obtain⟨q1,o1,e1⟩:=hJ.addr c3.1 c3.2;refine ix T J e1 c3 (le T 0 (rO hJ 0) e1 c3 J J (ro T 10 ?_));obtain⟨c4,Z1⟩:=az Z1;refine bp J (Rz J J J c4) (ro T 10 (ar (_,_) [0] Z1 J J))
 refine rc T 12 ?_
 cases Z1;exact p0 T J [0] J
def AB.f (b:(List Int)):Option (dn×Int):=if(0<=(0:Int)/\(0:Int)<(List.length b:Int)) then(if(0<=(1:Int)/\(1:Int)<=(List.length b:Int)/\(List.length b:Int)<=(List.length b:Int)) then((pg.f (aa (rd b 0))).bind λv1=>if(!v1.2)=true then(some ((dn.mk 0 (aa (rd b 0)) 0 []),1)) else(if v1.1.load=true then(if(List.length (aA b 1 (List.length b:Int)):Int)<4 then(some ((dn.mk 0 0 0 []),0)) else(if(0<=(0:Int)/\(0:Int)<=(4:Int)/\(4:Int)<=(List.length (aA b 1 (List.length b:Int)):Int)) then((qE.f (aA (aA b 1 (List.length b:Int)) 0 4)).bind λv2=>if(aa ((List.length (aA b 1 (List.length b:Int)):Int)-4))<v2 then(some ((dn.mk 0 0 0 []),0)) else(if(0<=(4:Int)/\(4:Int)<=(aa (4+v2))/\(aa (4+v2))<=(List.length (aA b 1 (List.length b:Int)):Int)) then(if(List.length ([]:List Int)+List.length (aA (aA b 1 (List.length b:Int)) 4 (aa (4+v2)))<=1099511627776) then(some ((dn.mk (aa (rd b 0)) 0 0 ([]++(aA (aA b 1 (List.length b:Int)) 4 (aa (4+v2))))),(aa (5+v2)))) else none) else none)) else none)) else(if(List.length (aA b 1 (List.length b:Int)):Int)<(aa (v1.1.a+v1.1.b)) then(some ((dn.mk 0 0 0 []),0)) else(if(0<=(0:Int)/\(0:Int)<=v1.1.a/\v1.1.a<=(List.length (aA b 1 (List.length b:Int)):Int)) then(if(0<=v1.1.a/\v1.1.a<=(aa (v1.1.a+v1.1.b))/\(aa (v1.1.a+v1.1.b))<=(List.length (aA b 1 (List.length b:Int)):Int)) then((qE.f (aA (aA b 1 (List.length b:Int)) 0 v1.1.a)).bind λv3=>(qE.f (aA (aA b 1 (List.length b:Int)) v1.1.a (aa (v1.1.a+v1.1.b)))).bind λv4=>some ((dn.mk (aa (rd b 0)) v3 v4 []),(aa ((aa (1+v1.1.a))+v1.1.b)))) else none) else none)))) else none) else none
def AB.R (r:(dn×Int)) (u:Value) (G:List Hp):Prop:= ∃(a0:Option Addr) (n0:Nat) (H0:Hp),aj (Fl.int .u8) 5 r.1.Map a0 n0 H0/\u=(.tuple #[(.agg #[(ii r.1.Kind),(ii r.1.A),(ii r.1.B),(ll a0 r.1.Map n0)]),(ii r.2)])/\G=[H0]
theorem AB.c (H:AB.f b=some r) (hJ:aS (Fl.int .u8) b jV F) (gm:List.length b<=jK):
 QR 146 [(ll jV b jK)] [] [] F (AB.R r):=by
 unfold AB.f at H;refine aB Tryz.func146 J J (λW=>rc T 2 (nc T J (λb1=>ro T 4 (dj mix ay (au T J ?_)))));obtain⟨c1,H⟩:=az H;obtain⟨q2,o2,e2⟩:=hJ.addr c1.1 c1.2;refine aN J J J (cB T J J J J J e2 c1.1 c1.2) (aN J J J (aw T J J J J (gM (k:=(Fl.int .u8)) (rO hJ 0) e2 c1 0 J)) (au T J (au T J ?_)));obtain⟨c2,H⟩:=az H;refine aN J J J (kn T J J J J J J c2 gm) (au T J (au T J (cR (rx T 4 (k [] J MP H (pg.c ·) (λv1 H=>ro T 3 (nc T J (λb3=>sg T 2 J (ro T 10 (cb J H (λH=>?_) (λH=>?_)))))))))))
 ·refine rc T 4 (sg T 1 J (ro T 2 (ke [2,3] [0,0] J J (rx T 3 ?_))))
  cases H;refine br (pb T J (.cQ (j:=1) [(ii 0),(ii (aa (rd b 0))),(ii 0),nl] J J J J J J J (.tmp J .nil)) [2,0] ⟨(_,_),none,0,[],aj.nil,J,J⟩ J J)
 refine rc T 6 (lf T 2 J (ro T 2 (cb J H (λH=>?_) (λH=>?_))))
 ·refine rc T 8 (cd J H (λH=>?_) (λH=>?_))
  ·refine rc T 3 (sg T 1 J (ro T 6 ?_))
   cases H;refine br (pb T J (.cQ (j:=1) [(ii 0),(ii 0),(ii 0),nl] J J J J J J J (.tmp J .nil)) [3,0] ⟨(_,_),none,0,[],aj.nil,J,J⟩ J J)
  refine rc T 5 ?_;obtain⟨c7,H⟩:=az H;refine bp J (kn T J J J J J J c7 (mh c2 gm)) (k [] J MV H (qE.c · (mL (mL (rO hJ 0) c2 gm) c7 (mh c2 gm)) (mh c7 (mh c2 gm))) (λv2 H=>ro T 13 (cd J H (λH=>?_) (λH=>?_))))
  ·refine rc T 3 (sg T 1 J (ro T 6 ?_))
   cases H;refine br (pb T J (.cQ (j:=1) [(ii 0),(ii 0),(ii 0),nl] J J J J J J J (.tmp J .nil)) [3,0] ⟨(_,_),none,0,[],aj.nil,J,J⟩ J J)
  refine rc T 8 ?_;obtain⟨gk,H⟩:=az H;refine bp J (kn T J J J J J J gk (mh c2 gm)) (br ?_);obtain⟨dZ,H⟩:=az H;refine aW (dM (k:=(Fl.int .u8)) (xs:=([]:List Int)) T (g:=3) J J J J J J J J J J aj.nil (mL (mL (rO hJ 0) c2 gm) gk (mh c2 gm)) dZ J (λa8 n8 H8 s8=>ro T 3 (sg T 1 J (ro T 2 (ke [2,3] [0,0,1] J J (rx T 3 ?_))))))
  cases H;exact pb T J (.cQ (j:=1) [(ii (aa (rd b 0))),(ii 0),(ii 0),(ll a8 ([]++(aA (aA b 1 (List.length b:Int)) 4 (aa (4+v2)))) n8)] J J J J J J J (.tmp J .nil)) [2,0] ⟨(_,_),a8,n8,H8,s8,J,J⟩ J J
 refine rc T 8 (lf T 2 J (ro T 1 (lf T 2 J (ro T 4 (cd J H (λH=>?_) (λH=>?_))))))
 ·refine rc T 3 (sg T 1 J (ro T 5 ?_))
  cases H;refine br (pb T J (.cQ (j:=1) [(ii 0),(ii 0),(ii 0),nl] J J J J J J J (.tmp J .nil)) [3,0] ⟨(_,_),none,0,[],aj.nil,J,J⟩ J J)
 refine rc T 3 (ks [2,4,5,6] J (fz J (rg [] [0,1] mix (bO bN) (λhg pf=>ha T 22 [0,1,2] (so [0,1]) hg pf J (av 3 (so [0,1]) hg pf J (aw T J J J J (aD (j:=1) J J)) ?_)))));obtain⟨ja,H⟩:=az H;refine av 4 (so [0,1]) hg pf J (kn T J J J J J J ja (mh c2 gm)) (ha T 18 [6,7] (so [0,1]) hg pf J (av 8 (so [0,1]) hg pf J (aw T J J J J (aD (j:=1) J J)) (ha T 16 [9] (so [0,1]) hg pf J (av 10 (so [0,1]) hg pf J (aw T J J J J (aD (j:=1) J J)) (ha T 14 [11] (so [0,1]) hg pf J (av 12 (so [0,1]) hg pf J (aw T J J J J (aD (j:=1) J J)) (ha T 12 [13] (so [0,1]) hg pf J ?_)))))));obtain⟨oJ,H⟩:=az H;refine av 14 (so [0,1]) hg pf J (kn T J J J J J J oJ (mh c2 gm)) (ha T 10 [17] (so [0,1]) hg pf J (av 18 (so [0,1]) hg pf J (aw T J J J J (aD (j:=1) J J)) (ha T 7 [19,20] (so [0,1]) hg pf J (av 21 (so [0,1]) hg pf J (aw T J J J J (aD (j:=1) J J)) (ha T 5 [22] (so [0,1]) hg pf J (ao 5 (kh [] J MV H (qE.c · (mL (mL (rO hJ 0) c2 gm) ja (mh c2 gm)) (mh ja (mh c2 gm))) (λv3 H=>an (so [0,1]) (ao 15 (kh [] J MV H (qE.c · (mL (mL (rO hJ 0) c2 gm) oJ (mh c2 gm)) (mh oJ (mh c2 gm))) (λv4 H=>an (so [0,1]) (ha T 2 [16] (so [0,1]) hg pf J (ao 23 (sf T 1 J (an (so [0,1]) (ha T 0 [24] (so [0,1]) hg pf J (ae (rx T 1 (rc T 1 ?_)))))))))))))))))))
 cases H;refine br (pb T J (.cQ (j:=1) [(ii (aa (rd b 0))),(ii v3),(ii v4),nl] J J J J J J J (.tmp J .nil)) [3,0] ⟨(_,_),none,0,[],aj.nil,J,J⟩ J J)
def GU.f (b:(List Int)):Option Bool:=if((List.length b:Int)==0)=true then(some false) else((AB.f b).bind λv1=>some (v1.2==0))
theorem GU.c (H:GU.f b=some r) (hJ:aS (Fl.int .u8) b jV F) (gm:List.length b<=jK):
 QU 110 [(ll jV b jK)] [] F (bb r):=by
 unfold GU.f at H;refine aB Tryz.func110 J J (λW=>rc T 13 (cb J H (λH=>?_) (λH=>?_)))
 ·refine rc T 7 ?_
  cases H;exact p0 T J [0] J
 refine rc T 5 (kr AB.R [] [] J ab4 H (AB.c · (rO hJ 0) gm) (λv1 H=>?_));rintro _ _ ⟨a1,n1,H1,s1,rfl,rfl⟩;refine fz J (ro T 3 (nc T J (λb2=>sg T 2 J (ro T 11 ?_))))
 cases H;exact p0 T J [0] J
def rJ.f (n:Int) (ai:Int):Option Bool:=if n≥0 then(if(0<=(aa (8*ai))) then(some (decide (n<(aa (1*(2^(min (Int.toNat (aa (8*ai))) (IntKind.bits .i64)))))))) else none) else(some false)
theorem rJ.c (H:rJ.f n ai=some r):
 QU 112 [(ii n),(ii ai)] [] F (bb r):=by
 unfold rJ.f at H;refine aB Tryz.func112 J J (λW=>rc T 10 (ad 7 J H (λH=>?_) (λH=>?_)))
 ·refine ro T 3 ?_;obtain⟨c2,H⟩:=az H;refine bp J (Rz J J J c2) (ro T 6 ?_)
  cases H;exact p0 T J [0] J
 refine ro T 10 ?_
 cases H;exact p0 T J [0] J
def Cs.f (o:dn):Option Bool:=if(o.Kind==0)=true then(if(o.A==(-1))=true then((if(o.B==0)=true then((GU.f o.Map).bind λv3=>some v3) else(some false)).bind λx1=>some x1) else((pg.f o.A).bind λv4=>((rJ.f o.A 1).bind λv7=>if(v7&&(!v4.2))=true then(if(o.B==0)=true then(some ((List.length o.Map:Int)==0)) else(some false)) else(some false)).bind λx5=>some x5)) else((pg.f o.Kind).bind λv8=>(if v8.2=true then((rJ.f o.A v8.1.a).bind λv11=>if v11=true then((rJ.f o.B v8.1.b).bind λv12=>if v12=true then(if((List.length o.Map:Int)==0)=true then(some true) else(if v8.1.load=true then(some (decide ((List.length o.Map:Int)<=4294967295))) else(some false))) else(some false)) else(some false)) else(some false)).bind λx9=>some x9)
theorem Cs.c (H:Cs.f o=some r) (Ac:aS (Fl.int .u8) o.Map Bs F) (zV:List.length o.Map<=Cl):
 QU 82 [(.agg #[(ii o.Kind),(ii o.A),(ii o.B),(ll Bs o.Map Cl)])] [] F (bb r):=by
 unfold Cs.f at H;refine aB Tryz.func82 J J (λW=>rc T 2 (nc T J (λb1=>ro T 7 (lf T 1 J (ro T 3 (cb J H (λH=>?_) (λH=>?_)))))))
 ·refine rc T 4 (lf T 1 J (ro T 3 (cb J H (λH=>?_) (λH=>?_))))
  ·refine mq H [] [0] (λz2 (x1:Bool)=>(x1=z2,[(2,(bb x1))],[])) J J (λz2 Z3 _=>?_) ?_
   ·refine rc T 2 (lf T 1 J (ro T 2 (ab 16 J Z3 (λZ3=>?_) (λZ3=>?_))))
    ·refine ro T 1 (lf T 1 J (k [] J abP Z3 (GU.c · (rO Ac 0) zV) (λv3 Z3=>ro T 4 (am _ [0] (oi Z3) J J))))
    refine ro T 7 (am _ [0] (oi Z3) J J)
   rintro _ x1 rfl H;refine rc T 3 ?_
   cases H;exact p0 T J [0] J
  refine rc T 5 (lf T 1 J (k [] J MP H (pg.c ·) (λv4 H=>ro T 3 (nc T J (λb2=>sg T 2 J (ro T 3 (mq H [] [0] (λz6 (x5:Bool)=>(x5=z6,[(2,(bb x5))],[])) J J (λz6 Z7 _=>?_) ?_)))))))
  ·refine rc T 2 (lf T 1 J (k [] J MQ Z7 (rJ.c ·) (λv7 Z7=>ro T 1 (ga T [4,5,6] 30 [1] 33 J J J J J J J (ro T 1 (ab 34 J Z7 (λZ7=>?_) (λZ7=>?_)))))))
   ·refine ro T 1 (lf T 1 J (ro T 3 (ab 39 J Z7 (λZ7=>?_) (λZ7=>?_))))
    ·refine ro T 1 (lf T 1 J (ro T 6 (am _ [0] (oi Z7) J J)))
    refine ro T 8 (am _ [0] (oi Z7) J J)
   refine ro T 13 (am _ [0] (oi Z7) J J)
  rintro _ x5 rfl H;refine rc T 2 ?_
  cases H;exact p0 T J [0] J
 refine rc T 5 (lf T 1 J (k [] J MP H (pg.c ·) (λv8 H=>ro T 3 (nc T J (λb3=>sg T 2 J (ro T 3 (mq H [] [0] (λnR (x9:Bool)=>(x9=nR,[(2,(bb x9))],[])) J J (λnR bo _=>?_) ?_)))))))
 ·refine rc T 3 (ab 52 J bo (λbo=>?_) (λbo=>?_))
  ·refine ro T 1 (lf T 1 J (ro T 1 (lf T 2 J (k [] J MQ bo (rJ.c ·) (λv11 bo=>ro T 2 (ab 59 J bo (λbo=>?_) (λbo=>?_)))))))
   ·refine ro T 1 (lf T 1 J (ro T 1 (lf T 2 J (k [] J MQ bo (rJ.c ·) (λv12 bo=>ro T 2 (ab 66 J bo (λbo=>?_) (λbo=>?_)))))))
    ·refine ro T 1 (lf T 1 J (ro T 3 (ab 71 J bo (λbo=>?_) (λbo=>?_))))
     ·refine ro T 13 (am _ [0] (oi bo) J J)
     refine ro T 1 (lf T 2 J (ro T 1 (ab 74 J bo (λbo=>?_) (λbo=>?_))))
     ·refine ro T 1 (lf T 1 J (ro T 8 (am _ [0] (oi bo) J J)))
     refine ro T 10 (am _ [0] (oi bo) J J)
    refine ro T 18 (am _ [0] (oi bo) J J)
   refine ro T 25 (am _ [0] (oi bo) J J)
  refine ro T 32 (am _ [0] (oi bo) J J)
 rintro _ x9 rfl H;refine rc T 1 ?_
 cases H;exact p0 T J [0] J
end
end Go.Proofs.YthodkonhneebbaaGreatDoor
