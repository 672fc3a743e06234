/- What the functions of some packages compute, each as a function of plain Lean, with its contract. No condition. -/
import Derived.Test.YthodkonhneebbaaGreatDoorKST
import Derived.Test.YthodkonhneebbaaGreatDoorKS6
import Derived.Test.YthodkonhneebbaaGreatDoorKS7
import Derived.Test.YthodkonhneebbaaGreatDoorKS10
import Derived.Test.YthodkonhneebbaaGreatDoorKS9
namespace Go.Hx
section
variable {W : World} {P : Program} {n : Nat} {F K : Act -> World -> Prop} {Q : Exit -> Act -> World -> Prop} {env : Env} {HL : List Hp} {ops : Array Oper} {i : Nat} {rest : List Nat}
def gqF (js:List Nat) (HL:List Hp):Option (List Hp):=fH (sR js HL++[(sA js HL).flatten])
theorem gq (js:List Nat) {jD:List Hp} (hs:gqF js HL=some jD) (h:aJ W n F env jD):aJ W n F env HL:=gL js (Bx js HL) (by rw[Co hs];exact h)
def RC (js:List Nat) (HL:List Hp):Option (List Hp×List Hp):=match fH (sA js HL),fH (sR js HL) with
 |some A,some R=>some (A,R)
 |_,_=>none
theorem cq (js:List Nat) {As R:List Hp} {H:Hp} (hs:RC js HL=some (As,R)) (hH:H=As.flatten) (h:aJ W n F env (R++[H])):aJ W n F env HL:=by
 unfold RC at hs;split at hs
 ·rename_i A R' h1 h2;simp only[Option.some.injEq,Prod.mk.injEq] at hs;obtain⟨rfl,rfl⟩:=hs;exact dD js (by rw[Bx,Co h1,Co h2]) hH h
 ·cases hs
theorem aq {jD:List Hp} (hs:fH (HL++[[]])=some jD) (h:aJ W n F env jD):aJ W n F env HL:=bz (by rw[Co hs];exact h)
theorem rq (late js:List Nat) {id:Nat} {H0:List Hp} (h0:nH js HL=some H0) (hm:P.follows .mixedOrders=true) (jK:PF Q)
 (h:oS ops (DX ops)=true->PF Q->aJ W n (gI P ops Q (SO W H0) late ops.size (Array.replicate ops.size false)) env HL) (hg:oS ops (DX ops)=true:=by kernel_rfl):
 aJ W n ((Code.region id ops true).wp P Q) env HL:=rg late js hm jK (by rw[Hz h0];exact h) hg
def Li (T:Ty P) (ops:Array Oper) (env:Env) (i j:Nat) (HL:List Hp):Option (Nat×Nat×List Hp):=match Ic T ops env i j HL with
 |some (a,b,L)=>match fH L with
  |some L'=>some (a,b,L')
  |none=>none
 |none=>none
theorem Xb {T:Ty P} {j:Nat} {a b:Nat} {jD:List Hp} (h:Li T ops env i j HL=some (a,b,jD)):Ic T ops env i j HL=some (a,b,jD):=by
 unfold Li at h;split at h
 ·rename_i a' b' L h1;split at h
  ·rename_i L' h2;simp only[Option.some.injEq,Prod.mk.injEq] at h;obtain⟨rfl,rfl,rfl⟩:=h;rw[h1,Co h2]
  ·cases h
 ·cases h
theorem jh (T:Ty P) {b:Nat} {jD:List Hp} (j:Nat) (h1:Li T ops env i j HL=some (b,b,jD)) (h:aJ W n K env jD):aJ W n (wpOp P ops Q i K) env HL:=sf T j (Xb h1) h
theorem jS (T:Ty P) {b:Nat} {jD:List Hp} (j:Nat) (h1:Li T ops env i j HL=some (b,b,jD)) (h:aJ W n (wpOps P ops Q rest) env jD):aJ W n (wpOps P ops Q (i::rest)) env HL:=sg T j (Xb h1) h
theorem ae1 {A B X:Hp} (h:X=List.flatten [A,B]): ∃C:Hp,C=B/\X=List.flatten [A,C]:=⟨_,J,h⟩
end
end Go.Hx
namespace Go.Proofs.YthodkonhneebbaaGreatDoor
open Go.Hx
open List renaming length->aa,flatten_cons->vQ,flatten_append->vP,flatten_nil->vR,append_nil->tv,append_assoc->uR
open Int renaming toNat->ax
open BitVec renaming toNat->gf,ofInt->cj
set_option maxRecDepth 100000
set_option linter.unusedSimpArgs false
set_option linter.unusedVariables false
set_option maxHeartbeats 4000000
set_option autoImplicit true
set_option relaxedAutoImplicit true
noncomputable section
def yv.f (ag:Int):Option (Option cI):=if ag<1 then(some none) else((yI.f ag).bind λv1=>dM v1 (none) (λeT=>some (some (cI.mk none eT (g_.mk 0 0 0 0 0 0)))))
def yv.R (r:(Option cI)):bj:=λu G=> ∃(u0:Value) (G0:List Hp),X' r u0 G0/\u=u0/\G=G0
theorem yv.c (H:yv.f ag=some r):
 QR 51 [(ii ag)] [] [] F (yv.R r):=by
 unfold yv.f at H;refine aF Tryz.func51 J J (λW=>rc T 12 (cd J H (λH=>?_) (λH=>?_)))
 ·refine rc T 7 ?_
  cases H;exact p1 T J [0] ⟨_,_,⟨J,J⟩,J,J⟩ J
 refine rc T 5 (kr yI.R [] [] J ad2 H (yI.c ·) (λv1 H=>?_));rintro _ _ ⟨_,_,O3,rfl,rfl⟩;rcases v1 with _ |eT
 ·replace H:=fj J H
  cases H
 replace H:=fk J H;obtain⟨b1,H1,s1,rfl,rfl⟩:=O3;refine ro T 1 (nc T J (λb2=>fz J (ro T 4 ?_)))
 cases H;refine aq J (gq [2,1,1] J (p1 T J [1,0] ⟨_,_,⟨b2,(List.flatten [(cl b2 135 [(.pointer none),(.pointer none),(.pointer none),(pp b1),(uu 0),(uu 0),(uu 0),(uu 0),(uu 0),(uu 0)]),H1,[]]),(show gS (cI.mk none eT (g_.mk 0 0 0 0 0 0)) b2 (List.flatten [(cl b2 135 [(.pointer none),(.pointer none),(.pointer none),(pp b1),(uu 0),(uu 0),(uu 0),(uu 0),(uu 0),(uu 0)]),H1,[]]) from⟨b1,H1,(.pointer none),(.pointer none),(.pointer none),[],s1,(show vM none (.pointer none) (.pointer none) (.pointer none) [] from⟨J,J,J,J⟩),J⟩),J,J⟩,J,J⟩ J))
def ug.f (n:cI) (cell:Int):Option Int:=dM n.core (none) (λx1=>(jf.f x1.aK cell).bind λv2=>some v2)
theorem ug.c (H:ug.f n cell=some r) (iG:gS n dg iB):
 QU 113 [(pp dg),(ii cell)] [iB] F (ii r):=by
 unfold ug.f at H;refine aF Tryz.func113 J J (λW=>rc T 12 (eN J (rc T 3 ?_)));obtain⟨b3,H3,tj,Lw,Lx,H4,s3,s4,cz⟩:=(λx=>x) iG;refine bU 0 (congrArg some cz) (fz J ?_);rcases q1:n.core with _ |x1
 ·replace H:=fj q1 H
  cases H
 replace H:=fk q1 H;rw[q1] at s4;obtain⟨b6,H6,b7,H7,b8,H8,s6,s7,s8,rfl,rfl,rfl,xM⟩:=s4;refine bU 3 (congrArg some xM) (fz J (rc T 4 (lf T 1 J (ro T 1 (k [3] J wm H (jf.c · s6) (λv2 H=>ro T 4 ?_))))))
 cases H;refine cq [3,3,3] J xM (cq [1,1,1] J cz (p0 T J [1,0] J))
def zW.f (n:cI):Option g_:=dM n.core ((Hn.f).bind λv2=>(HM.f).bind λv3=>some (g_.mk v2 v3 0 0 0 0)) (λx1=>(Ht.f x1.jv x1.aK).bind λv4=>(HN.f x1.kQ x1.jv x1.aK).bind λv5=>some (g_.mk v4 v5 0 0 0 0))
theorem zW.c (H:zW.f n=some r) (iG:gS n dg iB):
 QU 79 [(pp dg)] [iB] F (.agg #[(uu r.bM),(uu r.bN),(uu r.bJ),(uu r.bF),(uu r.bW),(uu r.bR)]):=by
 unfold zW.f at H;refine aF Tryz.func79 J J (λW=>rc T 2 (nc T J (λb2=>fz J (ro T 3 ?_))));obtain⟨b4,H4,tk,Fe,Ff,H5,s4,s5,dx⟩:=(λx=>x) iG;refine bU 0 (congrArg some dx) (fz J ?_);rcases q1:n.core with _ |x1
 ·replace H:=fj q1 H;rw[q1] at s5;obtain⟨rfl,rfl,rfl,rfl⟩:=s5;refine ks [0,2] J (fz J (rz [11] mix (bH bG) (λhg pf=>ha T 9 [0,1,2] sz hg pf J (al T 3 2 sz hg pf J J J (ha T 5 [5,6,7] sz hg pf J (al T 8 2 sz hg pf J J J (ao 4 (kh [] J SG H (Hn.c ·) (λv2 H=>an sz (ao 9 (kh [] J SH H (HM.c ·) (λv3 H=>an sz (ha T 1 [10] sz hg pf J (ao 11 (jh T 1 J (an sl (ae (rx T 2 ?_))))))))))))))))))
  cases H;refine cq [2,2,2] J dx (pb T J (.cS (j:=1) [(uu v2),(uu v3),(uu 0),(uu 0),(uu 0),(uu 0)] J J J J J J J .nil) [2,0] () J J)
 replace H:=fk q1 H;rw[q1] at s5;obtain⟨b7,H7,b8,H8,b9,H9,s7,s8,s9,rfl,rfl,rfl,oV⟩:=s5;refine bU 4 (congrArg some oV) (fz J (ks [0,2] J (fz J (rz [11] mix (bH bG) (λhg pf=>ha T 9 [0,1,2] sz hg pf J (al T 3 2 sz hg pf J J J (ha T 5 [5,6,7] sz hg pf J (al T 8 2 sz hg pf J J J (ao 4 (kh [5,4] J SG H (Ht.c · s8 s7) (λv4 H=>an sz (ao 9 (kh [6,5,4] J SH H (HN.c · s9 s8 s7) (λv5 H=>an sz (ha T 1 [10] sz hg pf J (ao 11 (jh T 1 J (an sl (ae (rx T 2 ?_))))))))))))))))))))
 cases H;refine cq [4,4,4] J oV (cq [2,2,2] J dx (pb T J (.cS (j:=1) [(uu v4),(uu v5),(uu 0),(uu 0),(uu 0),(uu 0)] J J J J J J J .nil) [2,0] () J J))
def yq.f (n:cI) (m:aG):Option (Int×cI):=(zl.f m).bind λv1=>if(!v1)=true then(some (6,n)) else((zW.f n).bind λv2=>(mX.f n.aU v2).bind λv3=>dM n.core ((Gk.f).bind λv5=>(mh.f m v5).bind λv6=>dM v6 (none) (λyZ=>(sO.f yZ).bind λv7=>dM v7 (none) (λrX=>(uk.f rX yZ).bind λv8=>dM v8 (none) (λFk=>(p8.f n.gF).bind λv9=>some (0,(cI.mk (some (fe.mk yZ rX Fk)) v9 v3)))))) (λx4=>(pE.f x4.aK).bind λv10=>(mh.f m v10).bind λv11=>dM v11 (none) (λAD=>(sO.f AD).bind λv12=>dM v12 (none) (λIB=>(uk.f IB AD).bind λlP=>dM lP (none) (λLG=>(p8.f n.gF).bind λdT=>some (0,(cI.mk (some (fe.mk AD IB LG)) dT v3)))))))
def yq.R (tL:Nat) (r:(Int×cI)):bj:=λu G=> ∃(H0:Hp),gS r.2 tL H0/\u=(ii r.1)/\G=[H0]
theorem yq.c (H:yq.f n m=some r) (iG:gS n dg iB) (hZ:aO (Fl.int .u8) m.C jY F) (nk:aa m.C<=jN):
 QR 115 [(pp dg),(.agg #[(ii m.W),(ii m.H),(ll jY m.C jN)])] [iB] [] F (yq.R dg r):=by
 unfold yq.f at H;refine aF Tryz.func115 J J (λW=>rc T 2 (nc T J (λb2=>fz J (ro T 12 (eN J (rc T 2 (lm T 2 J (k [] J SQ H (zl.c · (rO hZ 1) nk) (λv1 H=>ro T 4 (cb J H (λH=>?_) (λH=>?_)))))))))))
 ·refine rc T 8 ?_
  cases H;exact p1 T J [0,0] ⟨iB,iG,J,J⟩ J
 refine rc T 4 ?_;obtain⟨b4,H4,tk,Fe,Ff,H5,s4,s5,dx⟩:=(λx=>x) iG;refine bU 0 (congrArg some dx) (fz J (ks [0,3] J (fz J (rz [10] mix (bH bG) (λhg pf=>ha T 7 [0,1,2,3] sz hg pf J (av 4 sz hg pf J (gA T 2 J J J J J J J) (ha T 5 [5] sz hg pf J (ao 6 ?_))))))));obtain⟨v2,V3,H⟩:=gx H;refine Ja (As:=[(cl dg 135 [tk,Fe,Ff,(pp b4),(uu n.aU.bM),(uu n.aU.bN),(uu n.aU.bJ),(uu n.aU.bF),(uu n.aU.bW),(uu n.aU.bR)]),H4,H5]) [2,2,2] J J J J TD J J (Jl (A:=[iB]) (by simp only[dx,vQ,vP,vR,tv,uR]) (zW.c V3 iG)) (an sz (ao 7 (kh [] J NL H (mX.c ·) (λv3 H=>an sz (ha T 1 [8,9] sz hg pf J (ao 10 (jh T 2 J (an sl (ae (rx T 2 ?_))))))))))
 rcases q5:n.core with _ |x4
 ·replace H:=fj q5 H;rw[q5] at s5;obtain⟨rfl,rfl,rfl,rfl⟩:=s5;refine ks [0,3] J (fz J (rq [10] [0,0,0,0,0] J mix (bH bG) (λhg pf=>ha T 10 [0] sz hg pf J (av 1 sz hg pf J (gA T 1 J J J J J J J) (ha T 6 [2,3,4] sz hg pf J (al T 5 2 sz hg pf J J J (ao 6 (kh [] J Cu H (Gk.c ·) (λv5 H=>an sz (ao 7 (kR mh.R [] [] J SR H (mh.c · (rO hZ 0) nk) (λv6 H=>?_))))))))))));rintro _ _ ⟨_,_,O8,rfl,rfl⟩;rcases v6 with _ |yZ
  ·replace H:=fj J H
   cases H
  replace H:=fk J H;obtain⟨gh,bT,bL,rfl,rfl⟩:=O8;refine an (so [0,0,0,0,0]) (ha T 1 [8,9] (so [0,0,0,0,0]) hg pf J (ao 10 (jh T 2 J (an sl (ae (rx T 7 (lf T 2 J (kr (sO.R gh) [5] [5] J SS H (sO.c · bL) (λv7 H=>?_)))))))));rintro _ _ ⟨_,_,LO,rfl,rfl⟩;rcases v7 with _ |rX
  ·replace H:=fj J H
   cases H
  replace H:=fk J H;obtain⟨iN,cH,cX,rfl,rfl⟩:=LO;refine ro T 2 (jS T 2 J (ro T 3 (ke [0] [0,1,1,1,1,1] J J (fz J (rq [12] [0,0,0,0,0,0] J mix (bH bG) (λhg pf=>ha T 9 [0,1,2,3] sz hg pf J (al T 4 1 sz hg pf J J J (ha T 5 [5,6,7] sz hg pf J (al T 8 1 sz hg pf J J J (ao 9 (kR (uk.R iN gh) [4,4] [4,4] J SU H (uk.c · cX bL) (λv8 H=>?_))))))))))));rintro _ _ ⟨_,_,XZ,rfl,rfl⟩;rcases v8 with _ |Fk
  ·replace H:=fj J H
   cases H
  replace H:=fk J H;obtain⟨lv,dq,dE,rfl,rfl⟩:=XZ;refine an (so [0,0,0,0,1,1]) (ha T 1 [10,11] (so [0,0,0,0,1,1]) hg pf J (ao 12 (jh T 1 J (an sl (ae (rx T 6 (lf T 1 J (kr (p8.R b4) [] [2] J Nl H (p8.c · s4) (λv9 H=>?_)))))))));rintro _ _ ⟨dI,cY,rfl,rfl⟩;refine fz J (ro T 8 ?_)
  cases H;refine gq [5,4,3] J (gq [1,2,2] J (p1 T J [2,0] ⟨(List.flatten [(cl dg 135 [(pp gh),(pp iN),(pp lv),(pp b4),(uu v3.bM),(uu v3.bN),(uu v3.bJ),(uu v3.bF),(uu v3.bW),(uu v3.bR)]),dI,(List.flatten [bT,cH,dq])]),(show gS (cI.mk (some (fe.mk yZ rX Fk)) v9 v3) dg (List.flatten [(cl dg 135 [(pp gh),(pp iN),(pp lv),(pp b4),(uu v3.bM),(uu v3.bN),(uu v3.bJ),(uu v3.bF),(uu v3.bW),(uu v3.bR)]),dI,(List.flatten [bT,cH,dq])]) from⟨b4,dI,(pp gh),(pp iN),(pp lv),(List.flatten [bT,cH,dq]),cY,(show vM (some (fe.mk yZ rX Fk)) (pp gh) (pp iN) (pp lv) (List.flatten [bT,cH,dq]) from⟨gh,bT,iN,cH,lv,dq,bL,cX,dE,J,J,J,J⟩),J⟩),J,J⟩ J))
 replace H:=fk q5 H;rw[q5] at s5;obtain⟨b7,H7,b8,H8,b9,H9,s7,s8,s9,rfl,rfl,rfl,oV⟩:=s5;refine bU 4 (congrArg some oV) (fz J (ks [0,3] J (fz J (rq [10] [0,0,0,0,0,0,0] J mix (bH bG) (λhg pf=>ha T 10 [0] sz hg pf J (av 1 sz hg pf J (gA T 1 J J J J J J J) (ha T 6 [2,3,4] sz hg pf J (al T 5 2 sz hg pf J J J (ao 6 (kh [4] J Cu H (pE.c · s7) (λv10 H=>an sz (ao 7 (kR mh.R [] [] J SR H (mh.c · (rO hZ 0) nk) (λv11 H=>?_))))))))))))));rintro _ _ ⟨_,_,X1,rfl,rfl⟩;rcases v11 with _ |AD
 ·replace H:=fj J H
  cases H
 replace H:=fk J H;obtain⟨oP,dP,dS,rfl,rfl⟩:=X1;refine an (so [0,0,0,0,0,0,0]) (ha T 1 [8,9] (so [0,0,0,0,0,0,0]) hg pf J (ao 10 (jh T 2 J (an sl (ae (rx T 7 (lf T 2 J (kr (sO.R oP) [7] [7] J SS H (sO.c · dS) (λv12 H=>?_)))))))));rintro _ _ ⟨_,_,X3,rfl,rfl⟩;rcases v12 with _ |IB
 ·replace H:=fj J H
  cases H
 replace H:=fk J H;obtain⟨ri,ft,eB,rfl,rfl⟩:=X3;refine ro T 2 (jS T 2 J (ro T 3 (ke [0] [0,1,1,1,1,1,1,1] J J (fz J (rq [12] [0,0,0,0,0,0,0,0] J mix (bH bG) (λhg pf=>ha T 9 [0,1,2,3] sz hg pf J (al T 4 1 sz hg pf J J J (ha T 5 [5,6,7] sz hg pf J (al T 8 1 sz hg pf J J J (ao 9 (kR (uk.R ri oP) [6,6] [6,6] J SU H (uk.c · eB dS) (λlP H=>?_))))))))))));rintro _ _ ⟨_,_,X4,rfl,rfl⟩;rcases lP with _ |LG
 ·replace H:=fj J H
  cases H
 replace H:=fk J H;obtain⟨AR,eU,fL,rfl,rfl⟩:=X4;refine an (so [0,0,0,0,0,0,1,1]) (ha T 1 [10,11] (so [0,0,0,0,0,0,1,1]) hg pf J (ao 12 (jh T 1 J (an sl (ae (rx T 6 (lf T 1 J (kr (p8.R b4) [] [2] J Nl H (p8.c · s4) (λdT H=>?_)))))))));rintro _ _ ⟨fv,fM,rfl,rfl⟩;refine fz J (ro T 8 ?_)
 cases H;refine gq [7,6,5] J (gq [1,4,4] J (p1 T J [4,0] ⟨(List.flatten [(cl dg 135 [(pp oP),(pp ri),(pp AR),(pp b4),(uu v3.bM),(uu v3.bN),(uu v3.bJ),(uu v3.bF),(uu v3.bW),(uu v3.bR)]),fv,(List.flatten [dP,ft,eU])]),(show gS (cI.mk (some (fe.mk AD IB LG)) dT v3) dg (List.flatten [(cl dg 135 [(pp oP),(pp ri),(pp AR),(pp b4),(uu v3.bM),(uu v3.bN),(uu v3.bJ),(uu v3.bF),(uu v3.bW),(uu v3.bR)]),fv,(List.flatten [dP,ft,eU])]) from⟨b4,fv,(pp oP),(pp ri),(pp AR),(List.flatten [dP,ft,eU]),fM,(show vM (some (fe.mk AD IB LG)) (pp oP) (pp ri) (pp AR) (List.flatten [dP,ft,eU]) from⟨oP,dP,ri,ft,AR,eU,dS,eB,fL,J,J,J,J⟩),J⟩),J,J⟩ J))
def yo.f (n:cI):Option cI:=(p8.f n.gF).bind λv1=>dM n.core ((HO.f).bind λv3=>some (cI.mk none v1 n.aU)) (λx2=>(Bn.f x2.kQ x2.jv x2.aK).bind λv4=>some (cI.mk (some (fe.mk x2.aK x2.jv v4)) v1 n.aU))
def yo.R (tL:Nat) (r:cI):bj:=λu G=> ∃(H0:Hp),gS r tL H0/\u=(.tuple #[])/\G=[H0]
theorem yo.c (H:yo.f n=some r) (iG:gS n dg iB):
 QR 85 [(pp dg)] [iB] [] F (yo.R dg r):=by
 unfold yo.f at H;refine aF Tryz.func85 J J (λW=>rc T 6 (nS J (rc T 1 ?_)));obtain⟨b3,H3,tj,Lw,Lx,H4,s3,s4,cz⟩:=(λx=>x) iG;refine bU 0 (congrArg some cz) (fz J (rc T 4 (lf T 1 J (kr (p8.R b3) [] [2] J Nl H (p8.c · s3) (λv1 H=>?_)))));rintro _ _ ⟨H5,s5,rfl,rfl⟩;refine fz J (ro T 2 ?_);rcases q2:n.core with _ |x2
 ·replace H:=fj q2 H;rw[q2] at s4;obtain⟨rfl,rfl,rfl,rfl⟩:=s4;refine rc T 4 (lf T 1 J (k [] J SJ H (HO.c ·) (λv3 H=>ro T 1 (jm ?_))))
  cases H;refine aq J (gq [1,2,2] J (p1 T J [2,0] ⟨(List.flatten [(cl dg 135 [(.pointer none),(.pointer none),(.pointer none),(pp b3),(uu n.aU.bM),(uu n.aU.bN),(uu n.aU.bJ),(uu n.aU.bF),(uu n.aU.bW),(uu n.aU.bR)]),H5,[]]),(show gS (cI.mk none v1 n.aU) dg (List.flatten [(cl dg 135 [(.pointer none),(.pointer none),(.pointer none),(pp b3),(uu n.aU.bM),(uu n.aU.bN),(uu n.aU.bJ),(uu n.aU.bF),(uu n.aU.bW),(uu n.aU.bR)]),H5,[]]) from⟨b3,H5,(.pointer none),(.pointer none),(.pointer none),[],s5,(show vM none (.pointer none) (.pointer none) (.pointer none) [] from⟨J,J,J,J⟩),J⟩),J,J⟩ J))
 replace H:=fk q2 H;rw[q2] at s4;obtain⟨b7,H7,b8,H8,b9,H9,s7,s8,s9,rfl,rfl,rfl,oV⟩:=s4;refine bU 2 (congrArg some oV) (fz J (rc T 4 (lf T 1 J (kr (Bn.R b9 b8 b7) [4,3] [5,4,3] J SJ H (Bn.c · s9 s8 s7) (λv4 H=>?_)))));rintro _ _ ⟨cH,cX,rfl,rfl⟩;refine fz J (ro T 1 (jm ?_))
 cases H;refine gq [5,4,3] J (gq [1,1,1] J (p1 T J [1,0] ⟨(List.flatten [(cl dg 135 [(pp b7),(pp b8),(pp b9),(pp b3),(uu n.aU.bM),(uu n.aU.bN),(uu n.aU.bJ),(uu n.aU.bF),(uu n.aU.bW),(uu n.aU.bR)]),H5,(List.flatten [H7,H8,cH])]),(show gS (cI.mk (some (fe.mk x2.aK x2.jv v4)) v1 n.aU) dg (List.flatten [(cl dg 135 [(pp b7),(pp b8),(pp b9),(pp b3),(uu n.aU.bM),(uu n.aU.bN),(uu n.aU.bJ),(uu n.aU.bF),(uu n.aU.bW),(uu n.aU.bR)]),H5,(List.flatten [H7,H8,cH])]) from⟨b3,H5,(pp b7),(pp b8),(pp b9),(List.flatten [H7,H8,cH]),s5,(show vM (some (fe.mk x2.aK x2.jv v4)) (pp b7) (pp b8) (pp b9) (List.flatten [H7,H8,cH]) from⟨b7,H7,b8,H8,b9,cH,s7,s8,cX,J,J,J,J⟩),J⟩),J,J⟩ J))
def yn.f (n:cI) (cell:Int) (cost:Int):Option (Int×cI):=dM n.core (none) (λx1=>(xK.f x1.aK cell cost).bind λv2=>some (v2.1,(cI.mk (some (fe.mk v2.2 x1.jv x1.kQ)) n.gF n.aU)))
def yn.R (tL:Nat) (r:(Int×cI)):bj:=λu G=> ∃(H0:Hp),gS r.2 tL H0/\u=(ii r.1)/\G=[H0]
theorem yn.c (H:yn.f n cell cost=some r) (iG:gS n dg iB):
 QR 120 [(pp dg),(ii cell),(ii cost)] [iB] [] F (yn.R dg r):=by
 unfold yn.f at H;refine aF Tryz.func120 J J (λW=>rc T 12 (eN J (rc T 3 ?_)));obtain⟨b3,H3,tj,Lw,Lx,H4,s3,s4,cz⟩:=(λx=>x) iG;refine bU 0 (congrArg some cz) (fz J ?_);rcases q1:n.core with _ |x1
 ·replace H:=fj q1 H
  cases H
 replace H:=fk q1 H;rw[q1] at s4;obtain⟨b6,H6,b7,H7,b8,H8,s6,s7,s8,rfl,rfl,rfl,xM⟩:=s4;refine bU 3 (congrArg some xM) (fz J (rc T 4 (lf T 1 J (ro T 2 (kr (xK.R b6) [] [3] J aco H (xK.c · s6) (λv2 H=>?_))))));rintro _ _ ⟨H9,s9,rfl,rfl⟩;refine fz J (ro T 4 ?_)
 cases H;refine gq [5,3,3] J (gq [1,1,1] J (p1 T J [1,0] ⟨(List.flatten [(cl dg 135 [(pp b6),(pp b7),(pp b8),(pp b3),(uu n.aU.bM),(uu n.aU.bN),(uu n.aU.bJ),(uu n.aU.bF),(uu n.aU.bW),(uu n.aU.bR)]),H3,(List.flatten [H9,H7,H8])]),(show gS (cI.mk (some (fe.mk v2.2 x1.jv x1.kQ)) n.gF n.aU) dg (List.flatten [(cl dg 135 [(pp b6),(pp b7),(pp b8),(pp b3),(uu n.aU.bM),(uu n.aU.bN),(uu n.aU.bJ),(uu n.aU.bF),(uu n.aU.bW),(uu n.aU.bR)]),H3,(List.flatten [H9,H7,H8])]) from⟨b3,H3,(pp b6),(pp b7),(pp b8),(List.flatten [H9,H7,H8]),s3,(show vM (some (fe.mk v2.2 x1.jv x1.kQ)) (pp b6) (pp b7) (pp b8) (List.flatten [H9,H7,H8]) from⟨b6,H9,b7,H7,b8,H8,s9,s7,s8,J,J,J,J⟩),J⟩),J,J⟩ J))
def zV.f (n:cI):Option (Int×Int):=dM n.core (none) (λx1=>(iQ.f x1.aK).bind λv2=>some (v2.1,v2.2))
theorem zV.c (H:zV.f n=some r) (iG:gS n dg iB):
 QU 164 [(pp dg)] [iB] F (.tuple #[(ii r.1),(ii r.2)]):=by
 unfold zV.f at H;refine aF Tryz.func164 J J (λW=>rc T 13 (eN J (rc T 3 ?_)));obtain⟨b3,H3,tj,Lw,Lx,H4,s3,s4,cz⟩:=(λx=>x) iG;refine bU 0 (congrArg some cz) (fz J ?_);rcases q1:n.core with _ |x1
 ·replace H:=fj q1 H
  cases H
 replace H:=fk q1 H;rw[q1] at s4;obtain⟨b6,H6,b7,H7,b8,H8,s6,s7,s8,rfl,rfl,rfl,xM⟩:=s4;refine bU 3 (congrArg some xM) (fz J (rc T 4 (lf T 1 J (k [3] J vc H (iQ.c · s6) (λv2 H=>ro T 7 ?_)))))
 cases H;refine cq [3,3,3] J xM (cq [1,1,1] J cz (p0 T J [1,0] J))
def rF.f (n:cI) (goal:Int) (bB:Int):Option (eJ×Er×cI):=(dM n.core (some true) (λx3=>some false)).bind λx1=>if x1=true then((some (Er.wrap 222 [goal] (Er.dR 2))).bind λx4=>some ((eJ.mk [] []),x4,n)) else(dM n.core (none) (λx6=>(mg.f x6.aK bB).bind λv7=>(jf.f x6.aK goal).bind λv8=>if((v8==0)||(!v7.2))=true then((some (Er.wrap 222 [goal] (Er.dR 3))).bind λx9=>some ((eJ.mk [] []),x9,n)) else((yG.f x6.kQ goal x6.jv x6.aK).bind λv11=>dM v11.1 ((Bg.f x6.aK bB).bind λv12=>((qv.f x6.aK bB).bind λfW=>(mT.f n.gF goal bB fW v7.1 v12).bind λoD=>some (oD.1.cN,oD.1.cx,oD.2.1,oD.2.2)).bind λ(aP,bh,cn,dt)=>if(cn !=0)=true then((some (Er.wrap 222 [goal] (Er.dR 4))).bind λdL=>some ((eJ.mk [] []),dL,(cI.mk (some (fe.mk x6.aK v11.2.2 v11.2.1)) dt n.aU))) else(some ((eJ.mk aP bh),Er.nil,(cI.mk (some (fe.mk x6.aK v11.2.2 v11.2.1)) dt n.aU)))) (λAD=>(iS.f x6.aK AD bB).bind λv25=>((qv.f x6.aK bB).bind λv31=>(mT.f n.gF goal bB v31 v7.1 v25).bind λv32=>some (v32.1.cN,v32.1.cx,v32.2.1,v32.2.2)).bind λ(km,mw,nD,jj)=>if(nD !=0)=true then((some (Er.wrap 222 [goal] (Er.dR 4))).bind λxj=>some ((eJ.mk [] []),xj,(cI.mk (some (fe.mk x6.aK v11.2.2 v11.2.1)) jj n.aU))) else(some ((eJ.mk km mw),Er.nil,(cI.mk (some (fe.mk x6.aK v11.2.2 v11.2.1)) jj n.aU)))))))
def rF.R (el:Nat->Addr) (tL:Nat) (r:(eJ×Er×cI)):bj:=λu G=> ∃(a0 n0 H0:_) (a1 n1 H1:_) (v2:Value) (H2:Hp) (H3:Hp),aj (Fl.int .i64) 3 r.1.cN a0 n0 H0/\aj (Fl.int .i64) 3 r.1.cx a1 n1 H1/\gr 414 el r.2.1 v2 H2/\gS r.2.2 tL H3/\u=(.tuple #[(.agg #[(ll a0 r.1.cN n0),(ll a1 r.1.cx n1)]),v2])/\G=[H0,H1,H2,H3]
theorem rF.c (H:rF.f n goal bB=some r) (hG:fP 414 fc gW el F) (iG:gS n dg iB):
 QR 100 [(pp dg),(ii goal),(ii bB)] [iB] [] F (rF.R el dg r):=by
 unfold rF.f at H;refine aF Tryz.func100 J J (λW=>rc T 2 (nc T J (λb2=>fz J (ro T 4 (mq H [0,1,2,6] [1,0,0] (λz2 (x1:Bool)=>(x1=z2,[(21,(bb x1))],[])) J J (λz2 Z1 _=>?_) ?_)))))
 ·obtain⟨b4,H4,tk,Fe,Ff,H5,s4,s5,dx⟩:=(λx=>x) iG;refine bU 0 (congrArg some dx) (fz J ?_);rcases q2:n.core with _ |x3
  ·replace Z1:=fj q2 Z1;rw[q2] at s5;obtain⟨rfl,rfl,rfl,rfl⟩:=s5;refine rc T 7 (lf T 2 J (ro T 4 (cq [2,2,2] J dx (am _ [0,1,0] (oi Z1) J J))))
  replace Z1:=fk q2 Z1;rw[q2] at s5;obtain⟨b7,H7,b8,H8,b9,H9,s7,s8,s9,rfl,rfl,rfl,oV⟩:=s5;refine bU 4 (congrArg some oV) (fz J (rc T 7 (lf T 2 J (ro T 4 (cq [4,4,4] J oV (cq [2,2,2] J dx (am _ [0,1,0] (oi Z1) J J)))))))
 rintro _ x1 rfl H;refine cb J H (λH=>?_) (λH=>?_)
 ·refine mq H [6] [0,1,0] (λz5 (⟨x4,Lu,bT⟩:Er×Value×Hp)=>(x4=z5/\gr 414 el x4 Lu bT,[(7,Lu)],[bT])) J J (λz5 Z4 _=>?_) ?_
  ·refine fz J (rz [] mix (bH bG) (λhg pf=>ha T 6 [0,1] sz hg pf J (av 2 sz hg pf J (cw T J J J J (sK (j:=0) J hG (g:=2) (by decide))) (ha T 4 [3] sz hg pf J (gK 4 6 ?_ ?_)))))
   ·refine nw T J (λiN=>fz J (an (so [0,0,0]) (gK 5 6 ?_ ?_)))
    ·refine aq J (gq [3,3] J (lT J (iw T J J J J) (an (so [0,0,0]) (ao 6 (jh T 2 J (an (so [0,0,0]) (ha T 0 [7] (so [0,0,0]) hg pf J (ae (rx T 1 (am (_,_,_) [0,1,0,0] ⟨oi Z4,(qo oR)⟩ J J))))))))))
    refine jh T 2 J (an (so [0,0,0]) (ao 5 (aq J (gq [3,3] J (lT J (iw T J J J J) (an (so [0,0,0]) (ha T 0 [7] (so [0,0,0]) hg pf J (ae (rx T 1 (am (_,_,_) [0,1,0,0] ⟨oi Z4,(qo oR)⟩ J J))))))))))
   refine jh T 2 J (an sz (ao 4 (nw T J (λri=>fz J (an (so [0,0,0]) (ao 5 (aq J (gq [3,3] J (lT J (iw T J J J J) (an (so [0,0,0]) (ha T 0 [7] (so [0,0,0]) hg pf J (ae (rx T 1 (am (_,_,_) [0,1,0,0] ⟨oi Z4,(qo oR)⟩ J J))))))))))))))
  rintro _ ⟨x4,Lu,bT⟩ ⟨rfl,bL⟩ H;refine rc T 2 ?_
  cases H;refine aq J (aq J (pb T J (.cS (j:=1) [nl,nl] J J J J J J J (.tmp J .nil)) [4,4,3,2,0] ⟨(_,_),none,0,[],none,0,[],Lu,bT,iB,aj.nil,aj.nil,bL,iG,J,J⟩ J J))
 refine rc T 3 ?_;obtain⟨ly,mz,ajO,ajP,ajQ,jC,iz,gD,Sp⟩:=(λx=>x) iG;refine bU 1 (congrArg some Sp) (fz J ?_);rcases q5:n.core with _ |x6
 ·replace H:=fj q5 H
  cases H
 replace H:=fk q5 H;rw[q5] at gD;obtain⟨lz,ir,lA,po,mc,Fq,jQ,ot,wV,rfl,rfl,rfl,Sv⟩:=gD;refine bU 4 (congrArg some Sv) (fz J (rc T 4 (lf T 2 J (ro T 1 (kr mg.R [4] [4] J SM H (mg.c · jQ) (λv7 H=>?_))))));rintro _ _ ⟨a28,n28,vH,kB,rfl,rfl⟩;refine fz J (ro T 3 (nc T J (λAU=>fz J (jS T 8 J (ro T 9 (lf T 2 J (ro T 1 (k [7] J wm H (jf.c · jQ) (λv8 H=>ro T 2 (go T [8,9,10] 44 [0,1,2,6,8] 47 J J J J J J J (ro T 2 (cb J H (λH=>?_) (λH=>?_)))))))))))))
 ·refine mq H [6] [0,0,0,4,1,1,0] (λmy (⟨x9,Ly,rZ⟩:Er×Value×Hp)=>(x9=my/\gr 414 el x9 Ly rZ,[(7,Ly)],[rZ])) J J (λmy Z9 _=>?_) ?_
  ·refine ke [1,6] [0,0,0,0,0,0,1] J J (fz J (rz [] mix (bH bG) (λhg pf=>ha T 6 [0,1] sz hg pf J (av 2 sz hg pf J (cw T J J J J (sK (j:=0) J hG (g:=3) (by decide))) (ha T 4 [3] sz hg pf J (gK 4 6 ?_ ?_))))))
   ·refine nw T J (λZX=>fz J (an (so [0,0,0,0,0,0,0]) (gK 5 6 ?_ ?_)))
    ·refine aq J (gq [7,7] J (lT J (iw T J J J J) (an (so [0,0,0,0,0,0,0]) (ao 6 (jh T 1 J (an (so [0,0,0,0,0,0,0]) (ha T 0 [7] (so [0,0,0,0,0,0,0]) hg pf J (ae (rx T 1 (am (_,_,_) [0,0,0,3,1,1,0,0] ⟨oi Z9,(qo oR)⟩ J J))))))))))
    refine jh T 1 J (an (so [0,0,0,0,0,0,0]) (ao 5 (aq J (gq [7,7] J (lT J (iw T J J J J) (an (so [0,0,0,0,0,0,0]) (ha T 0 [7] (so [0,0,0,0,0,0,0]) hg pf J (ae (rx T 1 (am (_,_,_) [0,0,0,3,1,1,0,0] ⟨oi Z9,(qo oR)⟩ J J))))))))))
   refine jh T 1 J (an sz (ao 4 (nw T J (λb36=>fz J (an (so [0,0,0,0,0,0,0]) (ao 5 (aq J (gq [7,7] J (lT J (iw T J J J J) (an (so [0,0,0,0,0,0,0]) (ha T 0 [7] (so [0,0,0,0,0,0,0]) hg pf J (ae (rx T 1 (am (_,_,_) [0,0,0,3,1,1,0,0] ⟨oi Z9,(qo oR)⟩ J J))))))))))))))
  rintro _ ⟨x9,Ly,rZ⟩ ⟨rfl,pW⟩ H;refine rc T 2 ?_
  cases H;refine cq [3,3,3] J Sv (cq [2,2,3] J Sp (aq J (aq J (pb T J (.cS (j:=1) [nl,nl] J J J J J J J (.tmp J .nil)) [4,4,2,2,0] ⟨(_,_),none,0,[],none,0,[],Ly,rZ,iB,aj.nil,aj.nil,pW,iG,J,J⟩ J J))))
 refine rc T 3 (ks [0,1,2,6,8] J (fz J (rq [] [0,0,0,0,2,2,2] J mix (bH bG) (λhg pf=>ha T 10 [0,1,2] (so [0,0,0,0,2,2,2]) hg pf J (al T 3 2 (so [0,0,0,0,2,2,2]) hg pf J J J (ha T 6 [4,5,6] (so [0,0,0,0,2,2,2]) hg pf J (al T 7 2 (so [0,0,0,0,2,2,2]) hg pf J J J (ha T 3 [8,10] (so [0,0,0,0,2,2,2]) hg pf J (ao 9 (kR (yG.R mc lA lz lA lz) [7] [5,4,5] J aci H (yG.c · wV ot jQ) (λv11 H=>?_)))))))))));rintro _ _ ⟨ajM,lQ,gR,IW,uo,rfl,rfl⟩;refine fz J ?_;rcases Kt:v11.1 with _ |AD
 ·replace H:=fj Kt H;rw[Kt] at IW;obtain⟨rfl,Dq⟩:=IW;refine an (so [0,0,0,0,0,3,0]) (ao 11 (kR Bg.R [8] [8] J SN H (Bg.c · jQ) (λv12 H=>?_)));rintro _ _ ⟨a54,n54,H54,EU,rfl,rfl⟩;refine fz J (an (so [0,0,0,0,0,4,0]) (ha T 0 [12] (so [0,0,0,0,0,4,0]) hg pf J (ae (rx T 1 (mq H [1,6] [0,0,0,6,4,3] (λz17 (⟨aP,bh,cn,dt,Mj,FF,Hu,IL,FG,n57,IM,zd⟩:List Int×List Int×Int×ji×Nat×Option Addr×Nat×Hp×Option Addr×Nat×Hp×Hp)=>((aP,bh,cn,dt)=z17/\aj (Fl.int .i64) 3 aP FF Hu IL/\aj (Fl.int .i64) 3 bh FG n57 IM/\sb dt ly zd,[(11,(pp Mj)),(12,(ii cn))],[(cl Mj 79 [(ll FF aP Hu),(ll FG bh n57)]),IL,IM,zd])) J J (λz17 bY _=>?_) ?_)))))
  ·refine ks [0,1,2,6,8,10] J (fz J (rz [14] mix (bH bG) (λhg pf=>ha T 18 [0,1,2] sz hg pf J (al T 3 2 sz hg pf J J J (ha T 12 [4,5,6,7,8] sz hg pf J (al T 9 2 sz hg pf J J J (ha T 10 [10] sz hg pf J (av 12 sz hg pf J (gA T 5 J J J J J J J) (ha T 8 [13] sz hg pf J (gK 11 18 ?_ ?_))))))))))
   ·refine kh [9] J Cv bY (qv.c · jQ) (λfW bY=>an sz (gK 14 18 ?_ ?_))
    ·refine kR (mT.R ly) [] [3] J Ej bY (mT.c · iz (oO kB 3) kB.bZ (oO EU 7) EU.bZ) (λoD bY=>?_);rintro _ _ ⟨a59,n59,H59,a60,n60,H60,H61,s59,s60,s61,rfl,rfl⟩;refine fz J (an sl (hb T 15 sl hg pf J (hb T 16 sl hg pf J (hb T 17 sl hg pf J (ao 18 (nw T J (λb62=>fz J (an sl (ao 19 (jh T 12 J (an sl (hb T 20 sl hg pf J (ae (rx T 1 (am (_,_,_,_,_,_,_,_,_,_,_,_) [0,0,0,5,3,2,6,3,3,3] ⟨oi bY,s59,s60,s61⟩ J J)))))))))))))))
    refine nw T J (λb63=>fz J (an (so [0,0,0,0,0,0,0,0,0,0]) (ao 14 (kR (mT.R ly) [] [3] J Ej bY (mT.c · iz (oO kB 3) kB.bZ (oO EU 7) EU.bZ) (λv20 bY=>?_)))));rintro _ _ ⟨a64,n64,H64,a65,n65,H65,H66,s64,s65,s66,rfl,rfl⟩;refine fz J (an sl (hb T 15 sl hg pf J (hb T 16 sl hg pf J (hb T 17 sl hg pf J (ao 19 (jh T 9 J (an sl (hb T 20 sl hg pf J (ae (rx T 1 (am (_,_,_,_,_,_,_,_,_,_,_,_) [0,0,0,5,3,2,3,3,3,3] ⟨oi bY,s64,s65,s66⟩ J J)))))))))))
   refine nw T J (λb67=>fz J (an (so [0,0,0,0,0,0,0,0,0,0]) (ao 11 (kh [9] J Cv bY (qv.c · jQ) (λv21 bY=>an (so [0,0,0,0,0,0,0,0,0,0]) (ao 14 (kR (mT.R ly) [] [3] J Ej bY (mT.c · iz (oO kB 3) kB.bZ (oO EU 7) EU.bZ) (λv22 bY=>?_))))))));rintro _ _ ⟨a68,n68,H68,a69,n69,H69,H70,s68,s69,s70,rfl,rfl⟩;refine fz J (an sl (hb T 15 sl hg pf J (hb T 16 sl hg pf J (hb T 17 sl hg pf J (ao 19 (jh T 9 J (an sl (hb T 20 sl hg pf J (ae (rx T 1 (am (_,_,_,_,_,_,_,_,_,_,_,_) [0,0,0,5,3,2,3,3,3,3] ⟨oi bY,s68,s69,s70⟩ J J)))))))))))
  rintro _ ⟨aP,bh,cn,dt,Mj,FF,Hu,IL,FG,n57,IM,zd⟩ ⟨rfl,s56,s57,WS⟩ H;refine rc T 7 (cb J H (λH=>?_) (λH=>?_))
  ·refine mq H [6] [0,0,0,0,0,0,3] (λz24 (⟨dL,LA,IP⟩:Er×Value×Hp)=>(dL=z24/\gr 414 el dL LA IP,[(7,LA)],[IP])) J J (λz24 tD _=>?_) ?_
   ·refine fz J (rz [] mix (bH bG) (λhg pf=>ha T 6 [0,1] sz hg pf J (av 2 sz hg pf J (cw T J J J J (sK (j:=0) J hG (g:=4) (by decide))) (ha T 4 [3] sz hg pf J (gK 4 6 ?_ ?_)))))
    ·refine nw T J (λb72=>fz J (an (so [0,0,0,0,0,0,0,0,0,0]) (gK 5 6 ?_ ?_)))
     ·refine aq J (gq [10,10] J (lT J (iw T J J J J) (an (so [0,0,0,0,0,0,0,0,0,0]) (ao 6 (jh T 1 J (an (so [0,0,0,0,0,0,0,0,0,0]) (ha T 0 [7] (so [0,0,0,0,0,0,0,0,0,0]) hg pf J (ae (rx T 1 (am (_,_,_) [0,0,0,0,0,0,3,3] ⟨oi tD,(qo oR)⟩ J J))))))))))
     refine jh T 1 J (an (so [0,0,0,0,0,0,0,0,0,0]) (ao 5 (aq J (gq [10,10] J (lT J (iw T J J J J) (an (so [0,0,0,0,0,0,0,0,0,0]) (ha T 0 [7] (so [0,0,0,0,0,0,0,0,0,0]) hg pf J (ae (rx T 1 (am (_,_,_) [0,0,0,0,0,0,3,3] ⟨oi tD,(qo oR)⟩ J J))))))))))
    refine jh T 1 J (an sz (ao 4 (nw T J (λb77=>fz J (an (so [0,0,0,0,0,0,0,0,0,0]) (ao 5 (aq J (gq [10,10] J (lT J (iw T J J J J) (an (so [0,0,0,0,0,0,0,0,0,0]) (ha T 0 [7] (so [0,0,0,0,0,0,0,0,0,0]) hg pf J (ae (rx T 1 (am (_,_,_) [0,0,0,0,0,0,3,3] ⟨oi tD,(qo oR)⟩ J J))))))))))))))
   rintro _ ⟨dL,LA,IP⟩ ⟨rfl,s71⟩ H;refine rc T 2 ?_
   cases H;refine gq [3,3,3] J (gq [2,2,3] J (aq J (aq J (pb T J (.cS (j:=1) [nl,nl] J J J J J J J (.tmp J .nil)) [4,4,2,2,0] ⟨(_,_),none,0,[],none,0,[],LA,IP,(List.flatten [(cl dg 135 [(pp lz),(pp lA),(pp mc),(pp ly),(uu n.aU.bM),(uu n.aU.bN),(uu n.aU.bJ),(uu n.aU.bF),(uu n.aU.bW),(uu n.aU.bR)]),zd,(List.flatten [ir,gR,lQ])]),aj.nil,aj.nil,s71,(show gS (cI.mk (some (fe.mk x6.aK v11.2.2 v11.2.1)) dt n.aU) dg (List.flatten [(cl dg 135 [(pp lz),(pp lA),(pp mc),(pp ly),(uu n.aU.bM),(uu n.aU.bN),(uu n.aU.bJ),(uu n.aU.bF),(uu n.aU.bW),(uu n.aU.bR)]),zd,(List.flatten [ir,gR,lQ])]) from⟨ly,zd,(pp lz),(pp lA),(pp mc),(List.flatten [ir,gR,lQ]),WS,(show vM (some (fe.mk x6.aK v11.2.2 v11.2.1)) (pp lz) (pp lA) (pp mc) (List.flatten [ir,gR,lQ]) from⟨lz,ir,lA,gR,mc,lQ,jQ,uo,Dq,J,J,J,J⟩),J⟩),J,J⟩ J J))))
  refine rc T 4 (lm T 6 J (jS T 1 J (ro T 4 ?_)))
  cases H;refine gq [3,3,3] J (gq [2,5,5] J (aq J (pb T J (.cS (j:=1) [(ll FF aP Hu),(ll FG bh n57)] J J J J J J J (.tmp J .nil)) [3,3,4,3,0] ⟨(_,_),FF,Hu,IL,FG,n57,IM,.nilIface,[],(List.flatten [(cl dg 135 [(pp lz),(pp lA),(pp mc),(pp ly),(uu n.aU.bM),(uu n.aU.bN),(uu n.aU.bJ),(uu n.aU.bF),(uu n.aU.bW),(uu n.aU.bR)]),zd,(List.flatten [ir,gR,lQ])]),s56,s57,u9,(show gS (cI.mk (some (fe.mk x6.aK v11.2.2 v11.2.1)) dt n.aU) dg (List.flatten [(cl dg 135 [(pp lz),(pp lA),(pp mc),(pp ly),(uu n.aU.bM),(uu n.aU.bN),(uu n.aU.bJ),(uu n.aU.bF),(uu n.aU.bW),(uu n.aU.bR)]),zd,(List.flatten [ir,gR,lQ])]) from⟨ly,zd,(pp lz),(pp lA),(pp mc),(List.flatten [ir,gR,lQ]),WS,(show vM (some (fe.mk x6.aK v11.2.2 v11.2.1)) (pp lz) (pp lA) (pp mc) (List.flatten [ir,gR,lQ]) from⟨lz,ir,lA,gR,mc,lQ,jQ,uo,Dq,J,J,J,J⟩),J⟩),J,J⟩ J J)))
 replace H:=fk Kt H;rw[Kt] at IW;obtain⟨wL,Q3,LW,n52,LN,ET,rfl,Sr⟩:=IW;have WR:uP v11.2.1 mc lA lz lQ:=⟨(pp Q3),_,(by rw[wL];exact⟨Q3,LW,n52,LN,ET,J,J⟩),Sr⟩
 obtain⟨XT,M8,M5⟩:=ae1 Sr;refine bU 6 (congrArg some M5) (fz J (bU 9 (congrArg some M8) (fz J (an (so [0,0,0,0,0,2,0]) (ao 11 (kR iS.R [7,8,8] [7,8,8] J SN H (iS.c · jQ ET) (λv25 H=>?_)))))));rintro _ _ ⟨a85,n85,H85,EW,rfl,rfl⟩;refine fz J (an (so [0,0,0,0,0,4,0]) (ha T 0 [12] (so [0,0,0,0,0,4,0]) hg pf J (ae (rx T 1 (mq H [1,6] [0,0,0,6,3,3,4,4] (λXO (⟨km,mw,nD,jj,Ml,a87,Hv,IQ,FH,Hw,IU,ze⟩:List Int×List Int×Int×ji×Nat×Option Addr×Nat×Hp×Option Addr×Nat×Hp×Hp)=>((km,mw,nD,jj)=XO/\aj (Fl.int .i64) 3 km a87 Hv IQ/\aj (Fl.int .i64) 3 mw FH Hw IU/\sb jj ly ze,[(11,(pp Ml)),(12,(ii nD))],[(cl Ml 79 [(ll a87 km Hv),(ll FH mw Hw)]),IQ,IU,ze])) J J (λXO tF _=>?_) ?_)))))
 ·refine ks [0,1,2,6,8,10] J (fz J (rz [14] mix (bH bG) (λhg pf=>ha T 18 [0,1,2] sz hg pf J (al T 3 2 sz hg pf J J J (ha T 12 [4,5,6,7,8] sz hg pf J (al T 9 2 sz hg pf J J J (ha T 10 [10] sz hg pf J (av 12 sz hg pf J (gA T 5 J J J J J J J) (ha T 8 [13] sz hg pf J (gK 11 18 ?_ ?_))))))))))
  ·refine kh [9] J Cv tF (qv.c · jQ) (λv31 tF=>an sz (gK 14 18 ?_ ?_))
   ·refine kR (mT.R ly) [] [3] J Ej tF (mT.c · iz (oO kB 3) kB.bZ (oO EW 7) EW.bZ) (λv32 tF=>?_);rintro _ _ ⟨a90,n90,H90,a91,n91,H91,H92,s90,s91,s92,rfl,rfl⟩;refine fz J (an sl (hb T 15 sl hg pf J (hb T 16 sl hg pf J (hb T 17 sl hg pf J (ao 18 (nw T J (λb93=>fz J (an sl (ao 19 (jh T 14 J (an sl (hb T 20 sl hg pf J (ae (rx T 1 (am (_,_,_,_,_,_,_,_,_,_,_,_) [0,0,0,5,2,2,3,3,6,3,3,3] ⟨oi tF,s90,s91,s92⟩ J J)))))))))))))))
   refine nw T J (λb94=>fz J (an (so [0,0,0,0,0,0,0,0,0,0,0,0]) (ao 14 (kR (mT.R ly) [] [3] J Ej tF (mT.c · iz (oO kB 3) kB.bZ (oO EW 7) EW.bZ) (λv33 tF=>?_)))));rintro _ _ ⟨a95,n95,H95,a96,n96,H96,H97,s95,s96,s97,rfl,rfl⟩;refine fz J (an sl (hb T 15 sl hg pf J (hb T 16 sl hg pf J (hb T 17 sl hg pf J (ao 19 (jh T 11 J (an sl (hb T 20 sl hg pf J (ae (rx T 1 (am (_,_,_,_,_,_,_,_,_,_,_,_) [0,0,0,5,2,2,3,3,3,3,3,3] ⟨oi tF,s95,s96,s97⟩ J J)))))))))))
  refine nw T J (λb98=>fz J (an (so [0,0,0,0,0,0,0,0,0,0,0,0]) (ao 11 (kh [9] J Cv tF (qv.c · jQ) (λP2 tF=>an (so [0,0,0,0,0,0,0,0,0,0,0,0]) (ao 14 (kR (mT.R ly) [] [3] J Ej tF (mT.c · iz (oO kB 3) kB.bZ (oO EW 7) EW.bZ) (λv35 tF=>?_))))))));rintro _ _ ⟨a99,n99,H99,ajp,n100,ajl,ajm,s99,ahG,ahH,rfl,rfl⟩;refine fz J (an sl (hb T 15 sl hg pf J (hb T 16 sl hg pf J (hb T 17 sl hg pf J (ao 19 (jh T 11 J (an sl (hb T 20 sl hg pf J (ae (rx T 1 (am (_,_,_,_,_,_,_,_,_,_,_,_) [0,0,0,5,2,2,3,3,3,3,3,3] ⟨oi tF,s99,ahG,ahH⟩ J J)))))))))))
 rintro _ ⟨km,mw,nD,jj,Ml,a87,Hv,IQ,FH,Hw,IU,ze⟩ ⟨rfl,s87,s88,WT⟩ H;refine rc T 7 (cb J H (λH=>?_) (λH=>?_))
 ·refine mq H [6] [0,0,0,0,0,0,0,0,3] (λz37 (⟨xj,Lt,IH⟩:Er×Value×Hp)=>(xj=z37/\gr 414 el xj Lt IH,[(7,Lt)],[IH])) J J (λz37 LV _=>?_) ?_
  ·refine fz J (rz [] mix (bH bG) (λhg pf=>ha T 6 [0,1] sz hg pf J (av 2 sz hg pf J (cw T J J J J (sK (j:=0) J hG (g:=4) (by decide))) (ha T 4 [3] sz hg pf J (gK 4 6 ?_ ?_)))))
   ·refine nw T J (λajq=>fz J (an (so [0,0,0,0,0,0,0,0,0,0,0,0]) (gK 5 6 ?_ ?_)))
    ·refine aq J (gq [12,12] J (lT J (iw T J J J J) (an (so [0,0,0,0,0,0,0,0,0,0,0,0]) (ao 6 (jh T 1 J (an (so [0,0,0,0,0,0,0,0,0,0,0,0]) (ha T 0 [7] (so [0,0,0,0,0,0,0,0,0,0,0,0]) hg pf J (ae (rx T 1 (am (_,_,_) [0,0,0,0,0,0,0,0,3,3] ⟨oi LV,(qo oR)⟩ J J))))))))))
    refine jh T 1 J (an (so [0,0,0,0,0,0,0,0,0,0,0,0]) (ao 5 (aq J (gq [12,12] J (lT J (iw T J J J J) (an (so [0,0,0,0,0,0,0,0,0,0,0,0]) (ha T 0 [7] (so [0,0,0,0,0,0,0,0,0,0,0,0]) hg pf J (ae (rx T 1 (am (_,_,_) [0,0,0,0,0,0,0,0,3,3] ⟨oi LV,(qo oR)⟩ J J))))))))))
   refine jh T 1 J (an sz (ao 4 (nw T J (λajr=>fz J (an (so [0,0,0,0,0,0,0,0,0,0,0,0]) (ao 5 (aq J (gq [12,12] J (lT J (iw T J J J J) (an (so [0,0,0,0,0,0,0,0,0,0,0,0]) (ha T 0 [7] (so [0,0,0,0,0,0,0,0,0,0,0,0]) hg pf J (ae (rx T 1 (am (_,_,_) [0,0,0,0,0,0,0,0,3,3] ⟨oi LV,(qo oR)⟩ J J))))))))))))))
  rintro _ ⟨xj,Lt,IH⟩ ⟨rfl,ahI⟩ H;refine rc T 2 ?_
  cases H;refine cq [6,6] J M8 (cq [5,7] J M5 (gq [3,3,5] J (gq [2,2,3] J (aq J (aq J (pb T J (.cS (j:=1) [nl,nl] J J J J J J J (.tmp J .nil)) [4,4,2,2,0] ⟨(_,_),none,0,[],none,0,[],Lt,IH,(List.flatten [(cl dg 135 [(pp lz),(pp lA),(pp mc),(pp ly),(uu n.aU.bM),(uu n.aU.bN),(uu n.aU.bJ),(uu n.aU.bF),(uu n.aU.bW),(uu n.aU.bR)]),ze,(List.flatten [ir,gR,lQ])]),aj.nil,aj.nil,ahI,(show gS (cI.mk (some (fe.mk x6.aK v11.2.2 v11.2.1)) jj n.aU) dg (List.flatten [(cl dg 135 [(pp lz),(pp lA),(pp mc),(pp ly),(uu n.aU.bM),(uu n.aU.bN),(uu n.aU.bJ),(uu n.aU.bF),(uu n.aU.bW),(uu n.aU.bR)]),ze,(List.flatten [ir,gR,lQ])]) from⟨ly,ze,(pp lz),(pp lA),(pp mc),(List.flatten [ir,gR,lQ]),WT,(show vM (some (fe.mk x6.aK v11.2.2 v11.2.1)) (pp lz) (pp lA) (pp mc) (List.flatten [ir,gR,lQ]) from⟨lz,ir,lA,gR,mc,lQ,jQ,uo,WR,J,J,J,J⟩),J⟩),J,J⟩ J J))))))
 refine rc T 4 (lm T 8 J (jS T 1 J (ro T 4 ?_)))
 cases H;refine cq [6,6] J M8 (cq [5,9] J M5 (gq [3,3,7] J (gq [2,5,5] J (aq J (pb T J (.cS (j:=1) [(ll a87 km Hv),(ll FH mw Hw)] J J J J J J J (.tmp J .nil)) [3,3,4,3,0] ⟨(_,_),a87,Hv,IQ,FH,Hw,IU,.nilIface,[],(List.flatten [(cl dg 135 [(pp lz),(pp lA),(pp mc),(pp ly),(uu n.aU.bM),(uu n.aU.bN),(uu n.aU.bJ),(uu n.aU.bF),(uu n.aU.bW),(uu n.aU.bR)]),ze,(List.flatten [ir,gR,lQ])]),s87,s88,u9,(show gS (cI.mk (some (fe.mk x6.aK v11.2.2 v11.2.1)) jj n.aU) dg (List.flatten [(cl dg 135 [(pp lz),(pp lA),(pp mc),(pp ly),(uu n.aU.bM),(uu n.aU.bN),(uu n.aU.bJ),(uu n.aU.bF),(uu n.aU.bW),(uu n.aU.bR)]),ze,(List.flatten [ir,gR,lQ])]) from⟨ly,ze,(pp lz),(pp lA),(pp mc),(List.flatten [ir,gR,lQ]),WT,(show vM (some (fe.mk x6.aK v11.2.2 v11.2.1)) (pp lz) (pp lA) (pp mc) (List.flatten [ir,gR,lQ]) from⟨lz,ir,lA,gR,mc,lQ,jQ,uo,WR,J,J,J,J⟩),J⟩),J,J⟩ J J)))))
def zX.f (n:cI) (goal:Int) (cell:Int):Option (Int×Int×Er×cI):=(zV.f n).bind λv1=>(gG.f v1.1 v1.2 cell).bind λv2=>(rF.f n goal v2).bind λv3=>if(!(Er.isNil v3.2.1))=true then(some (0,0,v3.2.1,v3.2.2)) else((rR.f v1.1 v1.2 cell).bind λv4=>if(0<=v4/\v4<(aa v3.1.cN:Int)) then(if(0<=v4/\v4<(aa v3.1.cx:Int)) then(some ((rd v3.1.cN v4),(rd v3.1.cx v4),Er.nil,v3.2.2)) else none) else none)
def zX.R (el:Nat->Addr) (tL:Nat) (r:(Int×Int×Er×cI)):bj:=λu G=> ∃(v0:Value) (H0:Hp) (H1:Hp),gr 414 el r.2.2.1 v0 H0/\gS r.2.2.2 tL H1/\u=(.tuple #[(ii r.1),(ii r.2.1),v0])/\G=[H0,H1]
theorem zX.c (H:zX.f n goal cell=some r) (hG:fP 414 fc gW el F) (iG:gS n dg iB):
 QR 163 [(pp dg),(ii goal),(ii cell)] [iB] [] F (zX.R el dg r):=by
 unfold zX.f at H;refine aF Tryz.func163 J J (λW=>rc T 10 (k [0] J S0 H (zV.c · iG) (λv1 H=>ro T 14 (k [] J sF H (gG.c ·) (λv2 H=>kr (rF.R el dg) [] [0] J SE H (rF.c · (dF hG (j:=0) J) iG) (λv3 H=>?_))))));rintro _ _ ⟨a2,n2,H2,a3,n3,H3,v4,H4,H5,s2,s3,s4,s5,rfl,rfl⟩;refine fz J (ro T 3 (nc T J (λb6=>fz J (jS T 5 J (ro T 7 (bA J (Eb T J J J (sB s4 (j:=3) J)) (ro T 2 (cb J H (λH=>?_) (λH=>?_)))))))))
 ·refine rc T 10 ?_
  cases H;exact p1 T J [3,3,0] ⟨v4,H4,H5,s4,s5,J,J⟩ J
 refine rc T 7 (k [] J Gv H (rR.c ·) (λv4 H=>ro T 4 (dw mix aB (au T J (cD T 5 J J J (au T J ?_))))));obtain⟨c6,H⟩:=az H;obtain⟨q7,o7,e7⟩:=s2.r.addr c6.1 c6.2;refine bf J J J (cu T J J J J J e7 c6.1 c6.2) (bf J J J (cw T J J J J (eH (k:=(Fl.int .i64)) (oO s2 1) e7 c6 0 J)) (au T J (cD T 5 J J J (au T J ?_))));obtain⟨c7,H⟩:=az H;obtain⟨q8,o8,e8⟩:=s3.r.addr c7.1 c7.2;refine bf J J J (cu T J J J J J e8 c7.1 c7.2) (bf J J J (cw T J J J J (eH (k:=(Fl.int .i64)) (oO s3 2) e8 c7 0 J)) (au T J (au T J (au T J (cO (rx T 2 ?_))))))
 cases H;refine aq J (p1 T J [6,4,0] ⟨.nilIface,[],H5,u9,s5,J,J⟩ J)
def zY.f (err:Er):Option Int:=if(Er.isNil err)=true then(some 0) else((v_.f err (Er.dR 2)).bind λv1=>if v1=true then(some 4) else((v_.f err (Er.dR 3)).bind λv2=>if v2=true then(some 7) else(some 1)))
theorem zY.c (H:zY.f err=some r) (hG:fP 414 fc gW el F) (Ea:l9 414 el err P3 F):
 QU 101 [P3] [] F (ii r):=by
 unfold zY.f at H;refine aF Tryz.func101 J J (λW=>rc T 10 (bA J (JB T J J J (Gb Ea (j:=0) J)) (ro T 3 (cb J H (λH=>?_) (λH=>?_)))))
 ·refine rc T 8 ?_
  cases H;exact p0 T J [0] J
 refine rc T 3 (lg T J (sK (j:=0) J hG (g:=2) (by decide)) (k [] J J1 H (v_.c err (Er.dR 2) _ _ · (dF hG (j:=0) J) (Gb Ea (j:=0) J) Js) (λv1 H=>ro T 3 (cb J H (λH=>?_) (λH=>?_)))))
 ·refine rc T 8 ?_
  cases H;exact p0 T J [0] J
 refine rc T 3 (lg T J (sK (j:=0) J hG (g:=3) (by decide)) (k [] J J1 H (v_.c err (Er.dR 3) _ _ · (dF hG (j:=0) J) (Gb Ea (j:=0) J) Js) (λv2 H=>ro T 3 (cb J H (λH=>?_) (λH=>?_)))))
 ·refine rc T 8 ?_
  cases H;exact p0 T J [0] J
 refine rc T 9 ?_
 cases H;exact p0 T J [0] J
def yr.f (n:cI) (goal:Int) (cell:Int):Option (Int×Int×Int×cI):=(zX.f n goal cell).bind λv1=>(zY.f v1.2.2.1).bind λv2=>some (v1.1,v1.2.1,v2,v1.2.2.2)
def yr.R (el:Nat->Addr) (tL:Nat) (r:(Int×Int×Int×cI)):bj:=λu G=> ∃(H0:Hp),gS r.2.2.2 tL H0/\u=(.tuple #[(ii r.1),(ii r.2.1),(ii r.2.2.1)])/\G=[H0]
theorem yr.c (H:yr.f n goal cell=some r) (hG:fP 414 fc gW el F) (iG:gS n dg iB):
 QR 127 [(pp dg),(ii goal),(ii cell)] [iB] [] F (yr.R el dg r):=by
 unfold yr.f at H;refine aF Tryz.func127 J J (λW=>rc T 12 (kr (zX.R el dg) [] [0] J acs H (zX.c · (dF hG (j:=0) J) iG) (λv1 H=>?_)));rintro _ _ ⟨v2,H2,H3,s2,s3,rfl,rfl⟩;refine fz J (ro T 14 (k [] J SF H (zY.c · (dF hG (j:=0) J) (sB s2 (j:=1) J)) (λv2 H=>ro T 6 ?_)))
 cases H;exact p1 T J [2,0] ⟨H3,s3,J,J⟩ J
def rE.f (n:cI) (goal:Int) (bB:Int):Option (eJ×Int×cI):=(rF.f n goal bB).bind λv1=>(zY.f v1.2.1).bind λv2=>some (v1.1,v2,v1.2.2)
def rE.R (el:Nat->Addr) (tL:Nat) (r:(eJ×Int×cI)):bj:=λu G=> ∃(a0 n0 H0:_) (a1 n1 H1:_) (H2:Hp),aj (Fl.int .i64) 3 r.1.cN a0 n0 H0/\aj (Fl.int .i64) 3 r.1.cx a1 n1 H1/\gS r.2.2 tL H2/\u=(.tuple #[(.agg #[(ll a0 r.1.cN n0),(ll a1 r.1.cx n1)]),(ii r.2.1)])/\G=[H0,H1,H2]
theorem rE.c (H:rE.f n goal bB=some r) (hG:fP 414 fc gW el F) (iG:gS n dg iB):
 QR 68 [(pp dg),(ii goal),(ii bB)] [iB] [] F (rE.R el dg r):=by
 unfold rE.f at H;refine aF Tryz.func68 J J (λW=>rc T 2 (nc T J (λb2=>fz J (ro T 8 (kr (rF.R el dg) [] [0] J SE H (rF.c · (dF hG (j:=0) J) iG) (λv1 H=>?_))))));rintro _ _ ⟨a3,n3,H3,a4,n4,H4,v5,H5,H6,s3,s4,s5,s6,rfl,rfl⟩;refine fz J (ro T 3 (nc T J (λb7=>fz J (jS T 6 J (ro T 4 (ks [6,8,9] J (fz J (rz [3] mix (bH bG) (λhg pf=>av 0 sz hg pf J (gA T 6 J J J J J J J) (ha T 3 [1] sz hg pf J (ao 2 (kh [] J SF H (zY.c · (dF hG (j:=0) J) (sB s5 (j:=4) J)) (λv2 H=>an sz (ao 3 (jh T 1 J (an sl (hb T 4 sl hg pf J (ae (rx T 2 ?_)))))))))))))))))))
 cases H;exact pb T J (.cS (j:=1) [(ll a3 v1.1.cN n3),(ll a4 v1.1.cx n4)] J J J J J J J (.tmp J .nil)) [2,2,3,0] ⟨(_,_),a3,n3,H3,a4,n4,H4,H6,s3,s4,s6,J,J⟩ J J
def C3.f (n:cI):Option g_:=(zW.f n).bind λv1=>(mX.f n.aU v1).bind λv2=>(E3.f n.gF).bind λv3=>(mX.f v2 v3).bind λv4=>some v4
theorem C3.c (H:C3.f n=some r) (iG:gS n dg iB):
 QU 52 [(pp dg)] [iB] F (.agg #[(uu r.bM),(uu r.bN),(uu r.bJ),(uu r.bF),(uu r.bW),(uu r.bR)]):=by
 unfold C3.f at H;refine aF Tryz.func52 J J (λW=>rc T 2 (nc T J (λb2=>fz J (ro T 9 (eN J (rc T 3 ?_))))));obtain⟨b4,H4,tk,Fe,Ff,H5,s4,s5,dx⟩:=(λx=>x) iG;refine bU 0 (congrArg some dx) (fz J (ks [0,2] J (fz J (rz [13] mix (bH bG) (λhg pf=>ha T 11 [0,1,2] sz hg pf J (av 3 sz hg pf J (gA T 2 J J J J J J J) (ha T 6 [4,7,8,9] sz hg pf J (al T 10 2 sz hg pf J J J (ao 5 ?_)))))))));obtain⟨v1,V1,H⟩:=gx H;refine Ja (As:=[(cl dg 135 [tk,Fe,Ff,(pp b4),(uu n.aU.bM),(uu n.aU.bN),(uu n.aU.bJ),(uu n.aU.bF),(uu n.aU.bW),(uu n.aU.bR)]),H4,H5]) [2,2,2] J J J J TD J J (Jl (A:=[iB]) (by simp only[dx,vQ,vP,vR,tv,uR]) (zW.c V1 iG)) (an sz (ao 6 (kh [] J NL H (mX.c ·) (λv2 H=>an sz (ao 11 (kh [3] J ad3 H (E3.c · s4) (λv3 H=>an sz (ao 12 (kh [] J NL H (mX.c ·) (λv4 H=>an sz (ao 13 (jh T 1 J (an sl (ae (rx T 2 ?_)))))))))))))))
 cases H;refine cq [2,2,2] J dx (pb T J (.cS (j:=1) [(uu r.bM),(uu r.bN),(uu r.bJ),(uu r.bF),(uu r.bW),(uu r.bR)] J J J J J J J .nil) [2,0] () J J)
def yu.f (n:cI):Option aG:=dM n.core ((A7.f).bind λv2=>some v2) (λx1=>(xL.f x1.aK).bind λv3=>some v3)
def yu.R (r:aG):bj:=λu G=> ∃a0 n0 H0,aj (Fl.int .u8) 5 r.C a0 n0 H0/\u=(.agg #[(ii r.W),(ii r.H),(ll a0 r.C n0)])/\G=[H0]
theorem yu.c (H:yu.f n=some r) (iG:gS n dg iB):
 QR 43 [(pp dg)] [iB] [iB] F (yu.R r):=by
 unfold yu.f at H;refine aF Tryz.func43 J J (λW=>rc T 2 (nc T J (λb2=>fz J (ro T 9 (eN J (rc T 3 ?_))))));obtain⟨b4,H4,tk,Fe,Ff,H5,s4,s5,dx⟩:=(λx=>x) iG;refine bU 0 (congrArg some dx) (fz J ?_);rcases q1:n.core with _ |x1
 ·replace H:=fj q1 H;rw[q1] at s5;obtain⟨rfl,rfl,rfl,rfl⟩:=s5;refine rc T 4 (lf T 2 J (kr A7.R [] [] J TC H (A7.c ·) (λv2 H=>?_)));rintro _ _ ⟨cC,n10,bT,bL,rfl,rfl⟩;refine fz J (jS T 1 J (ro T 3 ?_))
  cases H;refine cq [2,2,2] J dx (pb T J (.cS (j:=1) [(ii r.W),(ii r.H),(ll cC r.C n10)] J J J J J J J .nil) [2,2,0] ⟨(_,_),cC,n10,bT,bL,J,J⟩ J J)
 replace H:=fk q1 H;rw[q1] at s5;obtain⟨b7,H7,b8,H8,b9,H9,s7,s8,s9,rfl,rfl,rfl,oV⟩:=s5;refine bU 4 (congrArg some oV) (fz J (rc T 4 (lf T 2 J (kr xL.R [4] [4] J TC H (xL.c · s7) (λv3 H=>?_)))));rintro _ _ ⟨dj,n11,cH,cX,rfl,rfl⟩;refine fz J (jS T 1 J (ro T 3 ?_))
 cases H;refine cq [7,4,4] J oV (cq [2,2,3] J dx (pb T J (.cS (j:=1) [(ii r.W),(ii r.H),(ll dj r.C n11)] J J J J J J J .nil) [2,2,0] ⟨(_,_),dj,n11,cH,cX,J,J⟩ J J))
def yp.f (n:cI):Option (List (Int×Int)):=(Al.f n.gF).bind λv1=>some v1
def yp.R (r:(List (Int×Int))):bj:=λu G=> ∃a0 n0 H0,aj (Fl.pair .i64) 76 r a0 n0 H0/\u=(ll a0 r n0)/\G=[H0]
theorem yp.c (H:yp.f n=some r) (iG:gS n dg iB):
 QR 66 [(pp dg)] [iB] [iB] F (yp.R r):=by
 unfold yp.f at H;refine aF Tryz.func66 J J (λW=>rc T 12 (eN J (rc T 3 ?_)));obtain⟨b3,H3,tj,Lw,Lx,H4,s3,s4,cz⟩:=(λx=>x) iG;refine bU 0 (congrArg some cz) (fz J (rc T 4 (lf T 1 J (kr Al.R [2] [2] J aec H (Al.c · s3) (λv1 H=>?_)))));rintro _ _ ⟨a5,n5,H5,s5,rfl,rfl⟩;refine fz J (ro T 4 ?_)
 cases H;refine cq [1,3,1] J cz (p1 T J [1,1,0] ⟨a5,n5,H5,s5,J,J⟩ J)
end
noncomputable section
def pS.f (kind:Int):Option (Bj×Bool):=if(kind==1)=true then(some ((Bj.mk 0 0 true),true)) else(if(kind==2)=true then(some ((Bj.mk 4 1 false),true)) else((if(kind==3)=true then(some (kind==3)) else(if(kind==4)=true then(some (kind==4)) else(some (kind==6)))).bind λx1=>if x1=true then(some ((Bj.mk 4 4 false),true)) else(if(kind==5)=true then(some ((Bj.mk 4 0 false),true)) else((if(kind==7)=true then(some (kind==7)) else(some (kind==8))).bind λx3=>if x3=true then(some ((Bj.mk 0 0 false),true)) else(some ((Bj.mk 0 0 false),false))))))
theorem pS.c (H:pS.f kind=some r):
 QU 111 [(ii kind)] [] F (.tuple #[(.agg #[(ii r.1.a),(ii r.1.b),(bb r.1.load)]),(bb r.2)]):=by
 unfold pS.f at H;refine aF Tryz.func111 J J (λW=>rc T 2 (nc T J (λb1=>ro T 5 (nc T J (λb2=>ro T 29 (cb J H (λH=>?_) (λH=>?_)))))))
 ·refine rc T 8 (sg T 2 J (ro T 1 (ks [2,4] J (rx T 16 (lm T 2 J (sg T 1 J (ro T 1 (ro T 3 ?_))))))))
  cases H;exact pb T J (.cS (j:=1) [(ii 0),(ii 0),(bb true)] J J J J J J J (.tmp J .nil)) [0] () J J
 refine rc T 9 (cb J H (λH=>?_) (λH=>?_))
 ·refine rc T 10 (sg T 2 J (ro T 1 (sg T 2 J (ro T 1 (ks [2,4] J (rx T 14 (lm T 2 J (sg T 1 J (ro T 4 ?_)))))))))
  cases H;exact pb T J (.cS (j:=1) [(ii 4),(ii 1),(bb false)] J J J J J J J (.tmp J .nil)) [0] () J J
 refine rc T 3 (mq H [2,4,5] [0,0,0] (λz2 (x1:Bool)=>(x1=z2,[(10,(bb x1))],[])) J J (λz2 Z3 _=>?_) ?_)
 ·refine rc T 6 (cb J Z3 (λZ3=>?_) (λZ3=>?_))
  ·refine rc T 2 (am _ [0,0,0] (oi Z3) J J)
  refine rc T 6 (cb J Z3 (λZ3=>?_) (λZ3=>?_))
  ·refine rc T 2 (am _ [0,0,0] (oi Z3) J J)
  refine rc T 5 (am _ [0,0,0] (oi Z3) J J)
 rintro _ x1 rfl H;refine cb J H (λH=>?_) (λH=>?_)
 ·refine rc T 11 (sg T 2 J (ro T 5 (sg T 2 J (ro T 10 (lm T 2 J (sg T 1 J (ro T 1 (ro T 1 (ke [2,3] [0,0] J J (rx T 2 ?_))))))))))
  cases H;exact pb T J (.cS (j:=1) [(ii 4),(ii 4),(bb false)] J J J J J J J (.tmp J .nil)) [0] () J J
 refine rc T 9 (cb J H (λH=>?_) (λH=>?_))
 ·refine rc T 13 (sg T 2 J (ro T 10 (lm T 2 J (sg T 1 J (ro T 4 ?_)))))
  cases H;exact pb T J (.cS (j:=1) [(ii 4),(ii 0),(bb false)] J J J J J J J (.tmp J .nil)) [0] () J J
 refine rc T 2 (mq H [2,4] [0,0,0] (λz4 (x3:Bool)=>(x3=z4,[(16,(bb x3))],[])) J J (λz4 Z8 _=>?_) ?_)
 ·refine rc T 6 (cb J Z8 (λZ8=>?_) (λZ8=>?_))
  ·refine rc T 2 (am _ [0,0,0] (oi Z8) J J)
  refine rc T 5 (am _ [0,0,0] (oi Z8) J J)
 rintro _ x3 rfl H;refine cb J H (λH=>?_) (λH=>?_)
 ·refine rc T 19 (lm T 2 J (sg T 1 J (ro T 4 ?_)))
  cases H;exact pb T J (.cS (j:=1) [(ii 0),(ii 0),(bb false)] J J J J J J J (.tmp J .nil)) [0] () J J
 refine rc T 19 (sg T 1 J (ro T 7 ?_))
 cases H;exact pb T J (.cS (j:=1) [(ii 0),(ii 0),(bb false)] J J J J J J J (.tmp J .nil)) [0] () J J
def rG.l0:Nat->(List Int)->Int->Int->Option Int
 |0,_,_,_=>none
 |k5+1,b,x3,x4=>if x4<(aa b:Int) then(if(0<=x4/\x4<(aa b:Int)) then(if(0<=(af (8*x4))) then(rG.l0 k5 b (af (gf (cj (IntKind.bits .i64) x3|||cj (IntKind.bits .i64) (af ((af (rd b x4))*(2^(min (ax (af (8*x4))) (IntKind.bits .i64)))))))) (af (x4+1))) else none) else none) else(some x3)
def rG.f (b:(List Int)):Option Int:=rG.l0 fuel b 0 0
theorem rG.c (H:rG.f b=some r) (gM:aO (Fl.int .u8) b jG F) (gz:aa b<=jy):
 QU 190 [(ll jG b jy)] [] F (ii r):=by
 unfold rG.f at H;refine aF Tryz.func190 J J (λW=>rc T 19 (lq [6,7] [0] (λ(⟨k5,x3,x4⟩:Nat×Int×Int)=>(rG.l0 k5 b x3 x4=some r,[(3,(ii x3)),(8,(ii x4))],[])) J J (fuel,0,0) [0] H J J ?_));rintro k5 ⟨x3,x4⟩ Z1;replace Z1:rG.l0 (k5+1) b x3 x4=some r:=Z1;rw[rG.l0] at Z1;refine rc T 6 (cd J Z1 (λZ1=>?_) (λZ1=>?_))
 ·refine rc T 7 ?_;obtain⟨c3,Z1⟩:=az Z1;obtain⟨q1,o1,e1⟩:=gM.addr c3.1 c3.2;refine ix T J e1 c3 (le T 0 (rO gM 0) e1 c3 J J (ro T 10 ?_));obtain⟨c4,Z1⟩:=az Z1;refine bA J (Sc J J J c4) (ro T 10 (ar (_,_) [0] Z1 J J))
 refine rc T 12 ?_
 cases Z1;exact p0 T J [0] J
def Bi.f (b:(List Int)):Option (eG×Int):=if(0<=(0:Int)/\(0:Int)<(aa b:Int)) then(if(0<=(1:Int)/\(1:Int)<=(aa b:Int)/\(aa b:Int)<=(aa b:Int)) then((pS.f (af (rd b 0))).bind λv1=>if(!v1.2)=true then(some ((eG.mk 0 (af (rd b 0)) 0 []),1)) else(if v1.1.load=true then(if(aa (aA b 1 (aa b:Int)):Int)<4 then(some ((eG.mk 0 0 0 []),0)) else(if(0<=(0:Int)/\(0:Int)<=(4:Int)/\(4:Int)<=(aa (aA b 1 (aa b:Int)):Int)) then((rG.f (aA (aA b 1 (aa b:Int)) 0 4)).bind λv2=>if(af ((aa (aA b 1 (aa b:Int)):Int)-4))<v2 then(some ((eG.mk 0 0 0 []),0)) else(if(0<=(4:Int)/\(4:Int)<=(af (4+v2))/\(af (4+v2))<=(aa (aA b 1 (aa b:Int)):Int)) then(if(aa ([]:List Int)+aa (aA (aA b 1 (aa b:Int)) 4 (af (4+v2)))<=1099511627776) then(some ((eG.mk (af (rd b 0)) 0 0 ([]++(aA (aA b 1 (aa b:Int)) 4 (af (4+v2))))),(af (5+v2)))) else none) else none)) else none)) else(if(aa (aA b 1 (aa b:Int)):Int)<(af (v1.1.a+v1.1.b)) then(some ((eG.mk 0 0 0 []),0)) else(if(0<=(0:Int)/\(0:Int)<=v1.1.a/\v1.1.a<=(aa (aA b 1 (aa b:Int)):Int)) then(if(0<=v1.1.a/\v1.1.a<=(af (v1.1.a+v1.1.b))/\(af (v1.1.a+v1.1.b))<=(aa (aA b 1 (aa b:Int)):Int)) then((rG.f (aA (aA b 1 (aa b:Int)) 0 v1.1.a)).bind λv3=>(rG.f (aA (aA b 1 (aa b:Int)) v1.1.a (af (v1.1.a+v1.1.b)))).bind λv4=>some ((eG.mk (af (rd b 0)) v3 v4 []),(af ((af (1+v1.1.a))+v1.1.b)))) else none) else none)))) else none) else none
def Bi.R (r:(eG×Int)):bj:=λu G=> ∃a0 n0 H0,aj (Fl.int .u8) 5 r.1.Map a0 n0 H0/\u=(.tuple #[(.agg #[(ii r.1.Kind),(ii r.1.A),(ii r.1.B),(ll a0 r.1.Map n0)]),(ii r.2)])/\G=[H0]
theorem Bi.c (H:Bi.f b=some r) (gM:aO (Fl.int .u8) b jG F) (gz:aa b<=jy):
 QR 146 [(ll jG b jy)] [] [] F (Bi.R r):=by
 unfold Bi.f at H;refine aF Tryz.func146 J J (λW=>rc T 2 (nc T J (λb1=>ro T 4 (dw mix aB (au T J ?_)))));obtain⟨c1,H⟩:=az H;obtain⟨q2,o2,e2⟩:=gM.addr c1.1 c1.2;refine bf J J J (cu T J J J J J e2 c1.1 c1.2) (bf J J J (cw T J J J J (eH (k:=(Fl.int .u8)) (rO gM 0) e2 c1 0 J)) (au T J (au T J ?_)));obtain⟨c2,H⟩:=az H;refine bf J J J (kS T J J J J J J c2 gz) (au T J (au T J (cO (rx T 4 (k [] J Ni H (pS.c ·) (λv1 H=>ro T 3 (nc T J (λb3=>sg T 2 J (ro T 10 (cb J H (λH=>?_) (λH=>?_)))))))))))
 ·refine rc T 4 (sg T 1 J (ro T 2 (ke [2,3] [0,0] J J (rx T 3 ?_))))
  cases H;refine bz (pb T J (.cS (j:=1) [(ii 0),(ii (af (rd b 0))),(ii 0),nl] J J J J J J J (.tmp J .nil)) [2,0] ⟨(_,_),none,0,[],aj.nil,J,J⟩ J J)
 refine rc T 6 (lf T 2 J (ro T 2 (cb J H (λH=>?_) (λH=>?_))))
 ·refine rc T 8 (cd J H (λH=>?_) (λH=>?_))
  ·refine rc T 3 (sg T 1 J (ro T 6 ?_))
   cases H;refine bz (pb T J (.cS (j:=1) [(ii 0),(ii 0),(ii 0),nl] J J J J J J J (.tmp J .nil)) [3,0] ⟨(_,_),none,0,[],aj.nil,J,J⟩ J J)
  refine rc T 5 ?_;obtain⟨c7,H⟩:=az H;refine bA J (kS T J J J J J J c7 (mW c2 gz)) (k [] J Nr H (rG.c · (nC (nC (rO gM 0) c2 gz) c7 (mW c2 gz)) (mW c7 (mW c2 gz))) (λv2 H=>ro T 13 (cd J H (λH=>?_) (λH=>?_))))
  ·refine rc T 3 (sg T 1 J (ro T 6 ?_))
   cases H;refine bz (pb T J (.cS (j:=1) [(ii 0),(ii 0),(ii 0),nl] J J J J J J J (.tmp J .nil)) [3,0] ⟨(_,_),none,0,[],aj.nil,J,J⟩ J J)
  refine rc T 8 ?_;obtain⟨iP,H⟩:=az H;refine bA J (kS T J J J J J J iP (mW c2 gz)) (bz ?_);obtain⟨dK,H⟩:=az H;refine aV (dQ (k:=(Fl.int .u8)) (xs:=([]:List Int)) T (g:=3) J J J J J J J J J J aj.nil (nC (nC (rO gM 0) c2 gz) iP (mW c2 gz)) dK J (λa8 n8 H8 s8=>ro T 3 (sg T 1 J (ro T 2 (ke [2,3] [0,0,1] J J (rx T 3 ?_))))))
  cases H;exact pb T J (.cS (j:=1) [(ii (af (rd b 0))),(ii 0),(ii 0),(ll a8 ([]++(aA (aA b 1 (aa b:Int)) 4 (af (4+v2)))) n8)] J J J J J J J (.tmp J .nil)) [2,0] ⟨(_,_),a8,n8,H8,s8,J,J⟩ J J
 refine rc T 8 (lf T 2 J (ro T 1 (lf T 2 J (ro T 4 (cd J H (λH=>?_) (λH=>?_))))))
 ·refine rc T 3 (sg T 1 J (ro T 5 ?_))
  cases H;refine bz (pb T J (.cS (j:=1) [(ii 0),(ii 0),(ii 0),nl] J J J J J J J (.tmp J .nil)) [3,0] ⟨(_,_),none,0,[],aj.nil,J,J⟩ J J)
 refine rc T 3 (ks [2,4,5,6] J (fz J (rg [] [0,1] mix (bH bG) (λhg pf=>ha T 22 [0,1,2] (so [0,1]) hg pf J (al T 3 1 (so [0,1]) hg pf J J J ?_)))));obtain⟨jn,H⟩:=az H;refine av 4 (so [0,1]) hg pf J (kS T J J J J J J jn (mW c2 gz)) (ha T 18 [6,7] (so [0,1]) hg pf J (al T 8 1 (so [0,1]) hg pf J J J (ha T 16 [9] (so [0,1]) hg pf J (al T 10 1 (so [0,1]) hg pf J J J (ha T 14 [11] (so [0,1]) hg pf J (al T 12 1 (so [0,1]) hg pf J J J (ha T 12 [13] (so [0,1]) hg pf J ?_)))))));obtain⟨jo,H⟩:=az H;refine av 14 (so [0,1]) hg pf J (kS T J J J J J J jo (mW c2 gz)) (ha T 10 [17] (so [0,1]) hg pf J (al T 18 1 (so [0,1]) hg pf J J J (ha T 7 [19,20] (so [0,1]) hg pf J (al T 21 1 (so [0,1]) hg pf J J J (ha T 5 [22] (so [0,1]) hg pf J (ao 5 (kh [] J Nr H (rG.c · (nC (nC (rO gM 0) c2 gz) jn (mW c2 gz)) (mW jn (mW c2 gz))) (λv3 H=>an (so [0,1]) (ao 15 (kh [] J Nr H (rG.c · (nC (nC (rO gM 0) c2 gz) jo (mW c2 gz)) (mW jo (mW c2 gz))) (λv4 H=>an (so [0,1]) (ha T 2 [16] (so [0,1]) hg pf J (ao 23 (sf T 1 J (an (so [0,1]) (ha T 0 [24] (so [0,1]) hg pf J (ae (rx T 1 (rc T 1 ?_)))))))))))))))))))
 cases H;refine bz (pb T J (.cS (j:=1) [(ii (af (rd b 0))),(ii v3),(ii v4),nl] J J J J J J J (.tmp J .nil)) [3,0] ⟨(_,_),none,0,[],aj.nil,J,J⟩ J J)
def HC.f (b:(List Int)):Option Bool:=if((aa b:Int)==0)=true then(some false) else((Bi.f b).bind λv1=>some (v1.2==0))
theorem HC.c (H:HC.f b=some r) (gM:aO (Fl.int .u8) b jG F) (gz:aa b<=jy):
 QU 110 [(ll jG b jy)] [] F (bb r):=by
 unfold HC.f at H;refine aF Tryz.func110 J J (λW=>rc T 13 (cb J H (λH=>?_) (λH=>?_)))
 ·refine rc T 7 ?_
  cases H;exact p0 T J [0] J
 refine rc T 5 (kr Bi.R [] [] J acj H (Bi.c · (rO gM 0) gz) (λv1 H=>?_));rintro _ _ ⟨a1,n1,H1,s1,rfl,rfl⟩;refine fz J (ro T 3 (nc T J (λb2=>sg T 2 J (ro T 11 ?_))))
 cases H;exact p0 T J [0] J
def sQ.f (n:Int) (ai:Int):Option Bool:=if n≥0 then(if(0<=(af (8*ai))) then(some (decide (n<(af (1*(2^(min (ax (af (8*ai))) (IntKind.bits .i64)))))))) else none) else(some false)
theorem sQ.c (H:sQ.f n ai=some r):
 QU 112 [(ii n),(ii ai)] [] F (bb r):=by
 unfold sQ.f at H;refine aF Tryz.func112 J J (λW=>rc T 10 (ad 7 J H (λH=>?_) (λH=>?_)))
 ·refine ro T 3 ?_;obtain⟨c2,H⟩:=az H;refine bA J (Sc J J J c2) (ro T 6 ?_)
  cases H;exact p0 T J [0] J
 refine ro T 10 ?_
 cases H;exact p0 T J [0] J
def C8.f (o:eG):Option Bool:=if(o.Kind==0)=true then(if(o.A==(-1))=true then((if(o.B==0)=true then((HC.f o.Map).bind λv3=>some v3) else(some false)).bind λx1=>some x1) else((pS.f o.A).bind λv4=>((sQ.f o.A 1).bind λv7=>if(v7&&(!v4.2))=true then(if(o.B==0)=true then(some ((aa o.Map:Int)==0)) else(some false)) else(some false)).bind λx5=>some x5)) else((pS.f o.Kind).bind λv8=>(if v8.2=true then((sQ.f o.A v8.1.a).bind λv11=>if v11=true then((sQ.f o.B v8.1.b).bind λv12=>if v12=true then(if((aa o.Map:Int)==0)=true then(some true) else(if v8.1.load=true then(some (decide ((aa o.Map:Int)<=4294967295))) else(some false))) else(some false)) else(some false)) else(some false)).bind λx9=>some x9)
theorem C8.c (H:C8.f o=some r) (A8:aO (Fl.int .u8) o.Map B7 F) (AX:aa o.Map<=C1):
 QU 82 [(.agg #[(ii o.Kind),(ii o.A),(ii o.B),(ll B7 o.Map C1)])] [] F (bb r):=by
 unfold C8.f at H;refine aF Tryz.func82 J J (λW=>rc T 2 (nc T J (λb1=>ro T 7 (lf T 1 J (ro T 3 (cb J H (λH=>?_) (λH=>?_)))))))
 ·refine rc T 4 (lf T 1 J (ro T 3 (cb J H (λH=>?_) (λH=>?_))))
  ·refine mq H [] [0] (λz2 (x1:Bool)=>(x1=z2,[(2,(bb x1))],[])) J J (λz2 Z3 _=>?_) ?_
   ·refine rc T 2 (lf T 1 J (ro T 2 (ab 16 J Z3 (λZ3=>?_) (λZ3=>?_))))
    ·refine ro T 1 (lf T 1 J (k [] J ab6 Z3 (HC.c · (rO A8 0) AX) (λv3 Z3=>ro T 4 (am _ [0] (oi Z3) J J))))
    refine ro T 7 (am _ [0] (oi Z3) J J)
   rintro _ x1 rfl H;refine rc T 3 ?_
   cases H;exact p0 T J [0] J
  refine rc T 5 (lf T 1 J (k [] J Ni H (pS.c ·) (λv4 H=>ro T 3 (nc T J (λb2=>sg T 2 J (ro T 3 (mq H [] [0] (λz6 (x5:Bool)=>(x5=z6,[(2,(bb x5))],[])) J J (λz6 Z7 _=>?_) ?_)))))))
  ·refine rc T 2 (lf T 1 J (k [] J Nj Z7 (sQ.c ·) (λv7 Z7=>ro T 1 (ga T [4,5,6] 30 [1] 33 J J J J J J J (ro T 1 (ab 34 J Z7 (λZ7=>?_) (λZ7=>?_)))))))
   ·refine ro T 1 (lf T 1 J (ro T 3 (ab 39 J Z7 (λZ7=>?_) (λZ7=>?_))))
    ·refine ro T 1 (lf T 1 J (ro T 6 (am _ [0] (oi Z7) J J)))
    refine ro T 8 (am _ [0] (oi Z7) J J)
   refine ro T 13 (am _ [0] (oi Z7) J J)
  rintro _ x5 rfl H;refine rc T 2 ?_
  cases H;exact p0 T J [0] J
 refine rc T 5 (lf T 1 J (k [] J Ni H (pS.c ·) (λv8 H=>ro T 3 (nc T J (λb3=>sg T 2 J (ro T 3 (mq H [] [0] (λmy (x9:Bool)=>(x9=my,[(2,(bb x9))],[])) J J (λmy ba _=>?_) ?_)))))))
 ·refine rc T 3 (ab 52 J ba (λba=>?_) (λba=>?_))
  ·refine ro T 1 (lf T 1 J (ro T 1 (lf T 2 J (k [] J Nj ba (sQ.c ·) (λv11 ba=>ro T 2 (ab 59 J ba (λba=>?_) (λba=>?_)))))))
   ·refine ro T 1 (lf T 1 J (ro T 1 (lf T 2 J (k [] J Nj ba (sQ.c ·) (λv12 ba=>ro T 2 (ab 66 J ba (λba=>?_) (λba=>?_)))))))
    ·refine ro T 1 (lf T 1 J (ro T 3 (ab 71 J ba (λba=>?_) (λba=>?_))))
     ·refine ro T 13 (am _ [0] (oi ba) J J)
     refine ro T 1 (lf T 2 J (ro T 1 (ab 74 J ba (λba=>?_) (λba=>?_))))
     ·refine ro T 1 (lf T 1 J (ro T 8 (am _ [0] (oi ba) J J)))
     refine ro T 10 (am _ [0] (oi ba) J J)
    refine ro T 18 (am _ [0] (oi ba) J J)
   refine ro T 25 (am _ [0] (oi ba) J J)
  refine ro T 32 (am _ [0] (oi ba) J J)
 rintro _ x9 rfl H;refine rc T 1 ?_
 cases H;exact p0 T J [0] J
end
end Go.Proofs.YthodkonhneebbaaGreatDoor
