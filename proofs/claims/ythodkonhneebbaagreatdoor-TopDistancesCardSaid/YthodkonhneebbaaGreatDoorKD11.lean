/- What the functions of some packages compute, each as a function of plain Lean, with its contract. No condition. -/
import Derived.Test.YthodkonhneebbaaGreatDoorKDT
import Derived.Test.YthodkonhneebbaaGreatDoorKD6
import Derived.Test.YthodkonhneebbaaGreatDoorKD7
import Derived.Test.YthodkonhneebbaaGreatDoorKD10
import Derived.Test.YthodkonhneebbaaGreatDoorKD9
namespace Go.Hx
section
variable {W : World} {P : Program} {n : Nat} {F K : Act -> World -> Prop} {Q : Exit -> Act -> World -> Prop} {env : Env} {HL : List Hp} {ops : Array Oper} {i : Nat} {rest : List Nat}
def gqF (js:List Nat) (HL:List Hp):Option (List Hp):=fH (sR js HL++[(sA js HL).flatten])
theorem gq (js:List Nat) {jw:List Hp} (hs:gqF js HL=some jw) (h:aH W n F env jw):aH W n F env HL:=gD js (Bj js HL) (by rw[Cc hs];exact h)
def Rf (js:List Nat) (HL:List Hp):Option (List Hp×List Hp):=match fH (sA js HL),fH (sR js HL) with
 |some A,some R=>some (A,R)
 |_,_=>none
theorem cq (js:List Nat) {As R:List Hp} {H:Hp} (hs:Rf js HL=some (As,R)) (hH:H=As.flatten) (h:aH W n F env (R++[H])):aH W n F env HL:=by
 unfold Rf at hs;split at hs
 ·rename_i A R' h1 h2;simp only[Option.some.injEq,Prod.mk.injEq] at hs;obtain⟨rfl,rfl⟩:=hs;exact dz js (by rw[Bj,Cc h1,Cc h2]) hH h
 ·cases hs
theorem aq {jw:List Hp} (hs:fH (HL++[[]])=some jw) (h:aH W n F env jw):aH W n F env HL:=bA (by rw[Cc hs];exact h)
theorem rq (late js:List Nat) {id:Nat} {H0:List Hp} (h0:nH js HL=some H0) (hm:P.follows .mixedOrders=true) (jC:PF Q)
 (h:oJ ops (DL ops)=true->PF Q->aH W n (gz P ops Q (SO W H0) late ops.size (Array.replicate ops.size false)) env HL) (hg:oJ ops (DL ops)=true:=by kernel_rfl):
 aH W n ((Code.region id ops true).wp P Q) env HL:=rg late js hm jC (by rw[Hb h0];exact h) hg
def K2 (T:Ty P) (ops:Array Oper) (env:Env) (i j:Nat) (HL:List Hp):Option (Nat×Nat×List Hp):=match HQ T ops env i j HL with
 |some (a,b,L)=>match fH L with
  |some L'=>some (a,b,L')
  |none=>none
 |none=>none
theorem WR {T:Ty P} {j:Nat} {a b:Nat} {jw:List Hp} (h:K2 T ops env i j HL=some (a,b,jw)):HQ T ops env i j HL=some (a,b,jw):=by
 unfold K2 at h;split at h
 ·rename_i a' b' L h1;split at h
  ·rename_i L' h2;simp only[Option.some.injEq,Prod.mk.injEq] at h;obtain⟨rfl,rfl,rfl⟩:=h;rw[h1,Cc h2]
  ·cases h
 ·cases h
theorem je (T:Ty P) {b:Nat} {jw:List Hp} (j:Nat) (h1:K2 T ops env i j HL=some (b,b,jw)) (h:aH W n K env jw):aH W n (wpOp P ops Q i K) env HL:=sf T j (WR h1) h
theorem j5 (T:Ty P) {b:Nat} {jw:List Hp} (j:Nat) (h1:K2 T ops env i j HL=some (b,b,jw)) (h:aH W n (wpOps P ops Q rest) env jw):aH W n (wpOps P ops Q (i::rest)) env HL:=sg T j (WR h1) h
theorem aew {A B X:Hp} (h:X=List.flatten [A,B]): ∃C:Hp,C=B/\X=List.flatten [A,C]:=⟨_,J,h⟩
end
end Go.Hx
namespace Go.Proofs.YthodkonhneebbaaGreatDoor
open Go.Hx
open List renaming length->aa,flatten_cons->vC,flatten_append->vB,flatten_nil->vD,append_nil->sY,append_assoc->uz
open Int renaming toNat->ax
open BitVec renaming toNat->fX,ofInt->cg
set_option maxRecDepth 100000
set_option linter.unusedSimpArgs false
set_option linter.unusedVariables false
set_option maxHeartbeats 4000000
set_option autoImplicit true
set_option relaxedAutoImplicit true
noncomputable section
def yd.f (ag:Int):Option (Option cF):=if ag<1 then(some none) else((yv.f ag).bind λv1=>dF v1 (none) (λeO=>some (some (cF.mk none eO (gL.mk 0 0 0 0 0 0)))))
def yd.R (r:(Option cF)):bk:=λu G=> ∃(u0:Value) (G0:List Hp),XQ r u0 G0/\u=u0/\G=G0
theorem yd.c (H:yd.f ag=some r):
 QR 51 [(ii ag)] [] [] F (yd.R r):=by
 unfold yd.f at H;refine aG Tryz.func51 J J (λW=>rc T 12 (cd J H (λH=>?_) (λH=>?_)))
 ·refine rc T 7 ?_
  cases H;exact p1 T J [0] ⟨_,_,⟨J,J⟩,J,J⟩ J
 refine rc T 5 (kr yv.R [] [] J adA H (yv.c ·) (λv1 H=>?_));rintro _ _ ⟨_,_,O3,rfl,rfl⟩;rcases v1 with _ |eO
 ·replace H:=ff J H
  cases H
 replace H:=fg J H;obtain⟨b1,H1,s1,rfl,rfl⟩:=O3;refine ro T 1 (nc T J (λb2=>fz J (ro T 4 ?_)))
 cases H;refine aq J (gq [2,1,1] J (p1 T J [1,0] ⟨_,_,⟨b2,(List.flatten [(cl b2 135 [(.pointer none),(.pointer none),(.pointer none),(pp b1),(uu 0),(uu 0),(uu 0),(uu 0),(uu 0),(uu 0)]),H1,[]]),(show gT (cF.mk none eO (gL.mk 0 0 0 0 0 0)) b2 (List.flatten [(cl b2 135 [(.pointer none),(.pointer none),(.pointer none),(pp b1),(uu 0),(uu 0),(uu 0),(uu 0),(uu 0),(uu 0)]),H1,[]]) from⟨b1,H1,(.pointer none),(.pointer none),(.pointer none),[],s1,(show vA none (.pointer none) (.pointer none) (.pointer none) [] from⟨J,J,J,J⟩),J⟩),J,J⟩,J,J⟩ J))
def tN.f (n:cF) (cell:Int):Option Int:=dF n.core (none) (λx1=>(i_.f x1.aL cell).bind λv2=>some v2)
theorem tN.c (H:tN.f n cell=some r) (jd:gT n db jh):
 QU 113 [(pp db),(ii cell)] [jh] F (ii r):=by
 unfold tN.f at H;refine aG Tryz.func113 J J (λW=>rc T 12 (e_ J (rc T 3 ?_)));obtain⟨b3,H3,vr,PB,PC,H4,s3,s4,cI⟩:=(λx=>x) jd;refine bX 0 (congrArg some cI) (fz J ?_);rcases q1:n.core with _ |x1
 ·replace H:=ff q1 H
  cases H
 replace H:=fg q1 H;rw[q1] at s4;obtain⟨b6,H6,b7,H7,b8,H8,s6,s7,s8,rfl,rfl,rfl,xy⟩:=s4;refine bX 3 (congrArg some xy) (fz J (rc T 4 (lf T 1 J (ro T 1 (k [3] J vX H (i_.c · s6) (λv2 H=>ro T 4 ?_))))))
 cases H;refine cq [3,3,3] J xy (cq [1,1,1] J cI (p0 T J [1,0] J))
def zJ.f (n:cF):Option gL:=dF n.core ((G7.f).bind λv2=>(Hz.f).bind λv3=>some (gL.mk v2 v3 0 0 0 0)) (λx1=>(G8.f x1.jq x1.aL).bind λv4=>(HA.f x1.kO x1.jq x1.aL).bind λv5=>some (gL.mk v4 v5 0 0 0 0))
theorem zJ.c (H:zJ.f n=some r) (jd:gT n db jh):
 QU 79 [(pp db)] [jh] F (.agg #[(uu r.bJ),(uu r.bK),(uu r.bH),(uu r.bF),(uu r.bU),(uu r.bO)]):=by
 unfold zJ.f at H;refine aG Tryz.func79 J J (λW=>rc T 2 (nc T J (λb2=>fz J (ro T 3 ?_))));obtain⟨b4,H4,yH,E3,E4,H5,s4,s5,dA⟩:=(λx=>x) jd;refine bX 0 (congrArg some dA) (fz J ?_);rcases q1:n.core with _ |x1
 ·replace H:=ff q1 H;rw[q1] at s5;obtain⟨rfl,rfl,rfl,rfl⟩:=s5;refine ks [0,2] J (fz J (rz [11] mix (bR bQ) (λhg pf=>ha T 9 [0,1,2] sz hg pf J (al T 3 2 sz hg pf J J J (ha T 5 [5,6,7] sz hg pf J (al T 8 2 sz hg pf J J J (ao 4 (kh [] J Sm H (G7.c ·) (λv2 H=>an sz (ao 9 (kh [] J Sn H (Hz.c ·) (λv3 H=>an sz (ha T 1 [10] sz hg pf J (ao 11 (je T 1 J (an sl (ae (rx T 2 ?_))))))))))))))))))
  cases H;refine cq [2,2,2] J dA (pb T J (.cT (j:=1) [(uu v2),(uu v3),(uu 0),(uu 0),(uu 0),(uu 0)] J J J J J J J .nil) [2,0] () J J)
 replace H:=fg q1 H;rw[q1] at s5;obtain⟨b7,H7,b8,H8,b9,H9,s7,s8,s9,rfl,rfl,rfl,oK⟩:=s5;refine bX 4 (congrArg some oK) (fz J (ks [0,2] J (fz J (rz [11] mix (bR bQ) (λhg pf=>ha T 9 [0,1,2] sz hg pf J (al T 3 2 sz hg pf J J J (ha T 5 [5,6,7] sz hg pf J (al T 8 2 sz hg pf J J J (ao 4 (kh [5,4] J Sm H (G8.c · s8 s7) (λv4 H=>an sz (ao 9 (kh [6,5,4] J Sn H (HA.c · s9 s8 s7) (λv5 H=>an sz (ha T 1 [10] sz hg pf J (ao 11 (je T 1 J (an sl (ae (rx T 2 ?_))))))))))))))))))))
 cases H;refine cq [4,4,4] J oK (cq [2,2,2] J dA (pb T J (.cT (j:=1) [(uu v4),(uu v5),(uu 0),(uu 0),(uu 0),(uu 0)] J J J J J J J .nil) [2,0] () J J))
def ya.f (n:cF) (m:aF):Option (Int×cF):=(yY.f m).bind λv1=>if(!v1)=true then(some (6,n)) else((zJ.f n).bind λv2=>(mT.f n.aU v2).bind λv3=>dF n.core ((F7.f).bind λv5=>(l_.f m v5).bind λv6=>dF v6 (none) (λyK=>(sx.f yK).bind λv7=>dF v7 (none) (λrJ=>(tS.f rJ yK).bind λv8=>dF v8 (none) (λE9=>(pU.f n.hZ).bind λv9=>some (0,(cF.mk (some (fe.mk yK rJ E9)) v9 v3)))))) (λx4=>(pz.f x4.aL).bind λv10=>(l_.f m v10).bind λv11=>dF v11 (none) (λAl=>(sx.f Al).bind λv12=>dF v12 (none) (λIo=>(tS.f Io Al).bind λjf=>dF jf (none) (λLl=>(pU.f n.hZ).bind λei=>some (0,(cF.mk (some (fe.mk Al Io Ll)) ei v3)))))))
def ya.R (tl:Nat) (r:(Int×cF)):bk:=λu G=> ∃(H0:Hp),gT r.2 tl H0/\u=(ii r.1)/\G=[H0]
theorem ya.c (H:ya.f n m=some r) (jd:gT n db jh) (iM:aP (Fl.int .u8) m.C kJ F) (py:aa m.C<=kt):
 QR 115 [(pp db),(.agg #[(ii m.W),(ii m.H),(ll kJ m.C kt)])] [jh] [] F (ya.R db r):=by
 unfold ya.f at H;refine aG Tryz.func115 J J (λW=>rc T 2 (nc T J (λb2=>fz J (ro T 12 (e_ J (rc T 2 (lm T 2 J (k [] J Sw H (yY.c · (rO iM 1) py) (λv1 H=>ro T 4 (cb J H (λH=>?_) (λH=>?_)))))))))))
 ·refine rc T 8 ?_
  cases H;exact p1 T J [0,0] ⟨jh,jd,J,J⟩ J
 refine rc T 4 ?_;obtain⟨b4,H4,yH,E3,E4,H5,s4,s5,dA⟩:=(λx=>x) jd;refine bX 0 (congrArg some dA) (fz J (ks [0,3] J (fz J (rz [10] mix (bR bQ) (λhg pf=>ha T 7 [0,1,2,3] sz hg pf J (av 4 sz hg pf J (gA T 2 J J J J J J J) (ha T 5 [5] sz hg pf J (ao 6 ?_))))))));obtain⟨v2,V3,H⟩:=gu H;refine IY (As:=[(cl db 135 [yH,E3,E4,(pp b4),(uu n.aU.bJ),(uu n.aU.bK),(uu n.aU.bH),(uu n.aU.bF),(uu n.aU.bU),(uu n.aU.bO)]),H4,H5]) [2,2,2] J J J J Ti J J (I9 (A:=[jh]) (by simp only[dA,vC,vB,vD,sY,uz]) (zJ.c V3 jd)) (an sz (ao 7 (kh [] J Ni H (mT.c ·) (λv3 H=>an sz (ha T 1 [8,9] sz hg pf J (ao 10 (je T 2 J (an sl (ae (rx T 2 ?_))))))))))
 rcases q5:n.core with _ |x4
 ·replace H:=ff q5 H;rw[q5] at s5;obtain⟨rfl,rfl,rfl,rfl⟩:=s5;refine ks [0,3] J (fz J (rq [10] [0,0,0,0,0] J mix (bR bQ) (λhg pf=>ha T 10 [0] sz hg pf J (av 1 sz hg pf J (gA T 1 J J J J J J J) (ha T 6 [2,3,4] sz hg pf J (al T 5 2 sz hg pf J J J (ao 6 (kh [] J Ch H (F7.c ·) (λv5 H=>an sz (ao 7 (kR l_.R [] [] J Sy H (l_.c · (rO iM 0) py) (λv6 H=>?_))))))))))));rintro _ _ ⟨_,_,O8,rfl,rfl⟩;rcases v6 with _ |yK
  ·replace H:=ff J H
   cases H
  replace H:=fg J H;obtain⟨fZ,bZ,bT,rfl,rfl⟩:=O8;refine an (so [0,0,0,0,0]) (ha T 1 [8,9] (so [0,0,0,0,0]) hg pf J (ao 10 (je T 2 J (an sl (ae (rx T 7 (lf T 2 J (kr (sx.R fZ) [5] [5] J Sz H (sx.c · bT) (λv7 H=>?_)))))))));rintro _ _ ⟨_,_,Ls,rfl,rfl⟩;rcases v7 with _ |rJ
  ·replace H:=ff J H
   cases H
  replace H:=fg J H;obtain⟨jO,cE,cW,rfl,rfl⟩:=Ls;refine ro T 2 (j5 T 2 J (ro T 3 (ke [0] [0,1,1,1,1,1] J J (fz J (rq [12] [0,0,0,0,0,0] J mix (bR bQ) (λhg pf=>ha T 9 [0,1,2,3] sz hg pf J (al T 4 1 sz hg pf J J J (ha T 5 [5,6,7] sz hg pf J (al T 8 1 sz hg pf J J J (ao 9 (kR (tS.R jO fZ) [4,4] [4,4] J SA H (tS.c · cW bT) (λv8 H=>?_))))))))))));rintro _ _ ⟨_,_,XG,rfl,rfl⟩;rcases v8 with _ |E9
  ·replace H:=ff J H
   cases H
  replace H:=fg J H;obtain⟨ln,dH,dN,rfl,rfl⟩:=XG;refine an (so [0,0,0,0,1,1]) (ha T 1 [10,11] (so [0,0,0,0,1,1]) hg pf J (ao 12 (je T 1 J (an sl (ae (rx T 6 (lf T 1 J (kr (pU.R b4) [] [2] J MW H (pU.c · s4) (λv9 H=>?_)))))))));rintro _ _ ⟨dT,dg,rfl,rfl⟩;refine fz J (ro T 8 ?_)
  cases H;refine gq [5,4,3] J (gq [1,2,2] J (p1 T J [2,0] ⟨(List.flatten [(cl db 135 [(pp fZ),(pp jO),(pp ln),(pp b4),(uu v3.bJ),(uu v3.bK),(uu v3.bH),(uu v3.bF),(uu v3.bU),(uu v3.bO)]),dT,(List.flatten [bZ,cE,dH])]),(show gT (cF.mk (some (fe.mk yK rJ E9)) v9 v3) db (List.flatten [(cl db 135 [(pp fZ),(pp jO),(pp ln),(pp b4),(uu v3.bJ),(uu v3.bK),(uu v3.bH),(uu v3.bF),(uu v3.bU),(uu v3.bO)]),dT,(List.flatten [bZ,cE,dH])]) from⟨b4,dT,(pp fZ),(pp jO),(pp ln),(List.flatten [bZ,cE,dH]),dg,(show vA (some (fe.mk yK rJ E9)) (pp fZ) (pp jO) (pp ln) (List.flatten [bZ,cE,dH]) from⟨fZ,bZ,jO,cE,ln,dH,bT,cW,dN,J,J,J,J⟩),J⟩),J,J⟩ J))
 replace H:=fg q5 H;rw[q5] at s5;obtain⟨b7,H7,b8,H8,b9,H9,s7,s8,s9,rfl,rfl,rfl,oK⟩:=s5;refine bX 4 (congrArg some oK) (fz J (ks [0,3] J (fz J (rq [10] [0,0,0,0,0,0,0] J mix (bR bQ) (λhg pf=>ha T 10 [0] sz hg pf J (av 1 sz hg pf J (gA T 1 J J J J J J J) (ha T 6 [2,3,4] sz hg pf J (al T 5 2 sz hg pf J J J (ao 6 (kh [4] J Ch H (pz.c · s7) (λv10 H=>an sz (ao 7 (kR l_.R [] [] J Sy H (l_.c · (rO iM 0) py) (λv11 H=>?_))))))))))))));rintro _ _ ⟨_,_,XH,rfl,rfl⟩;rcases v11 with _ |Al
 ·replace H:=ff J H
  cases H
 replace H:=fg J H;obtain⟨oG,dO,dW,rfl,rfl⟩:=XH;refine an (so [0,0,0,0,0,0,0]) (ha T 1 [8,9] (so [0,0,0,0,0,0,0]) hg pf J (ao 10 (je T 2 J (an sl (ae (rx T 7 (lf T 2 J (kr (sx.R oG) [7] [7] J Sz H (sx.c · dW) (λv12 H=>?_)))))))));rintro _ _ ⟨_,_,XI,rfl,rfl⟩;rcases v12 with _ |Io
 ·replace H:=ff J H
  cases H
 replace H:=fg J H;obtain⟨qQ,fx,eK,rfl,rfl⟩:=XI;refine ro T 2 (j5 T 2 J (ro T 3 (ke [0] [0,1,1,1,1,1,1,1] J J (fz J (rq [12] [0,0,0,0,0,0,0,0] J mix (bR bQ) (λhg pf=>ha T 9 [0,1,2,3] sz hg pf J (al T 4 1 sz hg pf J J J (ha T 5 [5,6,7] sz hg pf J (al T 8 1 sz hg pf J J J (ao 9 (kR (tS.R qQ oG) [6,6] [6,6] J SA H (tS.c · eK dW) (λjf H=>?_))))))))))));rintro _ _ ⟨_,_,XJ,rfl,rfl⟩;rcases jf with _ |Ll
 ·replace H:=ff J H
  cases H
 replace H:=fg J H;obtain⟨B0,eP,fF,rfl,rfl⟩:=XJ;refine an (so [0,0,0,0,0,0,1,1]) (ha T 1 [10,11] (so [0,0,0,0,0,0,1,1]) hg pf J (ao 12 (je T 1 J (an sl (ae (rx T 6 (lf T 1 J (kr (pU.R b4) [] [2] J MW H (pU.c · s4) (λei H=>?_)))))))));rintro _ _ ⟨fo,fG,rfl,rfl⟩;refine fz J (ro T 8 ?_)
 cases H;refine gq [7,6,5] J (gq [1,4,4] J (p1 T J [4,0] ⟨(List.flatten [(cl db 135 [(pp oG),(pp qQ),(pp B0),(pp b4),(uu v3.bJ),(uu v3.bK),(uu v3.bH),(uu v3.bF),(uu v3.bU),(uu v3.bO)]),fo,(List.flatten [dO,fx,eP])]),(show gT (cF.mk (some (fe.mk Al Io Ll)) ei v3) db (List.flatten [(cl db 135 [(pp oG),(pp qQ),(pp B0),(pp b4),(uu v3.bJ),(uu v3.bK),(uu v3.bH),(uu v3.bF),(uu v3.bU),(uu v3.bO)]),fo,(List.flatten [dO,fx,eP])]) from⟨b4,fo,(pp oG),(pp qQ),(pp B0),(List.flatten [dO,fx,eP]),fG,(show vA (some (fe.mk Al Io Ll)) (pp oG) (pp qQ) (pp B0) (List.flatten [dO,fx,eP]) from⟨oG,dO,qQ,fx,B0,eP,dW,eK,fF,J,J,J,J⟩),J⟩),J,J⟩ J))
def x_.f (n:cF):Option cF:=(pU.f n.hZ).bind λv1=>dF n.core ((HB.f).bind λv3=>some (cF.mk none v1 n.aU)) (λx2=>(A'.f x2.kO x2.jq x2.aL).bind λv4=>some (cF.mk (some (fe.mk x2.aL x2.jq v4)) v1 n.aU))
def x_.R (tl:Nat) (r:cF):bk:=λu G=> ∃(H0:Hp),gT r tl H0/\u=(.tuple #[])/\G=[H0]
theorem x_.c (H:x_.f n=some r) (jd:gT n db jh):
 QR 85 [(pp db)] [jh] [] F (x_.R db r):=by
 unfold x_.f at H;refine aG Tryz.func85 J J (λW=>rc T 6 (nL J (rc T 1 ?_)));obtain⟨b3,H3,vr,PB,PC,H4,s3,s4,cI⟩:=(λx=>x) jd;refine bX 0 (congrArg some cI) (fz J (rc T 4 (lf T 1 J (kr (pU.R b3) [] [2] J MW H (pU.c · s3) (λv1 H=>?_)))));rintro _ _ ⟨H5,s5,rfl,rfl⟩;refine fz J (ro T 2 ?_);rcases q2:n.core with _ |x2
 ·replace H:=ff q2 H;rw[q2] at s4;obtain⟨rfl,rfl,rfl,rfl⟩:=s4;refine rc T 4 (lf T 1 J (k [] J Sq H (HB.c ·) (λv3 H=>ro T 1 (jk ?_))))
  cases H;refine aq J (gq [1,2,2] J (p1 T J [2,0] ⟨(List.flatten [(cl db 135 [(.pointer none),(.pointer none),(.pointer none),(pp b3),(uu n.aU.bJ),(uu n.aU.bK),(uu n.aU.bH),(uu n.aU.bF),(uu n.aU.bU),(uu n.aU.bO)]),H5,[]]),(show gT (cF.mk none v1 n.aU) db (List.flatten [(cl db 135 [(.pointer none),(.pointer none),(.pointer none),(pp b3),(uu n.aU.bJ),(uu n.aU.bK),(uu n.aU.bH),(uu n.aU.bF),(uu n.aU.bU),(uu n.aU.bO)]),H5,[]]) from⟨b3,H5,(.pointer none),(.pointer none),(.pointer none),[],s5,(show vA none (.pointer none) (.pointer none) (.pointer none) [] from⟨J,J,J,J⟩),J⟩),J,J⟩ J))
 replace H:=fg q2 H;rw[q2] at s4;obtain⟨b7,H7,b8,H8,b9,H9,s7,s8,s9,rfl,rfl,rfl,oK⟩:=s4;refine bX 2 (congrArg some oK) (fz J (rc T 4 (lf T 1 J (kr (A'.R b9 b8 b7) [4,3] [5,4,3] J Sq H (A'.c · s9 s8 s7) (λv4 H=>?_)))));rintro _ _ ⟨cE,cW,rfl,rfl⟩;refine fz J (ro T 1 (jk ?_))
 cases H;refine gq [5,4,3] J (gq [1,1,1] J (p1 T J [1,0] ⟨(List.flatten [(cl db 135 [(pp b7),(pp b8),(pp b9),(pp b3),(uu n.aU.bJ),(uu n.aU.bK),(uu n.aU.bH),(uu n.aU.bF),(uu n.aU.bU),(uu n.aU.bO)]),H5,(List.flatten [H7,H8,cE])]),(show gT (cF.mk (some (fe.mk x2.aL x2.jq v4)) v1 n.aU) db (List.flatten [(cl db 135 [(pp b7),(pp b8),(pp b9),(pp b3),(uu n.aU.bJ),(uu n.aU.bK),(uu n.aU.bH),(uu n.aU.bF),(uu n.aU.bU),(uu n.aU.bO)]),H5,(List.flatten [H7,H8,cE])]) from⟨b3,H5,(pp b7),(pp b8),(pp b9),(List.flatten [H7,H8,cE]),s5,(show vA (some (fe.mk x2.aL x2.jq v4)) (pp b7) (pp b8) (pp b9) (List.flatten [H7,H8,cE]) from⟨b7,H7,b8,H8,b9,cE,s7,s8,cW,J,J,J,J⟩),J⟩),J,J⟩ J))
def xZ.f (n:cF) (cell:Int) (cost:Int):Option (Int×cF):=dF n.core (none) (λx1=>(xw.f x1.aL cell cost).bind λv2=>some (v2.1,(cF.mk (some (fe.mk v2.2 x1.jq x1.kO)) n.hZ n.aU)))
def xZ.R (tl:Nat) (r:(Int×cF)):bk:=λu G=> ∃(H0:Hp),gT r.2 tl H0/\u=(ii r.1)/\G=[H0]
theorem xZ.c (H:xZ.f n cell cost=some r) (jd:gT n db jh):
 QR 120 [(pp db),(ii cell),(ii cost)] [jh] [] F (xZ.R db r):=by
 unfold xZ.f at H;refine aG Tryz.func120 J J (λW=>rc T 12 (e_ J (rc T 3 ?_)));obtain⟨b3,H3,vr,PB,PC,H4,s3,s4,cI⟩:=(λx=>x) jd;refine bX 0 (congrArg some cI) (fz J ?_);rcases q1:n.core with _ |x1
 ·replace H:=ff q1 H
  cases H
 replace H:=fg q1 H;rw[q1] at s4;obtain⟨b6,H6,b7,H7,b8,H8,s6,s7,s8,rfl,rfl,rfl,xy⟩:=s4;refine bX 3 (congrArg some xy) (fz J (rc T 4 (lf T 1 J (ro T 2 (kr (xw.R b6) [] [3] J abX H (xw.c · s6) (λv2 H=>?_))))));rintro _ _ ⟨H9,s9,rfl,rfl⟩;refine fz J (ro T 4 ?_)
 cases H;refine gq [5,3,3] J (gq [1,1,1] J (p1 T J [1,0] ⟨(List.flatten [(cl db 135 [(pp b6),(pp b7),(pp b8),(pp b3),(uu n.aU.bJ),(uu n.aU.bK),(uu n.aU.bH),(uu n.aU.bF),(uu n.aU.bU),(uu n.aU.bO)]),H3,(List.flatten [H9,H7,H8])]),(show gT (cF.mk (some (fe.mk v2.2 x1.jq x1.kO)) n.hZ n.aU) db (List.flatten [(cl db 135 [(pp b6),(pp b7),(pp b8),(pp b3),(uu n.aU.bJ),(uu n.aU.bK),(uu n.aU.bH),(uu n.aU.bF),(uu n.aU.bU),(uu n.aU.bO)]),H3,(List.flatten [H9,H7,H8])]) from⟨b3,H3,(pp b6),(pp b7),(pp b8),(List.flatten [H9,H7,H8]),s3,(show vA (some (fe.mk v2.2 x1.jq x1.kO)) (pp b6) (pp b7) (pp b8) (List.flatten [H9,H7,H8]) from⟨b6,H9,b7,H7,b8,H8,s9,s7,s8,J,J,J,J⟩),J⟩),J,J⟩ J))
def zI.f (n:cF):Option (Int×Int):=dF n.core (none) (λx1=>(iL.f x1.aL).bind λv2=>some (v2.1,v2.2))
theorem zI.c (H:zI.f n=some r) (jd:gT n db jh):
 QU 164 [(pp db)] [jh] F (.tuple #[(ii r.1),(ii r.2)]):=by
 unfold zI.f at H;refine aG Tryz.func164 J J (λW=>rc T 13 (e_ J (rc T 3 ?_)));obtain⟨b3,H3,vr,PB,PC,H4,s3,s4,cI⟩:=(λx=>x) jd;refine bX 0 (congrArg some cI) (fz J ?_);rcases q1:n.core with _ |x1
 ·replace H:=ff q1 H
  cases H
 replace H:=fg q1 H;rw[q1] at s4;obtain⟨b6,H6,b7,H7,b8,H8,s6,s7,s8,rfl,rfl,rfl,xy⟩:=s4;refine bX 3 (congrArg some xy) (fz J (rc T 4 (lf T 1 J (k [3] J uR H (iL.c · s6) (λv2 H=>ro T 7 ?_)))))
 cases H;refine cq [3,3,3] J xy (cq [1,1,1] J cI (p0 T J [1,0] J))
def rk.f (n:cF) (goal:Int) (bG:Int):Option (gp×Er×cF):=(dF n.core (some true) (λx3=>some false)).bind λx1=>if x1=true then((some (Er.wrap 222 [goal] (Er.dM 2))).bind λx4=>some ((gp.mk [] []),x4,n)) else(dF n.core (none) (λx6=>(l9.f x6.aL bG).bind λv7=>(i_.f x6.aL goal).bind λv8=>if((v8==0)||(!v7.2))=true then((some (Er.wrap 222 [goal] (Er.dM 3))).bind λx9=>some ((gp.mk [] []),x9,n)) else((yq.f x6.kO goal x6.jq x6.aL).bind λv11=>dF v11.1 ((A4.f x6.aL bG).bind λv12=>((qj.f x6.aL bG).bind λfQ=>(mP.f n.hZ goal bG fQ v7.1 v12).bind λox=>some (ox.1.ez,ox.1.cK,ox.2.1,ox.2.2)).bind λ(aO,a_,cA,dS)=>if(cA !=0)=true then((some (Er.wrap 222 [goal] (Er.dM 4))).bind λdG=>some ((gp.mk [] []),dG,(cF.mk (some (fe.mk x6.aL v11.2.2 v11.2.1)) dS n.aU))) else(some ((gp.mk aO a_),Er.nil,(cF.mk (some (fe.mk x6.aL v11.2.2 v11.2.1)) dS n.aU)))) (λAl=>(iN.f x6.aL Al bG).bind λv25=>((qj.f x6.aL bG).bind λv31=>(mP.f n.hZ goal bG v31 v7.1 v25).bind λv32=>some (v32.1.ez,v32.1.cK,v32.2.1,v32.2.2)).bind λ(j8,mm,nt,jg)=>if(nt !=0)=true then((some (Er.wrap 222 [goal] (Er.dM 4))).bind λwY=>some ((gp.mk [] []),wY,(cF.mk (some (fe.mk x6.aL v11.2.2 v11.2.1)) jg n.aU))) else(some ((gp.mk j8 mm),Er.nil,(cF.mk (some (fe.mk x6.aL v11.2.2 v11.2.1)) jg n.aU)))))))
def rk.R (el:Nat->Addr) (tl:Nat) (r:(gp×Er×cF)):bk:=λu G=> ∃(a0 n0 H0:_) (a1 n1 H1:_) (v2:Value) (H2:Hp) (H3:Hp),ak (Fl.int .i64) 3 r.1.ez a0 n0 H0/\ak (Fl.int .i64) 3 r.1.cK a1 n1 H1/\gm 414 el r.2.1 v2 H2/\gT r.2.2 tl H3/\u=(.tuple #[(.agg #[(ll a0 r.1.ez n0),(ll a1 r.1.cK n1)]),v2])/\G=[H0,H1,H2,H3]
theorem rk.c (H:rk.f n goal bG=some r) (hG:fK 414 fa gP el F) (jd:gT n db jh):
 QR 100 [(pp db),(ii goal),(ii bG)] [jh] [] F (rk.R el db r):=by
 unfold rk.f at H;refine aG Tryz.func100 J J (λW=>rc T 2 (nc T J (λb2=>fz J (ro T 4 (mq H [0,1,2,6] [1,0,0] (λz2 (x1:Bool)=>(x1=z2,[(21,(bb x1))],[])) J J (λz2 Z1 _=>?_) ?_)))))
 ·obtain⟨b4,H4,yH,E3,E4,H5,s4,s5,dA⟩:=(λx=>x) jd;refine bX 0 (congrArg some dA) (fz J ?_);rcases q2:n.core with _ |x3
  ·replace Z1:=ff q2 Z1;rw[q2] at s5;obtain⟨rfl,rfl,rfl,rfl⟩:=s5;refine rc T 7 (lf T 2 J (ro T 4 (cq [2,2,2] J dA (am _ [0,1,0] (oi Z1) J J))))
  replace Z1:=fg q2 Z1;rw[q2] at s5;obtain⟨b7,H7,b8,H8,b9,H9,s7,s8,s9,rfl,rfl,rfl,oK⟩:=s5;refine bX 4 (congrArg some oK) (fz J (rc T 7 (lf T 2 J (ro T 4 (cq [4,4,4] J oK (cq [2,2,2] J dA (am _ [0,1,0] (oi Z1) J J)))))))
 rintro _ x1 rfl H;refine cb J H (λH=>?_) (λH=>?_)
 ·refine mq H [6] [0,1,0] (λz5 (⟨x4,Lc,bZ⟩:Er×Value×Hp)=>(x4=z5/\gm 414 el x4 Lc bZ,[(7,Lc)],[bZ])) J J (λz5 Z4 _=>?_) ?_
  ·refine fz J (rz [] mix (bR bQ) (λhg pf=>ha T 6 [0,1] sz hg pf J (av 2 sz hg pf J (cC T J J J J (su (j:=0) J hG (g:=2) (by decide))) (ha T 4 [3] sz hg pf J (gM 4 6 ?_ ?_)))))
   ·refine nw T J (λjO=>fz J (an (so [0,0,0]) (gM 5 6 ?_ ?_)))
    ·refine aq J (gq [3,3] J (lN J (iq T J J J J) (an (so [0,0,0]) (ao 6 (je T 2 J (an (so [0,0,0]) (ha T 0 [7] (so [0,0,0]) hg pf J (ae (rx T 1 (am (_,_,_) [0,1,0,0] ⟨oi Z4,(qg oI)⟩ J J))))))))))
    refine je T 2 J (an (so [0,0,0]) (ao 5 (aq J (gq [3,3] J (lN J (iq T J J J J) (an (so [0,0,0]) (ha T 0 [7] (so [0,0,0]) hg pf J (ae (rx T 1 (am (_,_,_) [0,1,0,0] ⟨oi Z4,(qg oI)⟩ J J))))))))))
   refine je T 2 J (an sz (ao 4 (nw T J (λqQ=>fz J (an (so [0,0,0]) (ao 5 (aq J (gq [3,3] J (lN J (iq T J J J J) (an (so [0,0,0]) (ha T 0 [7] (so [0,0,0]) hg pf J (ae (rx T 1 (am (_,_,_) [0,1,0,0] ⟨oi Z4,(qg oI)⟩ J J))))))))))))))
  rintro _ ⟨x4,Lc,bZ⟩ ⟨rfl,bT⟩ H;refine rc T 2 ?_
  cases H;refine aq J (aq J (pb T J (.cT (j:=1) [nl,nl] J J J J J J J (.tmp J .nil)) [4,4,3,2,0] ⟨(_,_),none,0,[],none,0,[],Lc,bZ,jh,ak.nil,ak.nil,bT,jd,J,J⟩ J J))
 refine rc T 3 ?_;obtain⟨lp,mr,ajh,aji,ajj,jL,iv,hU,R6⟩:=(λx=>x) jd;refine bX 1 (congrArg some R6) (fz J ?_);rcases q5:n.core with _ |x6
 ·replace H:=ff q5 H
  cases H
 replace H:=fg q5 H;rw[q5] at hU;obtain⟨lr,ig,lv,pd,l6,Fb,jG,od,wH,rfl,rfl,rfl,Sb⟩:=hU;refine bX 4 (congrArg some Sb) (fz J (rc T 4 (lf T 2 J (ro T 1 (kr l9.R [4] [4] J St H (l9.c · jG) (λv7 H=>?_))))));rintro _ _ ⟨a28,n28,vu,ky,rfl,rfl⟩;refine fz J (ro T 3 (nc T J (λAB=>fz J (j5 T 8 J (ro T 9 (lf T 2 J (ro T 1 (k [7] J vX H (i_.c · jG) (λv8 H=>ro T 2 (go T [8,9,10] 44 [0,1,2,6,8] 47 J J J J J J J (ro T 2 (cb J H (λH=>?_) (λH=>?_)))))))))))))
 ·refine mq H [6] [0,0,0,4,1,1,0] (λmo (⟨x9,Le,rM⟩:Er×Value×Hp)=>(x9=mo/\gm 414 el x9 Le rM,[(7,Le)],[rM])) J J (λmo Z9 _=>?_) ?_
  ·refine ke [1,6] [0,0,0,0,0,0,1] J J (fz J (rz [] mix (bR bQ) (λhg pf=>ha T 6 [0,1] sz hg pf J (av 2 sz hg pf J (cC T J J J J (su (j:=0) J hG (g:=3) (by decide))) (ha T 4 [3] sz hg pf J (gM 4 6 ?_ ?_))))))
   ·refine nw T J (λZB=>fz J (an (so [0,0,0,0,0,0,0]) (gM 5 6 ?_ ?_)))
    ·refine aq J (gq [7,7] J (lN J (iq T J J J J) (an (so [0,0,0,0,0,0,0]) (ao 6 (je T 1 J (an (so [0,0,0,0,0,0,0]) (ha T 0 [7] (so [0,0,0,0,0,0,0]) hg pf J (ae (rx T 1 (am (_,_,_) [0,0,0,3,1,1,0,0] ⟨oi Z9,(qg oI)⟩ J J))))))))))
    refine je T 1 J (an (so [0,0,0,0,0,0,0]) (ao 5 (aq J (gq [7,7] J (lN J (iq T J J J J) (an (so [0,0,0,0,0,0,0]) (ha T 0 [7] (so [0,0,0,0,0,0,0]) hg pf J (ae (rx T 1 (am (_,_,_) [0,0,0,3,1,1,0,0] ⟨oi Z9,(qg oI)⟩ J J))))))))))
   refine je T 1 J (an sz (ao 4 (nw T J (λb36=>fz J (an (so [0,0,0,0,0,0,0]) (ao 5 (aq J (gq [7,7] J (lN J (iq T J J J J) (an (so [0,0,0,0,0,0,0]) (ha T 0 [7] (so [0,0,0,0,0,0,0]) hg pf J (ae (rx T 1 (am (_,_,_) [0,0,0,3,1,1,0,0] ⟨oi Z9,(qg oI)⟩ J J))))))))))))))
  rintro _ ⟨x9,Le,rM⟩ ⟨rfl,pQ⟩ H;refine rc T 2 ?_
  cases H;refine cq [3,3,3] J Sb (cq [2,2,3] J R6 (aq J (aq J (pb T J (.cT (j:=1) [nl,nl] J J J J J J J (.tmp J .nil)) [4,4,2,2,0] ⟨(_,_),none,0,[],none,0,[],Le,rM,jh,ak.nil,ak.nil,pQ,jd,J,J⟩ J J))))
 refine rc T 3 (ks [0,1,2,6,8] J (fz J (rq [] [0,0,0,0,2,2,2] J mix (bR bQ) (λhg pf=>ha T 10 [0,1,2] (so [0,0,0,0,2,2,2]) hg pf J (al T 3 2 (so [0,0,0,0,2,2,2]) hg pf J J J (ha T 6 [4,5,6] (so [0,0,0,0,2,2,2]) hg pf J (al T 7 2 (so [0,0,0,0,2,2,2]) hg pf J J J (ha T 3 [8,10] (so [0,0,0,0,2,2,2]) hg pf J (ao 9 (kR (yq.R l6 lv lr lv lr) [7] [5,4,5] J abS H (yq.c · wH od jG) (λv11 H=>?_)))))))))));rintro _ _ ⟨ajf,lK,gJ,ID,tV,rfl,rfl⟩;refine fz J ?_;rcases Ka:v11.1 with _ |Al
 ·replace H:=ff Ka H;rw[Ka] at ID;obtain⟨rfl,De⟩:=ID;refine an (so [0,0,0,0,0,3,0]) (ao 11 (kR A4.R [8] [8] J Su H (A4.c · jG) (λv12 H=>?_)));rintro _ _ ⟨a54,n54,H54,EI,rfl,rfl⟩;refine fz J (an (so [0,0,0,0,0,4,0]) (ha T 0 [12] (so [0,0,0,0,0,4,0]) hg pf J (ae (rx T 1 (mq H [1,6] [0,0,0,6,4,3] (λz17 (⟨aO,a_,cA,dS,LV,Fu,G9,Ix,Fv,n57,Iy,yO⟩:List Int×List Int×Int×ju×Nat×Option Addr×Nat×Hp×Option Addr×Nat×Hp×Hp)=>((aO,a_,cA,dS)=z17/\ak (Fl.int .i64) 3 aO Fu G9 Ix/\ak (Fl.int .i64) 3 a_ Fv n57 Iy/\sX dS lp yO,[(11,(pp LV)),(12,(ii cA))],[(cl LV 79 [(ll Fu aO G9),(ll Fv a_ n57)]),Ix,Iy,yO])) J J (λz17 bD _=>?_) ?_)))))
  ·refine ks [0,1,2,6,8,10] J (fz J (rz [14] mix (bR bQ) (λhg pf=>ha T 18 [0,1,2] sz hg pf J (al T 3 2 sz hg pf J J J (ha T 12 [4,5,6,7,8] sz hg pf J (al T 9 2 sz hg pf J J J (ha T 10 [10] sz hg pf J (av 12 sz hg pf J (gA T 5 J J J J J J J) (ha T 8 [13] sz hg pf J (gM 11 18 ?_ ?_))))))))))
   ·refine kh [9] J Ci bD (qj.c · jG) (λfQ bD=>an sz (gM 14 18 ?_ ?_))
    ·refine kR (mP.R lp) [] [3] J D9 bD (mP.c · iv (oO ky 3) ky.b_ (oO EI 7) EI.b_) (λox bD=>?_);rintro _ _ ⟨a59,n59,H59,a60,n60,H60,H61,s59,s60,s61,rfl,rfl⟩;refine fz J (an sl (hb T 15 sl hg pf J (hb T 16 sl hg pf J (hb T 17 sl hg pf J (ao 18 (nw T J (λb62=>fz J (an sl (ao 19 (je T 12 J (an sl (hb T 20 sl hg pf J (ae (rx T 1 (am (_,_,_,_,_,_,_,_,_,_,_,_) [0,0,0,5,3,2,6,3,3,3] ⟨oi bD,s59,s60,s61⟩ J J)))))))))))))))
    refine nw T J (λb63=>fz J (an (so [0,0,0,0,0,0,0,0,0,0]) (ao 14 (kR (mP.R lp) [] [3] J D9 bD (mP.c · iv (oO ky 3) ky.b_ (oO EI 7) EI.b_) (λv20 bD=>?_)))));rintro _ _ ⟨a64,n64,H64,a65,n65,H65,H66,s64,s65,s66,rfl,rfl⟩;refine fz J (an sl (hb T 15 sl hg pf J (hb T 16 sl hg pf J (hb T 17 sl hg pf J (ao 19 (je T 9 J (an sl (hb T 20 sl hg pf J (ae (rx T 1 (am (_,_,_,_,_,_,_,_,_,_,_,_) [0,0,0,5,3,2,3,3,3,3] ⟨oi bD,s64,s65,s66⟩ J J)))))))))))
   refine nw T J (λb67=>fz J (an (so [0,0,0,0,0,0,0,0,0,0]) (ao 11 (kh [9] J Ci bD (qj.c · jG) (λv21 bD=>an (so [0,0,0,0,0,0,0,0,0,0]) (ao 14 (kR (mP.R lp) [] [3] J D9 bD (mP.c · iv (oO ky 3) ky.b_ (oO EI 7) EI.b_) (λv22 bD=>?_))))))));rintro _ _ ⟨a68,n68,H68,a69,n69,H69,H70,s68,s69,s70,rfl,rfl⟩;refine fz J (an sl (hb T 15 sl hg pf J (hb T 16 sl hg pf J (hb T 17 sl hg pf J (ao 19 (je T 9 J (an sl (hb T 20 sl hg pf J (ae (rx T 1 (am (_,_,_,_,_,_,_,_,_,_,_,_) [0,0,0,5,3,2,3,3,3,3] ⟨oi bD,s68,s69,s70⟩ J J)))))))))))
  rintro _ ⟨aO,a_,cA,dS,LV,Fu,G9,Ix,Fv,n57,Iy,yO⟩ ⟨rfl,s56,s57,Wt⟩ H;refine rc T 7 (cb J H (λH=>?_) (λH=>?_))
  ·refine mq H [6] [0,0,0,0,0,0,3] (λz24 (⟨dG,Lg,Iz⟩:Er×Value×Hp)=>(dG=z24/\gm 414 el dG Lg Iz,[(7,Lg)],[Iz])) J J (λz24 s_ _=>?_) ?_
   ·refine fz J (rz [] mix (bR bQ) (λhg pf=>ha T 6 [0,1] sz hg pf J (av 2 sz hg pf J (cC T J J J J (su (j:=0) J hG (g:=4) (by decide))) (ha T 4 [3] sz hg pf J (gM 4 6 ?_ ?_)))))
    ·refine nw T J (λb72=>fz J (an (so [0,0,0,0,0,0,0,0,0,0]) (gM 5 6 ?_ ?_)))
     ·refine aq J (gq [10,10] J (lN J (iq T J J J J) (an (so [0,0,0,0,0,0,0,0,0,0]) (ao 6 (je T 1 J (an (so [0,0,0,0,0,0,0,0,0,0]) (ha T 0 [7] (so [0,0,0,0,0,0,0,0,0,0]) hg pf J (ae (rx T 1 (am (_,_,_) [0,0,0,0,0,0,3,3] ⟨oi s_,(qg oI)⟩ J J))))))))))
     refine je T 1 J (an (so [0,0,0,0,0,0,0,0,0,0]) (ao 5 (aq J (gq [10,10] J (lN J (iq T J J J J) (an (so [0,0,0,0,0,0,0,0,0,0]) (ha T 0 [7] (so [0,0,0,0,0,0,0,0,0,0]) hg pf J (ae (rx T 1 (am (_,_,_) [0,0,0,0,0,0,3,3] ⟨oi s_,(qg oI)⟩ J J))))))))))
    refine je T 1 J (an sz (ao 4 (nw T J (λb77=>fz J (an (so [0,0,0,0,0,0,0,0,0,0]) (ao 5 (aq J (gq [10,10] J (lN J (iq T J J J J) (an (so [0,0,0,0,0,0,0,0,0,0]) (ha T 0 [7] (so [0,0,0,0,0,0,0,0,0,0]) hg pf J (ae (rx T 1 (am (_,_,_) [0,0,0,0,0,0,3,3] ⟨oi s_,(qg oI)⟩ J J))))))))))))))
   rintro _ ⟨dG,Lg,Iz⟩ ⟨rfl,s71⟩ H;refine rc T 2 ?_
   cases H;refine gq [3,3,3] J (gq [2,2,3] J (aq J (aq J (pb T J (.cT (j:=1) [nl,nl] J J J J J J J (.tmp J .nil)) [4,4,2,2,0] ⟨(_,_),none,0,[],none,0,[],Lg,Iz,(List.flatten [(cl db 135 [(pp lr),(pp lv),(pp l6),(pp lp),(uu n.aU.bJ),(uu n.aU.bK),(uu n.aU.bH),(uu n.aU.bF),(uu n.aU.bU),(uu n.aU.bO)]),yO,(List.flatten [ig,gJ,lK])]),ak.nil,ak.nil,s71,(show gT (cF.mk (some (fe.mk x6.aL v11.2.2 v11.2.1)) dS n.aU) db (List.flatten [(cl db 135 [(pp lr),(pp lv),(pp l6),(pp lp),(uu n.aU.bJ),(uu n.aU.bK),(uu n.aU.bH),(uu n.aU.bF),(uu n.aU.bU),(uu n.aU.bO)]),yO,(List.flatten [ig,gJ,lK])]) from⟨lp,yO,(pp lr),(pp lv),(pp l6),(List.flatten [ig,gJ,lK]),Wt,(show vA (some (fe.mk x6.aL v11.2.2 v11.2.1)) (pp lr) (pp lv) (pp l6) (List.flatten [ig,gJ,lK]) from⟨lr,ig,lv,gJ,l6,lK,jG,tV,De,J,J,J,J⟩),J⟩),J,J⟩ J J))))
  refine rc T 4 (lm T 6 J (j5 T 1 J (ro T 4 ?_)))
  cases H;refine gq [3,3,3] J (gq [2,5,5] J (aq J (pb T J (.cT (j:=1) [(ll Fu aO G9),(ll Fv a_ n57)] J J J J J J J (.tmp J .nil)) [3,3,4,3,0] ⟨(_,_),Fu,G9,Ix,Fv,n57,Iy,.nilIface,[],(List.flatten [(cl db 135 [(pp lr),(pp lv),(pp l6),(pp lp),(uu n.aU.bJ),(uu n.aU.bK),(uu n.aU.bH),(uu n.aU.bF),(uu n.aU.bU),(uu n.aU.bO)]),yO,(List.flatten [ig,gJ,lK])]),s56,s57,uL,(show gT (cF.mk (some (fe.mk x6.aL v11.2.2 v11.2.1)) dS n.aU) db (List.flatten [(cl db 135 [(pp lr),(pp lv),(pp l6),(pp lp),(uu n.aU.bJ),(uu n.aU.bK),(uu n.aU.bH),(uu n.aU.bF),(uu n.aU.bU),(uu n.aU.bO)]),yO,(List.flatten [ig,gJ,lK])]) from⟨lp,yO,(pp lr),(pp lv),(pp l6),(List.flatten [ig,gJ,lK]),Wt,(show vA (some (fe.mk x6.aL v11.2.2 v11.2.1)) (pp lr) (pp lv) (pp l6) (List.flatten [ig,gJ,lK]) from⟨lr,ig,lv,gJ,l6,lK,jG,tV,De,J,J,J,J⟩),J⟩),J,J⟩ J J)))
 replace H:=fg Ka H;rw[Ka] at ID;obtain⟨wz,QH,Lx,n52,Lr,EH,rfl,R8⟩:=ID;have Ws:uw v11.2.1 l6 lv lr lK:=⟨(pp QH),_,(by rw[wz];exact⟨QH,Lx,n52,Lr,EH,J,J⟩),R8⟩
 obtain⟨XA,ML,MI⟩:=aew R8;refine bX 6 (congrArg some MI) (fz J (bX 9 (congrArg some ML) (fz J (an (so [0,0,0,0,0,2,0]) (ao 11 (kR iN.R [7,8,8] [7,8,8] J Su H (iN.c · jG EH) (λv25 H=>?_)))))));rintro _ _ ⟨a85,n85,H85,EJ,rfl,rfl⟩;refine fz J (an (so [0,0,0,0,0,4,0]) (ha T 0 [12] (so [0,0,0,0,0,4,0]) hg pf J (ae (rx T 1 (mq H [1,6] [0,0,0,6,3,3,4,4] (λXv (⟨j8,mm,nt,jg,LX,a87,G_,IA,Fw,Ha,IB,yP⟩:List Int×List Int×Int×ju×Nat×Option Addr×Nat×Hp×Option Addr×Nat×Hp×Hp)=>((j8,mm,nt,jg)=Xv/\ak (Fl.int .i64) 3 j8 a87 G_ IA/\ak (Fl.int .i64) 3 mm Fw Ha IB/\sX jg lp yP,[(11,(pp LX)),(12,(ii nt))],[(cl LX 79 [(ll a87 j8 G_),(ll Fw mm Ha)]),IA,IB,yP])) J J (λXv tf _=>?_) ?_)))))
 ·refine ks [0,1,2,6,8,10] J (fz J (rz [14] mix (bR bQ) (λhg pf=>ha T 18 [0,1,2] sz hg pf J (al T 3 2 sz hg pf J J J (ha T 12 [4,5,6,7,8] sz hg pf J (al T 9 2 sz hg pf J J J (ha T 10 [10] sz hg pf J (av 12 sz hg pf J (gA T 5 J J J J J J J) (ha T 8 [13] sz hg pf J (gM 11 18 ?_ ?_))))))))))
  ·refine kh [9] J Ci tf (qj.c · jG) (λv31 tf=>an sz (gM 14 18 ?_ ?_))
   ·refine kR (mP.R lp) [] [3] J D9 tf (mP.c · iv (oO ky 3) ky.b_ (oO EJ 7) EJ.b_) (λv32 tf=>?_);rintro _ _ ⟨a90,n90,H90,a91,n91,H91,H92,s90,s91,s92,rfl,rfl⟩;refine fz J (an sl (hb T 15 sl hg pf J (hb T 16 sl hg pf J (hb T 17 sl hg pf J (ao 18 (nw T J (λb93=>fz J (an sl (ao 19 (je T 14 J (an sl (hb T 20 sl hg pf J (ae (rx T 1 (am (_,_,_,_,_,_,_,_,_,_,_,_) [0,0,0,5,2,2,3,3,6,3,3,3] ⟨oi tf,s90,s91,s92⟩ J J)))))))))))))))
   refine nw T J (λb94=>fz J (an (so [0,0,0,0,0,0,0,0,0,0,0,0]) (ao 14 (kR (mP.R lp) [] [3] J D9 tf (mP.c · iv (oO ky 3) ky.b_ (oO EJ 7) EJ.b_) (λv33 tf=>?_)))));rintro _ _ ⟨a95,n95,H95,a96,n96,H96,H97,s95,s96,s97,rfl,rfl⟩;refine fz J (an sl (hb T 15 sl hg pf J (hb T 16 sl hg pf J (hb T 17 sl hg pf J (ao 19 (je T 11 J (an sl (hb T 20 sl hg pf J (ae (rx T 1 (am (_,_,_,_,_,_,_,_,_,_,_,_) [0,0,0,5,2,2,3,3,3,3,3,3] ⟨oi tf,s95,s96,s97⟩ J J)))))))))))
  refine nw T J (λb98=>fz J (an (so [0,0,0,0,0,0,0,0,0,0,0,0]) (ao 11 (kh [9] J Ci tf (qj.c · jG) (λPD tf=>an (so [0,0,0,0,0,0,0,0,0,0,0,0]) (ao 14 (kR (mP.R lp) [] [3] J D9 tf (mP.c · iv (oO ky 3) ky.b_ (oO EJ 7) EJ.b_) (λv35 tf=>?_))))))));rintro _ _ ⟨a99,n99,H99,aiR,n100,aiN,aiO,s99,ag9,ag_,rfl,rfl⟩;refine fz J (an sl (hb T 15 sl hg pf J (hb T 16 sl hg pf J (hb T 17 sl hg pf J (ao 19 (je T 11 J (an sl (hb T 20 sl hg pf J (ae (rx T 1 (am (_,_,_,_,_,_,_,_,_,_,_,_) [0,0,0,5,2,2,3,3,3,3,3,3] ⟨oi tf,s99,ag9,ag_⟩ J J)))))))))))
 rintro _ ⟨j8,mm,nt,jg,LX,a87,G_,IA,Fw,Ha,IB,yP⟩ ⟨rfl,s87,s88,Wu⟩ H;refine rc T 7 (cb J H (λH=>?_) (λH=>?_))
 ·refine mq H [6] [0,0,0,0,0,0,0,0,3] (λz37 (⟨wY,Lb,It⟩:Er×Value×Hp)=>(wY=z37/\gm 414 el wY Lb It,[(7,Lb)],[It])) J J (λz37 Lw _=>?_) ?_
  ·refine fz J (rz [] mix (bR bQ) (λhg pf=>ha T 6 [0,1] sz hg pf J (av 2 sz hg pf J (cC T J J J J (su (j:=0) J hG (g:=4) (by decide))) (ha T 4 [3] sz hg pf J (gM 4 6 ?_ ?_)))))
   ·refine nw T J (λaiS=>fz J (an (so [0,0,0,0,0,0,0,0,0,0,0,0]) (gM 5 6 ?_ ?_)))
    ·refine aq J (gq [12,12] J (lN J (iq T J J J J) (an (so [0,0,0,0,0,0,0,0,0,0,0,0]) (ao 6 (je T 1 J (an (so [0,0,0,0,0,0,0,0,0,0,0,0]) (ha T 0 [7] (so [0,0,0,0,0,0,0,0,0,0,0,0]) hg pf J (ae (rx T 1 (am (_,_,_) [0,0,0,0,0,0,0,0,3,3] ⟨oi Lw,(qg oI)⟩ J J))))))))))
    refine je T 1 J (an (so [0,0,0,0,0,0,0,0,0,0,0,0]) (ao 5 (aq J (gq [12,12] J (lN J (iq T J J J J) (an (so [0,0,0,0,0,0,0,0,0,0,0,0]) (ha T 0 [7] (so [0,0,0,0,0,0,0,0,0,0,0,0]) hg pf J (ae (rx T 1 (am (_,_,_) [0,0,0,0,0,0,0,0,3,3] ⟨oi Lw,(qg oI)⟩ J J))))))))))
   refine je T 1 J (an sz (ao 4 (nw T J (λaiT=>fz J (an (so [0,0,0,0,0,0,0,0,0,0,0,0]) (ao 5 (aq J (gq [12,12] J (lN J (iq T J J J J) (an (so [0,0,0,0,0,0,0,0,0,0,0,0]) (ha T 0 [7] (so [0,0,0,0,0,0,0,0,0,0,0,0]) hg pf J (ae (rx T 1 (am (_,_,_) [0,0,0,0,0,0,0,0,3,3] ⟨oi Lw,(qg oI)⟩ J J))))))))))))))
  rintro _ ⟨wY,Lb,It⟩ ⟨rfl,ag'⟩ H;refine rc T 2 ?_
  cases H;refine cq [6,6] J ML (cq [5,7] J MI (gq [3,3,5] J (gq [2,2,3] J (aq J (aq J (pb T J (.cT (j:=1) [nl,nl] J J J J J J J (.tmp J .nil)) [4,4,2,2,0] ⟨(_,_),none,0,[],none,0,[],Lb,It,(List.flatten [(cl db 135 [(pp lr),(pp lv),(pp l6),(pp lp),(uu n.aU.bJ),(uu n.aU.bK),(uu n.aU.bH),(uu n.aU.bF),(uu n.aU.bU),(uu n.aU.bO)]),yP,(List.flatten [ig,gJ,lK])]),ak.nil,ak.nil,ag',(show gT (cF.mk (some (fe.mk x6.aL v11.2.2 v11.2.1)) jg n.aU) db (List.flatten [(cl db 135 [(pp lr),(pp lv),(pp l6),(pp lp),(uu n.aU.bJ),(uu n.aU.bK),(uu n.aU.bH),(uu n.aU.bF),(uu n.aU.bU),(uu n.aU.bO)]),yP,(List.flatten [ig,gJ,lK])]) from⟨lp,yP,(pp lr),(pp lv),(pp l6),(List.flatten [ig,gJ,lK]),Wu,(show vA (some (fe.mk x6.aL v11.2.2 v11.2.1)) (pp lr) (pp lv) (pp l6) (List.flatten [ig,gJ,lK]) from⟨lr,ig,lv,gJ,l6,lK,jG,tV,Ws,J,J,J,J⟩),J⟩),J,J⟩ J J))))))
 refine rc T 4 (lm T 8 J (j5 T 1 J (ro T 4 ?_)))
 cases H;refine cq [6,6] J ML (cq [5,9] J MI (gq [3,3,7] J (gq [2,5,5] J (aq J (pb T J (.cT (j:=1) [(ll a87 j8 G_),(ll Fw mm Ha)] J J J J J J J (.tmp J .nil)) [3,3,4,3,0] ⟨(_,_),a87,G_,IA,Fw,Ha,IB,.nilIface,[],(List.flatten [(cl db 135 [(pp lr),(pp lv),(pp l6),(pp lp),(uu n.aU.bJ),(uu n.aU.bK),(uu n.aU.bH),(uu n.aU.bF),(uu n.aU.bU),(uu n.aU.bO)]),yP,(List.flatten [ig,gJ,lK])]),s87,s88,uL,(show gT (cF.mk (some (fe.mk x6.aL v11.2.2 v11.2.1)) jg n.aU) db (List.flatten [(cl db 135 [(pp lr),(pp lv),(pp l6),(pp lp),(uu n.aU.bJ),(uu n.aU.bK),(uu n.aU.bH),(uu n.aU.bF),(uu n.aU.bU),(uu n.aU.bO)]),yP,(List.flatten [ig,gJ,lK])]) from⟨lp,yP,(pp lr),(pp lv),(pp l6),(List.flatten [ig,gJ,lK]),Wu,(show vA (some (fe.mk x6.aL v11.2.2 v11.2.1)) (pp lr) (pp lv) (pp l6) (List.flatten [ig,gJ,lK]) from⟨lr,ig,lv,gJ,l6,lK,jG,tV,Ws,J,J,J,J⟩),J⟩),J,J⟩ J J)))))
def zK.f (n:cF) (goal:Int) (cell:Int):Option (Int×Int×Er×cF):=(zI.f n).bind λv1=>(gy.f v1.1 v1.2 cell).bind λv2=>(rk.f n goal v2).bind λv3=>if(!(Er.isNil v3.2.1))=true then(some (0,0,v3.2.1,v3.2.2)) else((rE.f v1.1 v1.2 cell).bind λv4=>if(0<=v4/\v4<(aa v3.1.ez:Int)) then(if(0<=v4/\v4<(aa v3.1.cK:Int)) then(some ((rd v3.1.ez v4),(rd v3.1.cK v4),Er.nil,v3.2.2)) else none) else none)
def zK.R (el:Nat->Addr) (tl:Nat) (r:(Int×Int×Er×cF)):bk:=λu G=> ∃(v0:Value) (H0:Hp) (H1:Hp),gm 414 el r.2.2.1 v0 H0/\gT r.2.2.2 tl H1/\u=(.tuple #[(ii r.1),(ii r.2.1),v0])/\G=[H0,H1]
theorem zK.c (H:zK.f n goal cell=some r) (hG:fK 414 fa gP el F) (jd:gT n db jh):
 QR 163 [(pp db),(ii goal),(ii cell)] [jh] [] F (zK.R el db r):=by
 unfold zK.f at H;refine aG Tryz.func163 J J (λW=>rc T 10 (k [0] J SF H (zI.c · jd) (λv1 H=>ro T 14 (k [] J sb H (gy.c ·) (λv2 H=>kr (rk.R el db) [] [0] J Sk H (rk.c · (dE hG (j:=0) J) jd) (λv3 H=>?_))))));rintro _ _ ⟨a2,n2,H2,a3,n3,H3,v4,H4,H5,s2,s3,s4,s5,rfl,rfl⟩;refine fz J (ro T 3 (nc T J (λb6=>fz J (j5 T 5 J (ro T 7 (bx J (DY T J J J (rZ s4 (j:=3) J)) (ro T 2 (cb J H (λH=>?_) (λH=>?_)))))))))
 ·refine rc T 10 ?_
  cases H;exact p1 T J [3,3,0] ⟨v4,H4,H5,s4,s5,J,J⟩ J
 refine rc T 7 (k [] J Gh H (rE.c ·) (λv4 H=>ro T 4 (dq mix aA (au T J (cw T 5 J J J (au T J ?_))))));obtain⟨c6,H⟩:=az H;obtain⟨q7,o7,e7⟩:=s2.r.addr c6.1 c6.2;refine bg J J J (cB T J J J J J e7 c6.1 c6.2) (bg J J J (cC T J J J J (fv (k:=(Fl.int .i64)) (oO s2 1) e7 c6 0 J)) (au T J (cw T 5 J J J (au T J ?_))));obtain⟨c7,H⟩:=az H;obtain⟨q8,o8,e8⟩:=s3.r.addr c7.1 c7.2;refine bg J J J (cB T J J J J J e8 c7.1 c7.2) (bg J J J (cC T J J J J (fv (k:=(Fl.int .i64)) (oO s3 2) e8 c7 0 J)) (au T J (au T J (au T J (cM (rx T 2 ?_))))))
 cases H;refine aq J (p1 T J [6,4,0] ⟨.nilIface,[],H5,uL,s5,J,J⟩ J)
def zL.f (err:Er):Option Int:=if(Er.isNil err)=true then(some 0) else((vP.f err (Er.dM 2)).bind λv1=>if v1=true then(some 4) else((vP.f err (Er.dM 3)).bind λv2=>if v2=true then(some 7) else(some 1)))
theorem zL.c (H:zL.f err=some r) (hG:fK 414 fa gP el F) (DX:lX 414 el err PE F):
 QU 101 [PE] [] F (ii r):=by
 unfold zL.f at H;refine aG Tryz.func101 J J (λW=>rc T 10 (bx J (Jn T J J J (F1 DX (j:=0) J)) (ro T 3 (cb J H (λH=>?_) (λH=>?_)))))
 ·refine rc T 8 ?_
  cases H;exact p0 T J [0] J
 refine rc T 3 (lg T J (su (j:=0) J hG (g:=2) (by decide)) (k [] J JL H (vP.c err (Er.dM 2) _ _ · (dE hG (j:=0) J) (F1 DX (j:=0) J) Jd) (λv1 H=>ro T 3 (cb J H (λH=>?_) (λH=>?_)))))
 ·refine rc T 8 ?_
  cases H;exact p0 T J [0] J
 refine rc T 3 (lg T J (su (j:=0) J hG (g:=3) (by decide)) (k [] J JL H (vP.c err (Er.dM 3) _ _ · (dE hG (j:=0) J) (F1 DX (j:=0) J) Jd) (λv2 H=>ro T 3 (cb J H (λH=>?_) (λH=>?_)))))
 ·refine rc T 8 ?_
  cases H;exact p0 T J [0] J
 refine rc T 9 ?_
 cases H;exact p0 T J [0] J
def yb.f (n:cF) (goal:Int) (cell:Int):Option (Int×Int×Int×cF):=(zK.f n goal cell).bind λv1=>(zL.f v1.2.2.1).bind λv2=>some (v1.1,v1.2.1,v2,v1.2.2.2)
def yb.R (el:Nat->Addr) (tl:Nat) (r:(Int×Int×Int×cF)):bk:=λu G=> ∃(H0:Hp),gT r.2.2.2 tl H0/\u=(.tuple #[(ii r.1),(ii r.2.1),(ii r.2.2.1)])/\G=[H0]
theorem yb.c (H:yb.f n goal cell=some r) (hG:fK 414 fa gP el F) (jd:gT n db jh):
 QR 127 [(pp db),(ii goal),(ii cell)] [jh] [] F (yb.R el db r):=by
 unfold yb.f at H;refine aG Tryz.func127 J J (λW=>rc T 12 (kr (zK.R el db) [] [0] J ab2 H (zK.c · (dE hG (j:=0) J) jd) (λv1 H=>?_)));rintro _ _ ⟨v2,H2,H3,s2,s3,rfl,rfl⟩;refine fz J (ro T 14 (k [] J Sl H (zL.c · (dE hG (j:=0) J) (rZ s2 (j:=1) J)) (λv2 H=>ro T 6 ?_)))
 cases H;exact p1 T J [2,0] ⟨H3,s3,J,J⟩ J
def vb.f (n:cF) (goal:Int) (bG:Int):Option (gp×Int×cF):=(rk.f n goal bG).bind λv1=>(zL.f v1.2.1).bind λv2=>some (v1.1,v2,v1.2.2)
def vb.R (el:Nat->Addr) (tl:Nat) (r:(gp×Int×cF)):bk:=λu G=> ∃(a0 n0 H0:_) (a1 n1 H1:_) (H2:Hp),ak (Fl.int .i64) 3 r.1.ez a0 n0 H0/\ak (Fl.int .i64) 3 r.1.cK a1 n1 H1/\gT r.2.2 tl H2/\u=(.tuple #[(.agg #[(ll a0 r.1.ez n0),(ll a1 r.1.cK n1)]),(ii r.2.1)])/\G=[H0,H1,H2]
theorem vb.c (H:vb.f n goal bG=some r) (hG:fK 414 fa gP el F) (jd:gT n db jh):
 QR 68 [(pp db),(ii goal),(ii bG)] [jh] [] F (vb.R el db r):=by
 unfold vb.f at H;refine aG Tryz.func68 J J (λW=>rc T 2 (nc T J (λb2=>fz J (ro T 8 (kr (rk.R el db) [] [0] J Sk H (rk.c · (dE hG (j:=0) J) jd) (λv1 H=>?_))))));rintro _ _ ⟨a3,n3,H3,a4,n4,H4,v5,H5,H6,s3,s4,s5,s6,rfl,rfl⟩;refine fz J (ro T 3 (nc T J (λb7=>fz J (j5 T 6 J (ro T 4 (ks [6,8,9] J (fz J (rz [3] mix (bR bQ) (λhg pf=>av 0 sz hg pf J (gA T 6 J J J J J J J) (ha T 3 [1] sz hg pf J (ao 2 (kh [] J Sl H (zL.c · (dE hG (j:=0) J) (rZ s5 (j:=4) J)) (λv2 H=>an sz (ao 3 (je T 1 J (an sl (hb T 4 sl hg pf J (ae (rx T 2 ?_)))))))))))))))))))
 cases H;exact pb T J (.cT (j:=1) [(ll a3 v1.1.ez n3),(ll a4 v1.1.cK n4)] J J J J J J J (.tmp J .nil)) [2,2,3,0] ⟨(_,_),a3,n3,H3,a4,n4,H4,H6,s3,s4,s6,J,J⟩ J J
def CO.f (n:cF):Option gL:=(zJ.f n).bind λv1=>(mT.f n.aU v1).bind λv2=>(EO.f n.hZ).bind λv3=>(mT.f v2 v3).bind λv4=>some v4
theorem CO.c (H:CO.f n=some r) (jd:gT n db jh):
 QU 52 [(pp db)] [jh] F (.agg #[(uu r.bJ),(uu r.bK),(uu r.bH),(uu r.bF),(uu r.bU),(uu r.bO)]):=by
 unfold CO.f at H;refine aG Tryz.func52 J J (λW=>rc T 2 (nc T J (λb2=>fz J (ro T 9 (e_ J (rc T 3 ?_))))));obtain⟨b4,H4,yH,E3,E4,H5,s4,s5,dA⟩:=(λx=>x) jd;refine bX 0 (congrArg some dA) (fz J (ks [0,2] J (fz J (rz [13] mix (bR bQ) (λhg pf=>ha T 11 [0,1,2] sz hg pf J (av 3 sz hg pf J (gA T 2 J J J J J J J) (ha T 6 [4,7,8,9] sz hg pf J (al T 10 2 sz hg pf J J J (ao 5 ?_)))))))));obtain⟨v1,V1,H⟩:=gu H;refine IY (As:=[(cl db 135 [yH,E3,E4,(pp b4),(uu n.aU.bJ),(uu n.aU.bK),(uu n.aU.bH),(uu n.aU.bF),(uu n.aU.bU),(uu n.aU.bO)]),H4,H5]) [2,2,2] J J J J Ti J J (I9 (A:=[jh]) (by simp only[dA,vC,vB,vD,sY,uz]) (zJ.c V1 jd)) (an sz (ao 6 (kh [] J Ni H (mT.c ·) (λv2 H=>an sz (ao 11 (kh [3] J adB H (EO.c · s4) (λv3 H=>an sz (ao 12 (kh [] J Ni H (mT.c ·) (λv4 H=>an sz (ao 13 (je T 1 J (an sl (ae (rx T 2 ?_)))))))))))))))
 cases H;refine cq [2,2,2] J dA (pb T J (.cT (j:=1) [(uu r.bJ),(uu r.bK),(uu r.bH),(uu r.bF),(uu r.bU),(uu r.bO)] J J J J J J J .nil) [2,0] () J J)
def yc.f (n:cF):Option aF:=dF n.core ((AP.f).bind λv2=>some v2) (λx1=>(xx.f x1.aL).bind λv3=>some v3)
def yc.R (r:aF):bk:=λu G=> ∃a0 n0 H0,ak (Fl.int .u8) 5 r.C a0 n0 H0/\u=(.agg #[(ii r.W),(ii r.H),(ll a0 r.C n0)])/\G=[H0]
theorem yc.c (H:yc.f n=some r) (jd:gT n db jh):
 QR 43 [(pp db)] [jh] [jh] F (yc.R r):=by
 unfold yc.f at H;refine aG Tryz.func43 J J (λW=>rc T 2 (nc T J (λb2=>fz J (ro T 9 (e_ J (rc T 3 ?_))))));obtain⟨b4,H4,yH,E3,E4,H5,s4,s5,dA⟩:=(λx=>x) jd;refine bX 0 (congrArg some dA) (fz J ?_);rcases q1:n.core with _ |x1
 ·replace H:=ff q1 H;rw[q1] at s5;obtain⟨rfl,rfl,rfl,rfl⟩:=s5;refine rc T 4 (lf T 2 J (kr AP.R [] [] J Th H (AP.c ·) (λv2 H=>?_)));rintro _ _ ⟨cz,n10,bZ,bT,rfl,rfl⟩;refine fz J (j5 T 1 J (ro T 3 ?_))
  cases H;refine cq [2,2,2] J dA (pb T J (.cT (j:=1) [(ii r.W),(ii r.H),(ll cz r.C n10)] J J J J J J J .nil) [2,2,0] ⟨(_,_),cz,n10,bZ,bT,J,J⟩ J J)
 replace H:=fg q1 H;rw[q1] at s5;obtain⟨b7,H7,b8,H8,b9,H9,s7,s8,s9,rfl,rfl,rfl,oK⟩:=s5;refine bX 4 (congrArg some oK) (fz J (rc T 4 (lf T 2 J (kr xx.R [4] [4] J Th H (xx.c · s7) (λv3 H=>?_)))));rintro _ _ ⟨de,n11,cE,cW,rfl,rfl⟩;refine fz J (j5 T 1 J (ro T 3 ?_))
 cases H;refine cq [7,4,4] J oK (cq [2,2,3] J dA (pb T J (.cT (j:=1) [(ii r.W),(ii r.H),(ll de r.C n11)] J J J J J J J .nil) [2,2,0] ⟨(_,_),de,n11,cE,cW,J,J⟩ J J))
end
noncomputable section
def pM.f (kind:Int):Option (A7×Bool):=if(kind==1)=true then(some ((A7.mk 0 0 true),true)) else(if(kind==2)=true then(some ((A7.mk 4 1 false),true)) else((if(kind==3)=true then(some (kind==3)) else(if(kind==4)=true then(some (kind==4)) else(some (kind==6)))).bind λx1=>if x1=true then(some ((A7.mk 4 4 false),true)) else(if(kind==5)=true then(some ((A7.mk 4 0 false),true)) else((if(kind==7)=true then(some (kind==7)) else(some (kind==8))).bind λx3=>if x3=true then(some ((A7.mk 0 0 false),true)) else(some ((A7.mk 0 0 false),false))))))
theorem pM.c (H:pM.f kind=some r):
 QU 111 [(ii kind)] [] F (.tuple #[(.agg #[(ii r.1.a),(ii r.1.b),(bb r.1.load)]),(bb r.2)]):=by
 unfold pM.f at H;refine aG Tryz.func111 J J (λW=>rc T 2 (nc T J (λb1=>ro T 5 (nc T J (λb2=>ro T 29 (cb J H (λH=>?_) (λH=>?_)))))))
 ·refine rc T 8 (sg T 2 J (ro T 1 (ks [2,4] J (rx T 16 (lm T 2 J (sg T 1 J (ro T 1 (ro T 3 ?_))))))))
  cases H;exact pb T J (.cT (j:=1) [(ii 0),(ii 0),(bb true)] J J J J J J J (.tmp J .nil)) [0] () J J
 refine rc T 9 (cb J H (λH=>?_) (λH=>?_))
 ·refine rc T 10 (sg T 2 J (ro T 1 (sg T 2 J (ro T 1 (ks [2,4] J (rx T 14 (lm T 2 J (sg T 1 J (ro T 4 ?_)))))))))
  cases H;exact pb T J (.cT (j:=1) [(ii 4),(ii 1),(bb false)] J J J J J J J (.tmp J .nil)) [0] () J J
 refine rc T 3 (mq H [2,4,5] [0,0,0] (λz2 (x1:Bool)=>(x1=z2,[(10,(bb x1))],[])) J J (λz2 Z3 _=>?_) ?_)
 ·refine rc T 6 (cb J Z3 (λZ3=>?_) (λZ3=>?_))
  ·refine rc T 2 (am _ [0,0,0] (oi Z3) J J)
  refine rc T 6 (cb J Z3 (λZ3=>?_) (λZ3=>?_))
  ·refine rc T 2 (am _ [0,0,0] (oi Z3) J J)
  refine rc T 5 (am _ [0,0,0] (oi Z3) J J)
 rintro _ x1 rfl H;refine cb J H (λH=>?_) (λH=>?_)
 ·refine rc T 11 (sg T 2 J (ro T 5 (sg T 2 J (ro T 10 (lm T 2 J (sg T 1 J (ro T 1 (ro T 1 (ke [2,3] [0,0] J J (rx T 2 ?_))))))))))
  cases H;exact pb T J (.cT (j:=1) [(ii 4),(ii 4),(bb false)] J J J J J J J (.tmp J .nil)) [0] () J J
 refine rc T 9 (cb J H (λH=>?_) (λH=>?_))
 ·refine rc T 13 (sg T 2 J (ro T 10 (lm T 2 J (sg T 1 J (ro T 4 ?_)))))
  cases H;exact pb T J (.cT (j:=1) [(ii 4),(ii 0),(bb false)] J J J J J J J (.tmp J .nil)) [0] () J J
 refine rc T 2 (mq H [2,4] [0,0,0] (λz4 (x3:Bool)=>(x3=z4,[(16,(bb x3))],[])) J J (λz4 Z8 _=>?_) ?_)
 ·refine rc T 6 (cb J Z8 (λZ8=>?_) (λZ8=>?_))
  ·refine rc T 2 (am _ [0,0,0] (oi Z8) J J)
  refine rc T 5 (am _ [0,0,0] (oi Z8) J J)
 rintro _ x3 rfl H;refine cb J H (λH=>?_) (λH=>?_)
 ·refine rc T 19 (lm T 2 J (sg T 1 J (ro T 4 ?_)))
  cases H;exact pb T J (.cT (j:=1) [(ii 0),(ii 0),(bb false)] J J J J J J J (.tmp J .nil)) [0] () J J
 refine rc T 19 (sg T 1 J (ro T 7 ?_))
 cases H;exact pb T J (.cT (j:=1) [(ii 0),(ii 0),(bb false)] J J J J J J J (.tmp J .nil)) [0] () J J
def rl.l0:Nat->(List Int)->Int->Int->Option Int
 |0,_,_,_=>none
 |k5+1,b,x3,x4=>if x4<(aa b:Int) then(if(0<=x4/\x4<(aa b:Int)) then(if(0<=(af (8*x4))) then(rl.l0 k5 b (af (fX (cg (IntKind.bits .i64) x3|||cg (IntKind.bits .i64) (af ((af (rd b x4))*(2^(min (ax (af (8*x4))) (IntKind.bits .i64)))))))) (af (x4+1))) else none) else none) else(some x3)
def rl.f (b:(List Int)):Option Int:=rl.l0 fuel b 0 0
theorem rl.c (H:rl.f b=some r) (ir:aP (Fl.int .u8) b ki F) (gF:aa b<=jV):
 QU 190 [(ll ki b jV)] [] F (ii r):=by
 unfold rl.f at H;refine aG Tryz.func190 J J (λW=>rc T 19 (lq [6,7] [0] (λ(⟨k5,x3,x4⟩:Nat×Int×Int)=>(rl.l0 k5 b x3 x4=some r,[(3,(ii x3)),(8,(ii x4))],[])) J J (fuel,0,0) [0] H J J ?_));rintro k5 ⟨x3,x4⟩ Z1;replace Z1:rl.l0 (k5+1) b x3 x4=some r:=Z1;rw[rl.l0] at Z1;refine rc T 6 (cd J Z1 (λZ1=>?_) (λZ1=>?_))
 ·refine rc T 7 ?_;obtain⟨c3,Z1⟩:=az Z1;obtain⟨q1,o1,e1⟩:=ir.addr c3.1 c3.2;refine ix T J e1 c3 (le T 0 (rO ir 0) e1 c3 J J (ro T 10 ?_));obtain⟨c4,Z1⟩:=az Z1;refine bx J (RR J J J c4) (ro T 10 (ar (_,_) [0] Z1 J J))
 refine rc T 12 ?_
 cases Z1;exact p0 T J [0] J
def A6.f (b:(List Int)):Option (dL×Int):=if(0<=(0:Int)/\(0:Int)<(aa b:Int)) then(if(0<=(1:Int)/\(1:Int)<=(aa b:Int)/\(aa b:Int)<=(aa b:Int)) then((pM.f (af (rd b 0))).bind λv1=>if(!v1.2)=true then(some ((dL.mk 0 (af (rd b 0)) 0 []),1)) else(if v1.1.load=true then(if(aa (aB b 1 (aa b:Int)):Int)<4 then(some ((dL.mk 0 0 0 []),0)) else(if(0<=(0:Int)/\(0:Int)<=(4:Int)/\(4:Int)<=(aa (aB b 1 (aa b:Int)):Int)) then((rl.f (aB (aB b 1 (aa b:Int)) 0 4)).bind λv2=>if(af ((aa (aB b 1 (aa b:Int)):Int)-4))<v2 then(some ((dL.mk 0 0 0 []),0)) else(if(0<=(4:Int)/\(4:Int)<=(af (4+v2))/\(af (4+v2))<=(aa (aB b 1 (aa b:Int)):Int)) then(if(aa ([]:List Int)+aa (aB (aB b 1 (aa b:Int)) 4 (af (4+v2)))<=1099511627776) then(some ((dL.mk (af (rd b 0)) 0 0 ([]++(aB (aB b 1 (aa b:Int)) 4 (af (4+v2))))),(af (5+v2)))) else none) else none)) else none)) else(if(aa (aB b 1 (aa b:Int)):Int)<(af (v1.1.a+v1.1.b)) then(some ((dL.mk 0 0 0 []),0)) else(if(0<=(0:Int)/\(0:Int)<=v1.1.a/\v1.1.a<=(aa (aB b 1 (aa b:Int)):Int)) then(if(0<=v1.1.a/\v1.1.a<=(af (v1.1.a+v1.1.b))/\(af (v1.1.a+v1.1.b))<=(aa (aB b 1 (aa b:Int)):Int)) then((rl.f (aB (aB b 1 (aa b:Int)) 0 v1.1.a)).bind λv3=>(rl.f (aB (aB b 1 (aa b:Int)) v1.1.a (af (v1.1.a+v1.1.b)))).bind λv4=>some ((dL.mk (af (rd b 0)) v3 v4 []),(af ((af (1+v1.1.a))+v1.1.b)))) else none) else none)))) else none) else none
def A6.R (r:(dL×Int)):bk:=λu G=> ∃a0 n0 H0,ak (Fl.int .u8) 5 r.1.Map a0 n0 H0/\u=(.tuple #[(.agg #[(ii r.1.Kind),(ii r.1.A),(ii r.1.B),(ll a0 r.1.Map n0)]),(ii r.2)])/\G=[H0]
theorem A6.c (H:A6.f b=some r) (ir:aP (Fl.int .u8) b ki F) (gF:aa b<=jV):
 QR 146 [(ll ki b jV)] [] [] F (A6.R r):=by
 unfold A6.f at H;refine aG Tryz.func146 J J (λW=>rc T 2 (nc T J (λb1=>ro T 4 (dq mix aA (au T J ?_)))));obtain⟨c1,H⟩:=az H;obtain⟨q2,o2,e2⟩:=ir.addr c1.1 c1.2;refine bg J J J (cB T J J J J J e2 c1.1 c1.2) (bg J J J (cC T J J J J (fv (k:=(Fl.int .u8)) (rO ir 0) e2 c1 0 J)) (au T J (au T J ?_)));obtain⟨c2,H⟩:=az H;refine bg J J J (kP T J J J J J J c2 gF) (au T J (au T J (cM (rx T 4 (k [] J MU H (pM.c ·) (λv1 H=>ro T 3 (nc T J (λb3=>sg T 2 J (ro T 10 (cb J H (λH=>?_) (λH=>?_)))))))))))
 ·refine rc T 4 (sg T 1 J (ro T 2 (ke [2,3] [0,0] J J (rx T 3 ?_))))
  cases H;refine bA (pb T J (.cT (j:=1) [(ii 0),(ii (af (rd b 0))),(ii 0),nl] J J J J J J J (.tmp J .nil)) [2,0] ⟨(_,_),none,0,[],ak.nil,J,J⟩ J J)
 refine rc T 6 (lf T 2 J (ro T 2 (cb J H (λH=>?_) (λH=>?_))))
 ·refine rc T 8 (cd J H (λH=>?_) (λH=>?_))
  ·refine rc T 3 (sg T 1 J (ro T 6 ?_))
   cases H;refine bA (pb T J (.cT (j:=1) [(ii 0),(ii 0),(ii 0),nl] J J J J J J J (.tmp J .nil)) [3,0] ⟨(_,_),none,0,[],ak.nil,J,J⟩ J J)
  refine rc T 5 ?_;obtain⟨c7,H⟩:=az H;refine bx J (kP T J J J J J J c7 (mS c2 gF)) (k [] J M0 H (rl.c · (nq (nq (rO ir 0) c2 gF) c7 (mS c2 gF)) (mS c7 (mS c2 gF))) (λv2 H=>ro T 13 (cd J H (λH=>?_) (λH=>?_))))
  ·refine rc T 3 (sg T 1 J (ro T 6 ?_))
   cases H;refine bA (pb T J (.cT (j:=1) [(ii 0),(ii 0),(ii 0),nl] J J J J J J J (.tmp J .nil)) [3,0] ⟨(_,_),none,0,[],ak.nil,J,J⟩ J J)
  refine rc T 8 ?_;obtain⟨iK,H⟩:=az H;refine bx J (kP T J J J J J J iK (mS c2 gF)) (bA ?_);obtain⟨di,H⟩:=az H;refine aV (eF (k:=(Fl.int .u8)) (xs:=([]:List Int)) T (g:=3) J J J J J J J J J J ak.nil (nq (nq (rO ir 0) c2 gF) iK (mS c2 gF)) di J (λa8 n8 H8 s8=>ro T 3 (sg T 1 J (ro T 2 (ke [2,3] [0,0,1] J J (rx T 3 ?_))))))
  cases H;exact pb T J (.cT (j:=1) [(ii (af (rd b 0))),(ii 0),(ii 0),(ll a8 ([]++(aB (aB b 1 (aa b:Int)) 4 (af (4+v2)))) n8)] J J J J J J J (.tmp J .nil)) [2,0] ⟨(_,_),a8,n8,H8,s8,J,J⟩ J J
 refine rc T 8 (lf T 2 J (ro T 1 (lf T 2 J (ro T 4 (cd J H (λH=>?_) (λH=>?_))))))
 ·refine rc T 3 (sg T 1 J (ro T 5 ?_))
  cases H;refine bA (pb T J (.cT (j:=1) [(ii 0),(ii 0),(ii 0),nl] J J J J J J J (.tmp J .nil)) [3,0] ⟨(_,_),none,0,[],ak.nil,J,J⟩ J J)
 refine rc T 3 (ks [2,4,5,6] J (fz J (rg [] [0,1] mix (bR bQ) (λhg pf=>ha T 22 [0,1,2] (so [0,1]) hg pf J (al T 3 1 (so [0,1]) hg pf J J J ?_)))));obtain⟨jl,H⟩:=az H;refine av 4 (so [0,1]) hg pf J (kP T J J J J J J jl (mS c2 gF)) (ha T 18 [6,7] (so [0,1]) hg pf J (al T 8 1 (so [0,1]) hg pf J J J (ha T 16 [9] (so [0,1]) hg pf J (al T 10 1 (so [0,1]) hg pf J J J (ha T 14 [11] (so [0,1]) hg pf J (al T 12 1 (so [0,1]) hg pf J J J (ha T 12 [13] (so [0,1]) hg pf J ?_)))))));obtain⟨pt,H⟩:=az H;refine av 14 (so [0,1]) hg pf J (kP T J J J J J J pt (mS c2 gF)) (ha T 10 [17] (so [0,1]) hg pf J (al T 18 1 (so [0,1]) hg pf J J J (ha T 7 [19,20] (so [0,1]) hg pf J (al T 21 1 (so [0,1]) hg pf J J J (ha T 5 [22] (so [0,1]) hg pf J (ao 5 (kh [] J M0 H (rl.c · (nq (nq (rO ir 0) c2 gF) jl (mS c2 gF)) (mS jl (mS c2 gF))) (λv3 H=>an (so [0,1]) (ao 15 (kh [] J M0 H (rl.c · (nq (nq (rO ir 0) c2 gF) pt (mS c2 gF)) (mS pt (mS c2 gF))) (λv4 H=>an (so [0,1]) (ha T 2 [16] (so [0,1]) hg pf J (ao 23 (sf T 1 J (an (so [0,1]) (ha T 0 [24] (so [0,1]) hg pf J (ae (rx T 1 (rc T 1 ?_)))))))))))))))))))
 cases H;refine bA (pb T J (.cT (j:=1) [(ii (af (rd b 0))),(ii v3),(ii v4),nl] J J J J J J J (.tmp J .nil)) [3,0] ⟨(_,_),none,0,[],ak.nil,J,J⟩ J J)
def Hg.f (b:(List Int)):Option Bool:=if((aa b:Int)==0)=true then(some false) else((A6.f b).bind λv1=>some (v1.2==0))
theorem Hg.c (H:Hg.f b=some r) (ir:aP (Fl.int .u8) b ki F) (gF:aa b<=jV):
 QU 110 [(ll ki b jV)] [] F (bb r):=by
 unfold Hg.f at H;refine aG Tryz.func110 J J (λW=>rc T 13 (cb J H (λH=>?_) (λH=>?_)))
 ·refine rc T 7 ?_
  cases H;exact p0 T J [0] J
 refine rc T 5 (kr A6.R [] [] J abT H (A6.c · (rO ir 0) gF) (λv1 H=>?_));rintro _ _ ⟨a1,n1,H1,s1,rfl,rfl⟩;refine fz J (ro T 3 (nc T J (λb2=>sg T 2 J (ro T 11 ?_))))
 cases H;exact p0 T J [0] J
def sC.f (n:Int) (ai:Int):Option Bool:=if n≥0 then(if(0<=(af (8*ai))) then(some (decide (n<(af (1*(2^(min (ax (af (8*ai))) (IntKind.bits .i64)))))))) else none) else(some false)
theorem sC.c (H:sC.f n ai=some r):
 QU 112 [(ii n),(ii ai)] [] F (bb r):=by
 unfold sC.f at H;refine aG Tryz.func112 J J (λW=>rc T 10 (ad 7 J H (λH=>?_) (λH=>?_)))
 ·refine ro T 3 ?_;obtain⟨c2,H⟩:=az H;refine bx J (RR J J J c2) (ro T 6 ?_)
  cases H;exact p0 T J [0] J
 refine ro T 10 ?_
 cases H;exact p0 T J [0] J
def CV.f (o:dL):Option Bool:=if(o.Kind==0)=true then(if(o.A==(-1))=true then((if(o.B==0)=true then((Hg.f o.Map).bind λv3=>some v3) else(some false)).bind λx1=>some x1) else((pM.f o.A).bind λv4=>((sC.f o.A 1).bind λv7=>if(v7&&(!v4.2))=true then(if(o.B==0)=true then(some ((aa o.Map:Int)==0)) else(some false)) else(some false)).bind λx5=>some x5)) else((pM.f o.Kind).bind λv8=>(if v8.2=true then((sC.f o.A v8.1.a).bind λv11=>if v11=true then((sC.f o.B v8.1.b).bind λv12=>if v12=true then(if((aa o.Map:Int)==0)=true then(some true) else(if v8.1.load=true then(some (decide ((aa o.Map:Int)<=4294967295))) else(some false))) else(some false)) else(some false)) else(some false)).bind λx9=>some x9)
theorem CV.c (H:CV.f o=some r) (AQ:aP (Fl.int .u8) o.Map BT F) (AG:aa o.Map<=CM):
 QU 82 [(.agg #[(ii o.Kind),(ii o.A),(ii o.B),(ll BT o.Map CM)])] [] F (bb r):=by
 unfold CV.f at H;refine aG Tryz.func82 J J (λW=>rc T 2 (nc T J (λb1=>ro T 7 (lf T 1 J (ro T 3 (cb J H (λH=>?_) (λH=>?_)))))))
 ·refine rc T 4 (lf T 1 J (ro T 3 (cb J H (λH=>?_) (λH=>?_))))
  ·refine mq H [] [0] (λz2 (x1:Bool)=>(x1=z2,[(2,(bb x1))],[])) J J (λz2 Z3 _=>?_) ?_
   ·refine rc T 2 (lf T 1 J (ro T 2 (ab 16 J Z3 (λZ3=>?_) (λZ3=>?_))))
    ·refine ro T 1 (lf T 1 J (k [] J abG Z3 (Hg.c · (rO AQ 0) AG) (λv3 Z3=>ro T 4 (am _ [0] (oi Z3) J J))))
    refine ro T 7 (am _ [0] (oi Z3) J J)
   rintro _ x1 rfl H;refine rc T 3 ?_
   cases H;exact p0 T J [0] J
  refine rc T 5 (lf T 1 J (k [] J MU H (pM.c ·) (λv4 H=>ro T 3 (nc T J (λb2=>sg T 2 J (ro T 3 (mq H [] [0] (λz6 (x5:Bool)=>(x5=z6,[(2,(bb x5))],[])) J J (λz6 Z7 _=>?_) ?_)))))))
  ·refine rc T 2 (lf T 1 J (k [] J MV Z7 (sC.c ·) (λv7 Z7=>ro T 1 (ga T [4,5,6] 30 [1] 33 J J J J J J J (ro T 1 (ab 34 J Z7 (λZ7=>?_) (λZ7=>?_)))))))
   ·refine ro T 1 (lf T 1 J (ro T 3 (ab 39 J Z7 (λZ7=>?_) (λZ7=>?_))))
    ·refine ro T 1 (lf T 1 J (ro T 6 (am _ [0] (oi Z7) J J)))
    refine ro T 8 (am _ [0] (oi Z7) J J)
   refine ro T 13 (am _ [0] (oi Z7) J J)
  rintro _ x5 rfl H;refine rc T 2 ?_
  cases H;exact p0 T J [0] J
 refine rc T 5 (lf T 1 J (k [] J MU H (pM.c ·) (λv8 H=>ro T 3 (nc T J (λb3=>sg T 2 J (ro T 3 (mq H [] [0] (λmo (x9:Bool)=>(x9=mo,[(2,(bb x9))],[])) J J (λmo bp _=>?_) ?_)))))))
 ·refine rc T 3 (ab 52 J bp (λbp=>?_) (λbp=>?_))
  ·refine ro T 1 (lf T 1 J (ro T 1 (lf T 2 J (k [] J MV bp (sC.c ·) (λv11 bp=>ro T 2 (ab 59 J bp (λbp=>?_) (λbp=>?_)))))))
   ·refine ro T 1 (lf T 1 J (ro T 1 (lf T 2 J (k [] J MV bp (sC.c ·) (λv12 bp=>ro T 2 (ab 66 J bp (λbp=>?_) (λbp=>?_)))))))
    ·refine ro T 1 (lf T 1 J (ro T 3 (ab 71 J bp (λbp=>?_) (λbp=>?_))))
     ·refine ro T 13 (am _ [0] (oi bp) J J)
     refine ro T 1 (lf T 2 J (ro T 1 (ab 74 J bp (λbp=>?_) (λbp=>?_))))
     ·refine ro T 1 (lf T 1 J (ro T 8 (am _ [0] (oi bp) J J)))
     refine ro T 10 (am _ [0] (oi bp) J J)
    refine ro T 18 (am _ [0] (oi bp) J J)
   refine ro T 25 (am _ [0] (oi bp) J J)
  refine ro T 32 (am _ [0] (oi bp) J J)
 rintro _ x9 rfl H;refine rc T 1 ?_
 cases H;exact p0 T J [0] J
end
noncomputable section
def vk.f (ag:Int) (most:Int):Option (Option cm):=if(((decide (ag<1))||(decide (most<1)))||(decide (most>65536)))=true then(some none) else((yd.f ag).bind λv1=>dF v1 (none) (λeO=>some (some (cm.mk most eO none))))
def vk.R (r:(Option cm)):bk:=λu G=> ∃(u0:Value) (G0:List Hp),P3 r u0 G0/\u=u0/\G=G0
theorem vk.c (H:vk.f ag most=some r):
 QR 21 [(ii ag),(ii most)] [] [] F (vk.R r):=by
 unfold vk.f at H;refine aG Tryz.func21 J J (λW=>rc T 11 (go T [3,4,5] 7 [0,1] 10 J J J J J J J (ro T 1 (go T [7,8,9] 11 [0,1] 14 J J J J J J J (ro T 2 (cb J H (λH=>?_) (λH=>?_)))))))
 ·refine rc T 7 ?_
  cases H;exact p1 T J [0] ⟨_,_,⟨J,J⟩,J,J⟩ J
 refine rc T 6 (kr yd.R [] [] J ads H (yd.c ·) (λv1 H=>?_));rintro _ _ ⟨_,_,O3,rfl,rfl⟩;rcases v1 with _ |eO
 ·replace H:=ff J H
  cases H
 replace H:=fg J H;obtain⟨b1,H1,s1,rfl,rfl⟩:=O3;refine ro T 1 (nc T J (λb2=>fz J (ro T 4 ?_)))
 cases H;refine aq J (gq [2,1,1] J (p1 T J [1,0] ⟨_,_,⟨b2,(List.flatten [(cl b2 103 [(ii most),(pp b1),(.pointer none)]),H1,[]]),(show fR (cm.mk most eO none) b2 (List.flatten [(cl b2 103 [(ii most),(pp b1),(.pointer none)]),H1,[]]) from⟨b1,H1,(.pointer none),[],s1,(show BJ none (.pointer none) [] from⟨J,J⟩),J⟩),J,J⟩,J,J⟩ J))
def vm.f (s:cm) (o:dL):Option Er:=if(o.Kind==3)=true then((tN.f s.nav o.B).bind λv1=>if(v1==0)=true then(some (Er.num 148 7)) else((tN.f s.nav o.A).bind λv2=>if(v2==0)=true then(some (Er.num 148 7)) else(some Er.nil))) else(if(o.Kind==2)=true then((tN.f s.nav o.A).bind λv3=>if(v3==0)=true then(some (Er.num 148 7)) else(some Er.nil)) else(some Er.nil))
def vm.R (el:Nat->Addr) (r:Er):bk:=λu G=> ∃(v0:Value) (H0:Hp),gm 414 el r v0 H0/\u=v0/\G=[H0]
theorem vm.c (H:vm.f s o=some r) (hG:fK 414 fa gP el F) (cX:fR s bh dZ) (AQ:aP (Fl.int .u8) o.Map BT F) (AG:aa o.Map<=CM):
 QR 83 [(pp bh),(.agg #[(ii o.Kind),(ii o.A),(ii o.B),(ll BT o.Map CM)])] [dZ] [dZ] F (vm.R el r):=by
 unfold vm.f at H;refine aG Tryz.func83 J J (λW=>rc T 2 (nc T J (λb2=>fz J (ro T 7 (lf T 2 J (ro T 15 (cb J H (λH=>?_) (λH=>?_))))))))
 ·refine rc T 6 ?_;obtain⟨b4,H4,yH,H5,s4,s5,dA⟩:=(λx=>x) cX;refine bX 0 (congrArg some dA) (fz J (dq mix aA (au T J (au T J (au T J (cw T 2 J J J (au T J (cw T 1 J J J ?_))))))));obtain⟨v1,V2,H⟩:=gu H;refine xi [3] J J J J J J JC J (tN.c V2 s4) (au T J (cM (rx T 1 (cb J H (λH=>?_) (λH=>?_)))))
  ·refine rc T 2 (bx J (iq T J J J J) (ro T 8 ?_))
   cases H;refine cq [2,2,2] J dA (aq J (p1 T J [3,2,0] ⟨(.iface 148 (ii 7)),[],rY,J,J⟩ J))
  refine rc T 5 (dq mix aA (au T J (au T J (au T J (cw T 2 J J J (au T J (cw T 1 J J J ?_)))))));obtain⟨v2,V4,H⟩:=gu H;refine xi [3] J J J J J J JC J (tN.c V4 s4) (au T J (cM (rx T 1 (cb J H (λH=>?_) (λH=>?_)))))
  ·refine rc T 2 (bx J (iq T J J J J) (ro T 7 ?_))
   cases H;refine cq [2,2,2] J dA (aq J (p1 T J [3,2,0] ⟨(.iface 148 (ii 7)),[],rY,J,J⟩ J))
  refine rc T 11 ?_
  cases H;refine cq [2,2,2] J dA (aq J (p1 T J [3,2,0] ⟨.nilIface,[],uL,J,J⟩ J))
 refine rc T 8 (cb J H (λH=>?_) (λH=>?_))
 ·refine rc T 8 ?_;obtain⟨fZ,bZ,Lh,cE,bT,cW,Ga⟩:=(λx=>x) cX;refine bX 0 (congrArg some Ga) (fz J (dq mix aA (au T J (au T J (au T J (cw T 2 J J J (au T J (cw T 1 J J J ?_))))))));obtain⟨v3,V7,H⟩:=gu H;refine xi [3] J J J J J J JC J (tN.c V7 bT) (au T J (cM (rx T 1 (cb J H (λH=>?_) (λH=>?_)))))
  ·refine rc T 2 (bx J (iq T J J J J) (ro T 7 ?_))
   cases H;refine cq [2,2,2] J Ga (aq J (p1 T J [3,2,0] ⟨(.iface 148 (ii 7)),[],rY,J,J⟩ J))
  refine rc T 11 ?_
  cases H;refine cq [2,2,2] J Ga (aq J (p1 T J [3,2,0] ⟨.nilIface,[],uL,J,J⟩ J))
 refine rc T 15 ?_
 cases H;refine aq J (p1 T J [3,0,0] ⟨.nilIface,[],uL,J,J⟩ J)
def fP.f (code:Int):Option Er:=if(code==0)=true then(some Er.nil) else(some (Er.num 148 code))
def fP.R (el:Nat->Addr) (r:Er):bk:=λu G=> ∃(v0:Value) (H0:Hp),gm 414 el r v0 H0/\u=v0/\G=[H0]
theorem fP.c (H:fP.f code=some r) (hG:fK 414 fa gP el F):
 QR 88 [(ii code)] [] [] F (fP.R el r):=by
 unfold fP.f at H;refine aG Tryz.func88 J J (λW=>rc T 12 (cb J H (λH=>?_) (λH=>?_)))
 ·refine rc T 7 ?_
  cases H;refine aq J (p1 T J [1,0] ⟨.nilIface,[],uL,J,J⟩ J)
 refine rc T 5 (bx J (iq T J J J J) (ro T 4 ?_))
 cases H;refine aq J (p1 T J [1,0] ⟨(.iface 148 (ii code)),[],rY,J,J⟩ J)
def yx.f (s:cm) (b:(List Int)):Option (Er×cm):=(tj.f b).bind λv1=>if(v1.2 !=0)=true then(some ((Er.num 148 6),s)) else((ya.f s.nav v1.1).bind λv2=>if(v2.1==0)=true then((xq.f v1.1.W v1.1.H s.most).bind λv3=>dF v3 (none) (λsQ=>(fP.f v2.1).bind λv4=>some (v4,(cm.mk s.most v2.2 (some sQ))))) else((fP.f v2.1).bind λv5=>some (v5,(cm.mk s.most v2.2 s.fB))))
def yx.R (el:Nat->Addr) (mD:Nat) (r:(Er×cm)):bk:=λu G=> ∃(v0:Value) (H0:Hp) (H1:Hp),gm 414 el r.1 v0 H0/\fR r.2 mD H1/\u=v0/\G=[H0,H1]
theorem yx.c (H:yx.f s b=some r) (hG:fK 414 fa gP el F) (cX:fR s bh dZ) (ir:aP (Fl.int .u8) b ki F) (gF:aa b<=jV):
 QR 84 [(pp bh),(ll ki b jV)] [dZ] [] F (yx.R el bh r):=by
 unfold yx.f at H;refine aG Tryz.func84 J J (λW=>rc T 8 (kr (tj.R el) [] [] J abH H (tj.c · (dE hG (j:=1) J) (rO ir 1) gF) (λv1 H=>?_)));rintro _ _ ⟨a2,n2,H2,s2,rfl,rfl⟩;refine fz J (ro T 3 (nc T J (λb3=>fz J (j5 T 3 J (ro T 10 (cb J H (λH=>?_) (λH=>?_)))))))
 ·refine rc T 2 (bx J (iq T J J J J) (ro T 5 ?_))
  cases H;refine aq J (p1 T J [4,0,0] ⟨(.iface 148 (ii 6)),[],dZ,rY,cX,J,J⟩ J)
 refine rc T 4 ?_;obtain⟨b6,H6,wU,H7,s6,s7,r8⟩:=(λx=>x) cX;refine bX 0 (congrArg some r8) (fz J (ks [0,5] J (fz J (rz [5] mix (bR bQ) (λhg pf=>ha T 4 [0,1,2] sz hg pf J (al T 3 3 sz hg pf J J J (av 4 sz hg pf J (gA T 2 J J J J J J J) (ao 5 (kR (ya.R b6) [] [4] J abI H (ya.c · s6 (oO s2 1) s2.b_) (λv2 H=>?_))))))))));rintro _ _ ⟨H8,s8,rfl,rfl⟩;refine fz J (an sl (hb T 6 sl hg pf J (ae (rx T 7 (cb J H (λH=>?_) (λH=>?_))))))
 ·refine ks [0,5,6] J (fz J (rq [12] [0,0,0,0,0,0] J mix (bR bQ) (λhg pf=>ha T 11 [0,1] sz hg pf J (al T 2 2 sz hg pf J J J (ha T 9 [3] sz hg pf J (al T 4 2 sz hg pf J J J (ha T 5 [5,6,7] sz hg pf J (al T 8 3 sz hg pf J J J (ao 9 (kR xq.R [] [] J abJ H (xq.c ·) (λv3 H=>?_)))))))))));rintro _ _ ⟨_,_,O6,rfl,rfl⟩;rcases v3 with _ |sQ
  ·replace H:=ff J H
   cases H
  replace H:=fg J H;obtain⟨b9,H9,s9,rfl,rfl⟩:=O6;refine an (so [0,0,0,0,0,0]) (ha T 1 [10,11] (so [0,0,0,0,0,0]) hg pf J (ao 12 (je T 3 J (an sl (ae (rx T 4 (kr (fP.R el) [] [] J vY H (fP.c · (dE hG (j:=0) J)) (λv4 H=>?_))))))));rintro v10 _ ⟨v10,bZ,bT,rfl,rfl⟩;refine fz J (ro T 4 ?_)
  cases H;refine gq [6] J (gq [3,4,5] J (p1 T J [4,4,0] ⟨v10,bZ,(List.flatten [(cl bh 103 [(ii s.most),(pp b6),(pp b9)]),H8,(List.flatten [H9])]),bT,(show fR (cm.mk s.most v2.2 (some sQ)) bh (List.flatten [(cl bh 103 [(ii s.most),(pp b6),(pp b9)]),H8,(List.flatten [H9])]) from⟨b6,H8,(pp b9),(List.flatten [H9]),s8,(show BJ (some sQ) (pp b9) (List.flatten [H9]) from⟨b9,H9,s9,J,J⟩),J⟩),J,J⟩ J))
 refine rc T 5 (kr (fP.R el) [] [] J vY H (fP.c · (dE hG (j:=0) J)) (λv5 H=>?_));rintro v12 _ ⟨v12,dH,dN,rfl,rfl⟩;refine fz J (ro T 4 ?_)
 cases H;refine gq [3,4,3] J (p1 T J [3,3,0] ⟨v12,dH,(List.flatten [(cl bh 103 [(ii s.most),(pp b6),wU]),H8,H7]),dN,(show fR (cm.mk s.most v2.2 s.fB) bh (List.flatten [(cl bh 103 [(ii s.most),(pp b6),wU]),H8,H7]) from⟨b6,H8,wU,H7,s8,s7,J⟩),J,J⟩ J)
def yw.f (s:cm) (cell:Int) (cost:Int):Option (Er×cm):=if((decide (cost<1))||(decide (cost>255)))=true then(some ((Er.num 148 8),s)) else((dF s.fB (none) (λx3=>if(cost==255)=true then((DV.f x3 cell).bind λv4=>some (decide (v4≥0))) else(some false))).bind λx1=>if x1=true then(some ((Er.num 148 10),s)) else((xZ.f s.nav cell cost).bind λv5=>(fP.f v5.1).bind λv6=>some (v6,(cm.mk s.most v5.2 s.fB))))
def yw.R (el:Nat->Addr) (mD:Nat) (r:(Er×cm)):bk:=λu G=> ∃(v0:Value) (H0:Hp) (H1:Hp),gm 414 el r.1 v0 H0/\fR r.2 mD H1/\u=v0/\G=[H0,H1]
theorem yw.c (H:yw.f s cell cost=some r) (hG:fK 414 fa gP el F) (cX:fR s bh dZ):
 QR 86 [(pp bh),(ii cell),(ii cost)] [dZ] [] F (yw.R el bh r):=by
 unfold yw.f at H;refine aG Tryz.func86 J J (λW=>rc T 12 (go T [3,4,5] 10 [0,1,2] 13 J J J J J J J (ro T 3 (cb J H (λH=>?_) (λH=>?_)))))
 ·refine rc T 2 (bx J (iq T J J J J) (ro T 6 ?_))
  cases H;refine aq J (p1 T J [2,0,0] ⟨(.iface 148 (ii 8)),[],dZ,rY,cX,J,J⟩ J)
 refine mq H [0,1,2] [1,0] (λz2 (x1:Bool)=>(x1=z2,[(15,(bb x1))],[])) J J (λz2 Z2 _=>?_) ?_
 ·obtain⟨b4,H4,yH,H5,s4,s5,dA⟩:=(λx=>x) cX;refine bX 0 (congrArg some dA) (fz J ?_);rcases q3:s.fB with _ |x3
  ·replace Z2:=ff q3 Z2
   cases Z2
  replace Z2:=fg q3 Z2;rw[q3] at s5;obtain⟨b7,H7,s7,rfl,oK⟩:=s5;refine bX 3 (congrArg some oK) (fz J (rc T 4 (ab 18 J Z2 (λZ2=>?_) (λZ2=>?_))))
  ·refine ro T 3 (lf T 1 J (ro T 1 (k [3] J abK Z2 (DV.c · s7) (λv4 Z2=>ro T 5 (cq [3] J oK (cq [1,1,1] J dA (am _ [0,0] (oi Z2) J J)))))))
  refine ro T 11 (cq [3] J oK (cq [1,1,1] J dA (am _ [0,0] (oi Z2) J J)))
 rintro _ x1 rfl H;refine cb J H (λH=>?_) (λH=>?_)
 ·refine rc T 2 (bx J (iq T J J J J) (ro T 6 ?_))
  cases H;refine aq J (p1 T J [2,1,0] ⟨(.iface 148 (ii 10)),[],dZ,rY,cX,J,J⟩ J)
 refine rc T 4 ?_;obtain⟨fZ,bZ,Lh,cE,bT,cW,Ga⟩:=(λx=>x) cX;refine bX 1 (congrArg some Ga) (fz J (rc T 4 (lf T 1 J (ro T 2 (kr (xZ.R fZ) [] [2] J abL H (xZ.c · bT) (λv5 H=>?_))))));rintro _ _ ⟨dH,dN,rfl,rfl⟩;refine fz J (kr (fP.R el) [] [] J vY H (fP.c · (dE hG (j:=0) J)) (λv6 H=>?_));rintro jf _ ⟨jf,dT,dg,rfl,rfl⟩;refine fz J (ro T 4 ?_)
 cases H;refine gq [1,2,1] J (p1 T J [1,1,0] ⟨jf,dT,(List.flatten [(cl bh 103 [(ii s.most),(pp fZ),Lh]),dH,cE]),dg,(show fR (cm.mk s.most v5.2 s.fB) bh (List.flatten [(cl bh 103 [(ii s.most),(pp fZ),Lh]),dH,cE]) from⟨fZ,dH,Lh,cE,dN,cW,J⟩),J,J⟩ J)
def Aa.f (s:cm) (cell:Int) (goal:Int):Option (Int×Er×cm):=(tN.f s.nav cell).bind λv1=>if(v1==255)=true then(some ((-1),(Er.num 148 9),s)) else(dF s.fB (none) (λx2=>(xp.f x2 cell goal).bind λv3=>(fP.f v3.2.1).bind λv4=>some (v3.1,v4,(cm.mk s.most s.nav (some v3.2.2)))))
def Aa.R (el:Nat->Addr) (mD:Nat) (r:(Int×Er×cm)):bk:=λu G=> ∃(v0:Value) (H0:Hp) (H1:Hp),gm 414 el r.2.1 v0 H0/\fR r.2.2 mD H1/\u=(.tuple #[(ii r.1),v0])/\G=[H0,H1]
theorem Aa.c (H:Aa.f s cell goal=some r) (hG:fK 414 fa gP el F) (cX:fR s bh dZ):
 QR 87 [(pp bh),(ii cell),(ii goal)] [dZ] [] F (Aa.R el bh r):=by
 unfold Aa.f at H;refine aG Tryz.func87 J J (λW=>rc T 8 ?_);obtain⟨b3,H3,vr,H4,s3,s4,cI⟩:=(λx=>x) cX;refine bX 0 (congrArg some cI) (fz J (rc T 4 (lf T 1 J (ro T 1 (k [2] J JC H (tN.c · s3) (λv1 H=>ro T 3 (cb J H (λH=>?_) (λH=>?_))))))))
 ·refine rc T 2 (bx J (iq T J J J J) (ro T 6 ?_))
  cases H;refine cq [1,1,1] J cI (aq J (p1 T J [2,1,0] ⟨(.iface 148 (ii 9)),[],dZ,rY,cX,J,J⟩ J))
 refine rc T 3 ?_;rcases q3:s.fB with _ |x2
 ·replace H:=ff q3 H
  cases H
 replace H:=fg q3 H;rw[q3] at s4;obtain⟨b7,H7,s7,rfl,oK⟩:=s4;refine bX 3 (congrArg some oK) (fz J (rc T 4 (lf T 1 J (ro T 2 (kr (xp.R b7) [] [3] J abM H (xp.c · s7) (λv3 H=>?_))))));rintro _ _ ⟨H8,s8,rfl,rfl⟩;refine fz J (ro T 11 (kr (fP.R el) [] [] J vY H (fP.c · (dE hG (j:=0) J)) (λv4 H=>?_)));rintro v9 _ ⟨v9,H9,s9,rfl,rfl⟩;refine fz J (ro T 5 ?_)
 cases H;refine gq [3] J (gq [1,1,2] J (p1 T J [1,1,0] ⟨v9,H9,(List.flatten [(cl bh 103 [(ii s.most),(pp b3),(pp b7)]),H3,(List.flatten [H8])]),s9,(show fR (cm.mk s.most s.nav (some v3.2.2)) bh (List.flatten [(cl bh 103 [(ii s.most),(pp b3),(pp b7)]),H3,(List.flatten [H8])]) from⟨b3,H3,(pp b7),(List.flatten [H8]),s3,(show BJ (some v3.2.2) (pp b7) (List.flatten [H8]) from⟨b7,H8,s8,J,J⟩),J⟩),J,J⟩ J))
def vp.f (s:cm) (a:lZ) (goal:Int) (cell:Int):Option (Er×cm×lZ):=(yb.f s.nav goal cell).bind λv1=>if(v1.2.2.1==0)=true then((fP.f v1.2.2.1).bind λv2=>some (v2,(cm.mk s.most v1.2.2.2 s.fB),(lZ.mk a.Code v1.1 v1.2.1 a.Id a.iG a.iU a.Stats))) else((fP.f v1.2.2.1).bind λv3=>some (v3,(cm.mk s.most v1.2.2.2 s.fB),a))
def vp.R (el:Nat->Addr) (mD:Nat) (pq:Nat) (r:(Er×cm×lZ)):bk:=λu G=> ∃(v0:Value) (H0:Hp) (H1:Hp) (a2 n2 H2:_) (a3 n3 H3:_),gm 414 el r.1 v0 H0/\fR r.2.1 mD H1/\ak jE 94 r.2.2.iG a2 n2 H2/\ak (Fl.int .i64) 3 r.2.2.iU a3 n3 H3/\u=v0/\G=[H0,H1,(cl pq 52 [(ii r.2.2.Code),(ii r.2.2.D),(ii r.2.2.cK),(ii r.2.2.Id),(ll a2 r.2.2.iG n2),(ll a3 r.2.2.iU n3),(uu r.2.2.Stats.bJ),(uu r.2.2.Stats.bK),(uu r.2.2.Stats.bH),(uu r.2.2.Stats.bF),(uu r.2.2.Stats.bU),(uu r.2.2.Stats.bO)]),H2,H3]
theorem vp.c (H:vp.f s a goal cell=some r) (hG:fK 414 fa gP el F) (cX:fR s bh dZ) (oh:ak jE 94 a.iG vH wu vx) (og:ak (Fl.int .i64) 3 a.iU vG wq vw):
 QR 91 [(pp bh),(pp pq),(ii goal),(ii cell)] [dZ,(cl pq 52 [(ii a.Code),(ii a.D),(ii a.cK),(ii a.Id),(ll vH a.iG wu),(ll vG a.iU wq),(uu a.Stats.bJ),(uu a.Stats.bK),(uu a.Stats.bH),(uu a.Stats.bF),(uu a.Stats.bU),(uu a.Stats.bO)]),vx,vw] [] F (vp.R el bh pq r):=by
 unfold vp.f at H;refine aG Tryz.func91 J J (λW=>rc T 6 ?_);obtain⟨b6,H6,wU,H7,s6,s7,r8⟩:=(λx=>x) cX;refine bX 0 (congrArg some r8) (fz J (rc T 4 (lf T 4 J (ro T 2 (kr (yb.R el b6) [] [5] J abO H (yb.c · (dE hG (j:=3) J) s6) (λv1 H=>?_))))));rintro _ _ ⟨H8,s8,rfl,rfl⟩;refine fz J (ro T 16 (cb J H (λH=>?_) (λH=>?_)))
 ·refine rc T 7 (j5 T 0 J (ro T 2 (j5 T 0 J (ro T 5 (kr (fP.R el) [] [] J vY H (fP.c · (dE hG (j:=3) J)) (λv2 H=>?_))))));rintro v9 _ ⟨v9,H9,s9,rfl,rfl⟩;refine fz J (ro T 2 (ks [8] J (rx T 2 ?_)))
  cases H;refine gq [4,5,4] J (p1 T J [4,4,0,0,0,0] ⟨v9,H9,(List.flatten [(cl bh 103 [(ii s.most),(pp b6),wU]),H8,H7]),vH,wu,vx,vG,wq,vw,s9,(show fR (cm.mk s.most v1.2.2.2 s.fB) bh (List.flatten [(cl bh 103 [(ii s.most),(pp b6),wU]),H8,H7]) from⟨b6,H8,wU,H7,s8,s7,J⟩),oh,og,J,J⟩ J)
 refine rc T 5 (kr (fP.R el) [] [] J vY H (fP.c · (dE hG (j:=3) J)) (λv3 H=>?_));rintro v10 _ ⟨v10,bZ,bT,rfl,rfl⟩;refine fz J (ro T 4 ?_)
 cases H;refine gq [4,5,4] J (p1 T J [4,4,0,0,0,0] ⟨v10,bZ,(List.flatten [(cl bh 103 [(ii s.most),(pp b6),wU]),H8,H7]),vH,wu,vx,vG,wq,vw,bT,(show fR (cm.mk s.most v1.2.2.2 s.fB) bh (List.flatten [(cl bh 103 [(ii s.most),(pp b6),wU]),H8,H7]) from⟨b6,H8,wU,H7,s8,s7,J⟩),oh,og,J,J⟩ J)
def fw.l3:Nat->cm->(List bB)->cF->(List (Int×Int))->List Int->Int->Option ((List Int)×Er×cm)
 |0,_,_,_,_,_,_=>none
 |Kr+1,s,l,bt,aO,oz,nx=>if nx<(aa l:Int) then(if(0<=nx/\nx<(aa l:Int)) then(if(aa oz+1<=1099511627776) then(fw.l3 Kr s l bt aO (oz++[(aT aO ((rd l nx).Id))]) (af (nx+1))) else none) else none) else(some (oz,Er.nil,(cm.mk s.most bt s.fB)))
def fw.l2:Nat->(List (Int×Int))->Int->(List gr)->cF->List Int->(List (Int×Int))->Int->Option (Sum ((List Int)×Er×cm) (cF×(List (Int×Int))))
 |0,_,_,_,_,_,_,_=>none
 |Kq+1,x4,a_,v8,du,eN,nt,jg=>if jg<(aa ((rd v8 a_).j_):Int) then(if(0<=jg/\jg<(aa ((rd v8 a_).j_):Int)) then(if(0<=(aT x4 (rd ((rd v8 a_).j_) jg))/\(aT x4 (rd ((rd v8 a_).j_) jg))<(aa eN:Int)) then(fw.l2 Kq x4 a_ v8 du eN (cO nt (rd ((rd v8 a_).j_) jg) (rd eN (aT x4 (rd ((rd v8 a_).j_) jg)))) (af (jg+1))) else none) else none) else(some (Sum.inr (du,nt)))
def fw.l1:Nat->cm->(List bB)->(List (Int×Int))->(List gr)->cF->(List (Int×Int))->Int->Option ((List Int)×Er×cm)
 |0,_,_,_,_,_,_,_=>none
 |lS+1,s,l,x4,v8,bt,aO,a_=>if a_<(aa v8:Int) then((if(0<=a_/\a_<(aa v8:Int)) then(((vb.f bt ((rd v8 a_).Goal) ((rd v8 a_).sZ)).bind λv24=>some (v24.2.2,v24.1.ez,v24.1.cK,v24.2.1)).bind λ(du,h_,eN,bV)=>if(bV !=0)=true then(some (Sum.inl ([],(Er.num 148 bV),(cm.mk s.most du s.fB)))) else(fw.l2 fuel x4 a_ v8 du eN aO 0)) else none).bind λzz=>match zz with |Sum.inl q=>some q |Sum.inr (dS,dh)=>fw.l1 lS s l x4 v8 dS dh (af (a_+1))) else(fw.l3 fuel s l bt aO [] 0)
def fw.l0:Nat->cm->(List bB)->(Int×Int)->(List (Int×Int))->Int->Option ((List Int)×Er×cm)
 |0,_,_,_,_,_=>none
 |k6+1,s,l,v1,x4,x5=>if x5<(aa l:Int) then(if(0<=x5/\x5<(aa l:Int)) then((rE.f v1.1 v1.2 ((rd l x5).Cell)).bind λv7=>fw.l0 k6 s l v1 (cO x4 ((rd l x5).Id) v7) (af (x5+1))) else none) else((ku.f v1.1 v1.2 l).bind λv8=>fw.l1 fuel s l x4 v8 s.nav ([]:(List (Int×Int))) 0)
def fw.f (s:cm) (l:(List bB)):Option ((List Int)×Er×cm):=(zI.f s.nav).bind λv1=>fw.l0 fuel s l v1 ([]:(List (Int×Int))) 0
def fw.R (el:Nat->Addr) (mD:Nat) (r:((List Int)×Er×cm)):bk:=λu G=> ∃(a0 n0 H0:_) (v1:Value) (H1:Hp) (H2:Hp),ak (Fl.int .i64) 3 r.1 a0 n0 H0/\gm 414 el r.2.1 v1 H1/\fR r.2.2 mD H2/\u=(.tuple #[(ll a0 r.1 n0),v1])/\G=[H0,H1,H2]
theorem fw.c (H:fw.f s l=some r) (hG:fK 414 fa gP el F) (cX:fR s bh dZ) (df:aP lT l gV F) (f_:aa l<=gQ):
 QR 128 [(pp bh),(ll gV l gQ)] [dZ] [] F (fw.R el bh r):=by
 unfold fw.f at H;refine aG Tryz.func128 J J (λW=>rc T 7 ?_);obtain⟨b3,H3,vr,H4,s3,s4,cI⟩:=(λx=>x) cX;refine bX 0 (congrArg some cI) (fz J (rc T 4 (lf T 1 J (k [2] J SF H (zI.c · s3) (λv1 H=>ro T 9 (aV (vK T (Ky.int .i64 u3) (λx:Int=>Value.int .i64 x) J J J trivial (λa5 H5 s5=>ro T 12 (lq [0,1,6,7,30,31] [0,0,1,0] (λ(⟨k6,x4,x5,a7,H7⟩:Nat×(List (Int×Int))×Int×Nat×Hp)=>(fw.l0 k6 s l v1 x4 x5=some r/\cU (Ky.int .i64 u3) (λx:Int=>Value.int .i64 x) x4 a7 H7,[(8,(.map (some a7))),(32,(ii x5))],[H7])) J J (fuel,([]:(List (Int×Int))),0,a5,H5) [0,0,1,0,0] ⟨H,s5⟩ J J ?_)))))))));rintro k6 ⟨x4,x5,a7,H7⟩ ⟨Z2,s7⟩;rw[fw.l0] at Z2;refine rc T 6 (cd J Z2 (λZ2=>?_) (λZ2=>?_))
 ·refine rc T 6 ?_;obtain⟨c4,Z2⟩:=az Z2;obtain⟨q8,o8,e8⟩:=df.addr c4.1 c4.2;refine ix T J e8 c4 (bx J (gd T (cs:=[(ii (rd l x5).Id),(ii (rd l x5).Cell),(ii (rd l x5).Goal)]) J J J J J J (iu (k:=lT) (rO df 0) e8 c4 J)) (nc T J (λb9=>fz J (j5 T 5 J (ro T 2 (ks [0,1,6,7,8,10,30,31,32] J (fz J (rz [8] mix (bR bQ) (λhg pf=>ha T 7 [0,1] sz hg pf J (al T 2 5 sz hg pf J J J (ha T 3 [3,4,5] sz hg pf J (al T 6 5 sz hg pf J J J (ao 7 (kh [] J Gh Z2 (rE.c ·) (λv7 Z2=>an sz (ao 8 (p_ (g:=4) (m:=x4) (k:=(rd l x5).Id) (v:=v7) T (Ky.int .i64 u3) (λx:Int=>Value.int .i64 x) J J J J J J J s7 (λbZ bT=>an sl (ae (rx T 7 (ar (_,_,_,_) [0,0,0,0,0] ⟨Z2,bT⟩ J J)))))))))))))))))))))
 refine rc T 7 (aV (vK T (Ky.int .i64 u3) (λx:Int=>Value.int .i64 x) J J J trivial (λde cE cW=>ro T 9 (kr ku.R [] [] J ac7 Z2 (ku.c · (rO df 0) f_) (λv8 Z2=>?_)))));rintro _ _ ⟨a12,n12,dH,dN,rfl,rfl⟩;refine fz J (ro T 5 (lq [0,1,8,49,50] [0,0,0,1,2] (λ(⟨lS,bt,aO,a_,dO,ik,fx⟩:Nat×cF×(List (Int×Int))×Int×Hp×Nat×Hp)=>(fw.l1 lS s l x4 v8 bt aO a_=some r/\gT bt b3 dO/\cU (Ky.int .i64 u3) (λx:Int=>Value.int .i64 x) aO ik fx,[(11,(.map (some ik))),(51,(ii a_))],[dO,fx])) J J (fuel,s.nav,([]:(List (Int×Int))),0,H3,de,cE) [0,0,0,1,2,0,0] ⟨Z2,s3,cW⟩ J J ?_));rintro lS ⟨bt,aO,a_,dO,ik,fx⟩ ⟨Z7,dW,eK⟩;rw[fw.l1] at Z7;refine rc T 6 (cd J Z7 (λZ7=>?_) (λZ7=>?_))
 ·refine rc T 2 (mq Z7 [0,1,8,49,50,51] [0,0,0,0,0] (λPR (⟨dS,dh,eP,jj,fo⟩:cF×(List (Int×Int))×Hp×Nat×Hp)=>((Sum.inr (dS,dh))=PR/\gT dS b3 eP/\cU (Ky.int .i64 u3) (λx:Int=>Value.int .i64 x) dh jj fo,[(11,(.map (some jj)))],[eP,fo])) J J (λPR Z9 Z7=>?_) ?_)
  ·refine rc T 3 ?_;obtain⟨iK,Z9⟩:=az Z9;obtain⟨VK,Va,uK⟩:=dN.r.addr iK.1 iK.2;refine ix T J uK iK ?_;obtain⟨_,w21,⟨a20,n20,⟨V_,m20⟩,rfl⟩⟩:=nJ.view dN.r iK;refine bx J (gd T (cs:=[(ii (rd v8 a_).Goal),(ii (rd v8 a_).sZ),(ll a20 (rd v8 a_).j_ n20)]) J J J J J J (N8 (j:=4) J w21 uK 0 J)) (nc T J (λlp=>fz J (j5 T 7 J (ro T 2 (mq Z9 [0,1,8,11,13,49,50,51] [0,0,0,0,2,2,0] (λz23 (⟨du,h_,eN,bV,jL,FL,a25,n25,ig,a26,n26,pd⟩:cF×List Int×List Int×Int×Hp×Nat×Option Addr×Nat×Hp×Option Addr×Nat×Hp)=>((du,h_,eN,bV)=z23/\gT du b3 jL/\ak (Fl.int .i64) 3 h_ a25 n25 ig/\ak (Fl.int .i64) 3 eN a26 n26 pd,[(14,(pp FL)),(15,(ii bV))],[jL,(cl FL 79 [(ll a25 h_ n25),(ll a26 eN n26)]),ig,pd])) J J (λz23 aY _=>?_) ?_)))))
   ·refine ks [0,1,8,11,13,49,50,51] J (fz J (rz [8] mix (bR bQ) (λhg pf=>ha T 12 [0,1,2] sz hg pf J (al T 3 1 sz hg pf J J J (ha T 10 [4] sz hg pf J (al T 5 7 sz hg pf J J J (ha T 8 [6] sz hg pf J (al T 7 7 sz hg pf J J J (gM 8 12 ?_ ?_)))))))))
    ·refine kR (vb.R el b3) [] [5] J Tf aY (vb.c · (dE hG (j:=0) J) dW) (λv24 aY=>?_);rintro _ _ ⟨IJ,n27,Fb,a28,n28,vu,rL,wH,ky,rp,rfl,rfl⟩;refine fz J (an sl (hb T 9 sl hg pf J (hb T 10 sl hg pf J (hb T 11 sl hg pf J (ao 12 (nw T J (λb30=>fz J (an sl (ao 13 (je T 10 J (an sl (hb T 14 sl hg pf J (ae (rx T 1 (am (_,_,_,_,_,_,_,_,_,_,_,_) [0,0,0,0,1,1,0,2,2,0,0] ⟨oi aY,rp,wH,ky⟩ J J)))))))))))))))
    refine nw T J (λZB=>fz J (an (so [0,0,0,0,0,0,0,0]) (ao 8 (kR (vb.R el b3) [] [5] J Tf aY (vb.c · (dE hG (j:=0) J) dW) (λv25 aY=>?_)))));rintro _ _ ⟨a32,n32,Iu,a33,n33,Iv,vv,zU,wI,yr,rfl,rfl⟩;refine fz J (an sl (hb T 9 sl hg pf J (hb T 10 sl hg pf J (hb T 11 sl hg pf J (ao 13 (je T 7 J (an sl (hb T 14 sl hg pf J (ae (rx T 1 (am (_,_,_,_,_,_,_,_,_,_,_,_) [0,0,0,0,1,1,0,3,0,0,0] ⟨oi aY,yr,zU,wI⟩ J J)))))))))))
   rintro _ ⟨du,h_,eN,bV,jL,FL,a25,n25,ig,a26,n26,pd⟩ ⟨rfl,hU,jG,od⟩ Z9;refine rc T 7 (cb J Z9 (λZ9=>?_) (λZ9=>?_))
   ·refine rc T 3 (bx J (iq T J J J J) (ro T 11 ?_));obtain rfl:=Option.some.inj Z9;obtain rfl:=Option.some.inj (show some ([],(Er.num 148 bV),(cm.mk s.most du s.fB))=some r from Z7)
    refine gq [1,6,1] J (aq J (aq J (p1 T J [9,9,8,0] ⟨none,0,[],(.iface 148 (ii bV)),[],(List.flatten [(cl bh 103 [(ii s.most),(pp b3),vr]),jL,H4]),ak.nil,rY,(show fR (cm.mk s.most du s.fB) bh (List.flatten [(cl bh 103 [(ii s.most),(pp b3),vr]),jL,H4]) from⟨b3,jL,vr,H4,hU,s4,J⟩),J,J⟩ J)))
   refine rc T 5 (lf T 5 J (ro T 5 (lq [0,1,8,14,49,50,51,72,73] [0,0,0,4,0,3,3,3,2] (λ(⟨Kq,nt,jg,IK,Ap⟩:Nat×(List (Int×Int))×Int×Nat×Hp)=>(fw.l2 Kq x4 a_ v8 du eN nt jg=some PR/\cU (Ky.int .i64 u3) (λx:Int=>Value.int .i64 x) nt IK Ap,[(11,(.map (some IK))),(74,(ii jg))],[Ap])) J J (fuel,aO,0,ik,fx) [0,0,0,4,0,3,3,3,2,0] ⟨Z9,eK⟩ J J ?_)));rintro Kq ⟨nt,jg,IK,Ap⟩ ⟨dx,Bc⟩;rw[fw.l2] at dx;refine rc T 6 (cd J dx (λdx=>?_) (λdx=>?_))
   ·refine rc T 6 ?_;obtain⟨lO,dx⟩:=az dx;obtain⟨q39,o39,Ro⟩:=V_.addr lO.1 lO.2;refine ix T J Ro lO (le T 0 (rO V_ 8) Ro lO J J (ro T 7 (lf T 5 J (ro T 2 (bx J (qi (k:=(rd ((rd v8 a_).j_) jg)) T (Ky.int .i64 u3) (λx:Int=>Value.int .i64 x) J J J J J (oS s7 (j:=4) J)) ?_)))));obtain⟨lP,dx⟩:=az dx;obtain⟨q40,o40,Rq⟩:=od.r.addr lP.1 lP.2;refine ix T J Rq lP (le T 0 (oO od 7) Rq lP J J (aV (p_ (g:=9) (m:=nt) (k:=(rd ((rd v8 a_).j_) jg)) (v:=(rd eN (aT x4 (rd ((rd v8 a_).j_) jg)))) T (Ky.int .i64 u3) (λx:Int=>Value.int .i64 x) J J J J J J J Bc (λFe zV=>ro T 8 (ar (_,_,_,_) [0,0,0,0,0,0,0,0,0,0] ⟨dx,zV⟩ J J)))))
   refine rc T 6 (am (_,_,_,_,_) [0,0,0,1,4,0,3] ⟨oi dx,hU,Bc⟩ J J)
  rintro _ ⟨dS,dh,eP,jj,fo⟩ ⟨rfl,fF,fG⟩ Z7;refine rc T 5 (ar (_,_,_,_,_,_) [0,0,0,0,0,0,0] ⟨Z7,fF,fG⟩ J J)
 refine rc T 19 (aq J (lq [11,89,90] [0,5,0,0,2] (λ(⟨Kr,oz,nx,IL,n43,gJ⟩:Nat×List Int×Int×Option Addr×Nat×Hp)=>(fw.l3 Kr s l bt aO oz nx=some r/\ak (Fl.int .i64) 3 oz IL n43 gJ,[(18,(ll IL oz n43)),(91,(ii nx))],[gJ])) J J (fuel,[],0,none,0,[]) [0,5,0,0,2,2] ⟨Z7,ak.nil⟩ J J ?_));rintro Kr ⟨oz,nx,IL,n43,gJ⟩ ⟨fc,tV⟩;rw[fw.l3] at fc;refine rc T 6 (cd J fc (λfc=>?_) (λfc=>?_))
 ·refine rc T 6 ?_;obtain⟨pw,fc⟩:=az fc;obtain⟨q44,o44,Rr⟩:=df.addr pw.1 pw.2;refine ix T J Rr pw (bx J (gd T (cs:=[(ii (rd l nx).Id),(ii (rd l nx).Cell),(ii (rd l nx).Goal)]) J J J J J J (iu (k:=lT) (rO df 0) Rr pw J)) (nc T J (λb45=>fz J (j5 T 6 J (ro T 6 (lf T 6 J (bx J (qi (k:=(rd l nx).Id) T (Ky.int .i64 u3) (λx:Int=>Value.int .i64 x) J J J J J (oS eK (j:=1) J)) (aV (c_ (k:=(Fl.int .i64)) T [(aT aO ((rd l nx).Id))] J J J J J J J J J (λa46 Xz O7=>?_))))))))));obtain⟨AF,fc⟩:=az fc;refine aV (eF (k:=(Fl.int .i64)) (xs:=oz) T (g:=5) J J J J J J J J J J tV (oO O7 7) AF J (λIM n47 Ff HH=>ro T 9 (ar (_,_,_,_,_) [0,0,0,0,0,0] ⟨fc,HH⟩ J J)))
 refine rc T 13 ?_
 cases fc;refine gq [2,3,2] J (aq J (p1 T J [2,3,2,0] ⟨IL,n43,gJ,.nilIface,[],(List.flatten [(cl bh 103 [(ii s.most),(pp b3),vr]),dO,H4]),tV,uL,(show fR (cm.mk s.most bt s.fB) bh (List.flatten [(cl bh 103 [(ii s.most),(pp b3),vr]),dO,H4]) from⟨b3,dO,vr,H4,dW,s4,J⟩),J,J⟩ J))
def yy.f (s:cm) (a:lZ):Option (Er×cm×lZ):=dF s.fB (none) (λx1=>(qa.f x1).bind λv2=>(fw.f s v2).bind λv3=>if(!(Er.isNil v3.2.1))=true then(some (v3.2.1,v3.2.2,a)) else(dF v3.2.2.fB (none) (λx4=>(nQ.f x4 v3.1).bind λv5=>(fP.f v5.2.2.1).bind λv6=>some (v6,(cm.mk v3.2.2.most v3.2.2.nav (some v5.2.2.2)),(lZ.mk a.Code a.D a.cK a.Id v5.1 v5.2.1 a.Stats)))))
def yy.R (el:Nat->Addr) (mD:Nat) (pq:Nat) (r:(Er×cm×lZ)):bk:=λu G=> ∃(v0:Value) (H0:Hp) (H1:Hp) (a2 n2 H2:_) (a3 n3 H3:_),gm 414 el r.1 v0 H0/\fR r.2.1 mD H1/\ak jE 94 r.2.2.iG a2 n2 H2/\ak (Fl.int .i64) 3 r.2.2.iU a3 n3 H3/\u=v0/\G=[H0,H1,(cl pq 52 [(ii r.2.2.Code),(ii r.2.2.D),(ii r.2.2.cK),(ii r.2.2.Id),(ll a2 r.2.2.iG n2),(ll a3 r.2.2.iU n3),(uu r.2.2.Stats.bJ),(uu r.2.2.Stats.bK),(uu r.2.2.Stats.bH),(uu r.2.2.Stats.bF),(uu r.2.2.Stats.bU),(uu r.2.2.Stats.bO)]),H2,H3]
theorem yy.c (H:yy.f s a=some r) (hG:fK 414 fa gP el F) (cX:fR s bh dZ) (oh:ak jE 94 a.iG vH wu vx) (og:ak (Fl.int .i64) 3 a.iU vG wq vw):
 QR 92 [(pp bh),(pp pq)] [dZ,(cl pq 52 [(ii a.Code),(ii a.D),(ii a.cK),(ii a.Id),(ll vH a.iG wu),(ll vG a.iU wq),(uu a.Stats.bJ),(uu a.Stats.bK),(uu a.Stats.bH),(uu a.Stats.bF),(uu a.Stats.bU),(uu a.Stats.bO)]),vx,vw] [] F (yy.R el bh pq r):=by
 unfold yy.f at H;refine aG Tryz.func92 J J (λW=>rc T 6 ?_);obtain⟨b6,H6,wU,H7,s6,s7,r8⟩:=(λx=>x) cX;refine bX 0 (congrArg some r8) (fz J ?_);rcases q1:s.fB with _ |x1
 ·replace H:=ff q1 H
  cases H
 replace H:=fg q1 H;rw[q1] at s7;obtain⟨b9,H9,s9,rfl,Sc⟩:=s7;refine bX 6 (congrArg some Sc) (fz J (rc T 5 (lf T 4 J (kr qa.R [6] [6] J JK H (qa.c · s9) (λv2 H=>?_)))));rintro _ _ ⟨cz,n10,bZ,bT,rfl,rfl⟩;refine fz J (cq [7] J Sc (cq [4,4,5] J r8 (kr (fw.R el bh) [] [5] J abP H (fw.c · (dE hG (j:=3) J) cX (oO bT 4) bT.b_) (λv3 H=>?_))));rintro _ _ ⟨de,n11,cE,v12,dH,dT,cW,dN,dg,rfl,rfl⟩;refine fz J (ro T 11 (bx J (DY T J J J (rZ dN (j:=6) J)) (ro T 2 (cb J H (λH=>?_) (λH=>?_)))))
 ·refine rc T 8 ?_
  cases H;exact p1 T J [6,6,0,0,0,0] ⟨v12,dH,dT,vH,wu,vx,vG,wq,vw,dN,dg,oh,og,J,J⟩ J
 refine rc T 3 ?_;obtain⟨oG,dO,ajg,fx,dW,eK,D5⟩:=(λx=>x) dg;refine bX 7 (congrArg some D5) (fz J ?_);rcases q5:v3.2.2.fB with _ |x4
 ·replace H:=ff q5 H
  cases H
 replace H:=fg q5 H;rw[q5] at eK;obtain⟨qR,fo,fG,rfl,abv⟩:=eK;refine bX 9 (congrArg some abv) (fz J (rc T 4 (lf T 7 J (ro T 1 (kr (nQ.R qR) [] [9] J abQ H (nQ.c · fG (oO cW 5) cW.b_) (λv5 H=>?_))))));rintro _ _ ⟨my,n19,lh,a20,n20,oA,lJ,hJ,mi,j4,rfl,rfl⟩;refine fz J (ro T 17 (j5 T 0 J (ro T 2 (j5 T 0 J (ro T 1 (ke [9] [0,2,5,5,5,5,5] J J (rx T 1 (rc T 3 (kr (fP.R el) [] [] J vY H (fP.c · (dE hG (j:=1) J)) (λv6 H=>?_))))))))));rintro v22 _ ⟨v22,mr,iv,rfl,rfl⟩;refine fz J (ro T 4 ?_)
 cases H;refine gq [6] J (gq [2,2,5] J (p1 T J [4,4,0,1,1,0] ⟨v22,mr,(List.flatten [(cl bh 103 [(ii v3.2.2.most),(pp oG),(pp qR)]),dO,(List.flatten [lJ])]),my,n19,lh,a20,n20,oA,iv,(show fR (cm.mk v3.2.2.most v3.2.2.nav (some v5.2.2.2)) bh (List.flatten [(cl bh 103 [(ii v3.2.2.most),(pp oG),(pp qR)]),dO,(List.flatten [lJ])]) from⟨oG,dO,(pp qR),(List.flatten [lJ]),dW,(show BJ (some v5.2.2.2) (pp qR) (List.flatten [lJ]) from⟨qR,lJ,j4,J,J⟩),J⟩),hJ,mi,J,J⟩ J))
def vn.f (s:cm) (o:dL) (a:lZ):Option (Er×cm×lZ):=(if(o.Kind==0)=true then(some true) else((CV.f o).bind λv3=>some (!v3))).bind λx1=>if x1=true then(some ((Er.dM 0),s,a)) else((dF s.fB (if(o.Kind !=1)=true then(some (o.Kind !=8)) else(some false)) (λx6=>some false)).bind λx4=>if x4=true then(some ((Er.num 148 4),s,a)) else((vm.f s o).bind λv7=>if(!(Er.isNil v7))=true then(some (v7,s,a)) else((if(o.Kind==1)=true then((yx.f s o.Map).bind λv23=>some (v23.1,a.Code,a.D,a.cK,a.Id,a.iG,a.iU,a.Stats.bJ,a.Stats.bK,a.Stats.bH,a.Stats.bF,a.Stats.bU,a.Stats.bO,v23.2)) else(if(o.Kind==8)=true then((x_.f s.nav).bind λv24=>some (v7,a.Code,a.D,a.cK,a.Id,a.iG,a.iU,a.Stats.bJ,a.Stats.bK,a.Stats.bH,a.Stats.bF,a.Stats.bU,a.Stats.bO,(cm.mk s.most v24 s.fB))) else(if(o.Kind==2)=true then((yw.f s o.A o.B).bind λv25=>some (v25.1,a.Code,a.D,a.cK,a.Id,a.iG,a.iU,a.Stats.bJ,a.Stats.bK,a.Stats.bH,a.Stats.bF,a.Stats.bU,a.Stats.bO,v25.2)) else(if(o.Kind==3)=true then((Aa.f s o.A o.B).bind λv26=>some (v26.2.1,a.Code,a.D,a.cK,v26.1,a.iG,a.iU,a.Stats.bJ,a.Stats.bK,a.Stats.bH,a.Stats.bF,a.Stats.bU,a.Stats.bO,v26.2.2)) else(if(o.Kind==4)=true then(dF s.fB ((FX.f o.A o.B).bind λv28=>(fP.f v28).bind λqG=>some (qG,a.Code,a.D,a.cK,a.Id,a.iG,a.iU,a.Stats.bJ,a.Stats.bK,a.Stats.bH,a.Stats.bF,a.Stats.bU,a.Stats.bO,s)) (λmm=>(xo.f mm o.A o.B).bind λv30=>(fP.f v30.1).bind λv31=>some (v31,a.Code,a.D,a.cK,a.Id,a.iG,a.iU,a.Stats.bJ,a.Stats.bK,a.Stats.bH,a.Stats.bF,a.Stats.bU,a.Stats.bO,(cm.mk s.most s.nav (some v30.2))))) else(if(o.Kind==5)=true then(dF s.fB ((FW.f o.A).bind λv33=>(fP.f v33).bind λPD=>some (PD,a.Code,a.D,a.cK,a.Id,a.iG,a.iU,a.Stats.bJ,a.Stats.bK,a.Stats.bH,a.Stats.bF,a.Stats.bU,a.Stats.bO,s)) (λnu=>(xn.f nu o.A).bind λv35=>(fP.f v35.1).bind λj7=>some (j7,a.Code,a.D,a.cK,a.Id,a.iG,a.iU,a.Stats.bJ,a.Stats.bK,a.Stats.bH,a.Stats.bF,a.Stats.bU,a.Stats.bO,(cm.mk s.most s.nav (some v35.2))))) else(if(o.Kind==6)=true then((vp.f s a o.A o.B).bind λv37=>some (v37.1,v37.2.2.Code,v37.2.2.D,v37.2.2.cK,v37.2.2.Id,v37.2.2.iG,v37.2.2.iU,v37.2.2.Stats.bJ,v37.2.2.Stats.bK,v37.2.2.Stats.bH,v37.2.2.Stats.bF,v37.2.2.Stats.bU,v37.2.2.Stats.bO,v37.2.1)) else(if(o.Kind==7)=true then((yy.f s a).bind λpc=>some (pc.1,pc.2.2.Code,pc.2.2.D,pc.2.2.cK,pc.2.2.Id,pc.2.2.iG,pc.2.2.iU,pc.2.2.Stats.bJ,pc.2.2.Stats.bK,pc.2.2.Stats.bH,pc.2.2.Stats.bF,pc.2.2.Stats.bU,pc.2.2.Stats.bO,pc.2.1)) else(some (v7,a.Code,a.D,a.cK,a.Id,a.iG,a.iU,a.Stats.bJ,a.Stats.bK,a.Stats.bH,a.Stats.bF,a.Stats.bU,a.Stats.bO,s)))))))))).bind λ(x8,x9,aK,bf,bt,aO,a_,cA,dS,dh,dm,du,h_,eN)=>some (x8,eN,(lZ.mk x9 aK bf bt aO a_ (gL.mk cA dS dh dm du h_))))))
def vn.R (el:Nat->Addr) (mD:Nat) (pq:Nat) (r:(Er×cm×lZ)):bk:=λu G=> ∃(v0:Value) (H0:Hp) (H1:Hp) (a2 n2 H2:_) (a3 n3 H3:_),gm 414 el r.1 v0 H0/\fR r.2.1 mD H1/\ak jE 94 r.2.2.iG a2 n2 H2/\ak (Fl.int .i64) 3 r.2.2.iU a3 n3 H3/\u=v0/\G=[H0,H1,(cl pq 52 [(ii r.2.2.Code),(ii r.2.2.D),(ii r.2.2.cK),(ii r.2.2.Id),(ll a2 r.2.2.iG n2),(ll a3 r.2.2.iU n3),(uu r.2.2.Stats.bJ),(uu r.2.2.Stats.bK),(uu r.2.2.Stats.bH),(uu r.2.2.Stats.bF),(uu r.2.2.Stats.bU),(uu r.2.2.Stats.bO)]),H2,H3]
theorem vn.c (H:vn.f s o a=some r) (hG:fK 414 fa gP el F) (cX:fR s bh dZ) (AQ:aP (Fl.int .u8) o.Map BT F) (AG:aa o.Map<=CM) (oh:ak jE 94 a.iG vH wu vx) (og:ak (Fl.int .i64) 3 a.iU vG wq vw):
 QR 55 [(pp bh),(.agg #[(ii o.Kind),(ii o.A),(ii o.B),(ll BT o.Map CM)]),(pp pq)] [dZ,(cl pq 52 [(ii a.Code),(ii a.D),(ii a.cK),(ii a.Id),(ll vH a.iG wu),(ll vG a.iU wq),(uu a.Stats.bJ),(uu a.Stats.bK),(uu a.Stats.bH),(uu a.Stats.bF),(uu a.Stats.bU),(uu a.Stats.bO)]),vx,vw] [] F (vn.R el bh pq r):=by
 unfold vn.f at H;refine aG Tryz.func55 J J (λW=>rc T 2 (nc T J (λb5=>fz J (ro T 5 (mq H [0,2,4] [4,0,0,0,0,0] (λz2 (x1:Bool)=>(x1=z2,[(7,(bb x1))],[])) J J (λz2 Z1 _=>?_) ?_)))))
 ·refine rc T 2 (lf T 5 J (ro T 2 (ab 11 J Z1 (λZ1=>?_) (λZ1=>?_))))
  ·refine ro T 7 (am _ [4,0,0,0,0,0] (oi Z1) J J)
  refine lm T 5 J (k [] J adD Z1 (CV.c · (rO AQ 4) AG) (λv3 Z1=>ro T 5 (am _ [4,0,0,0,0,0] (oi Z1) J J)))
 rintro _ x1 rfl H;refine cb J H (λH=>?_) (λH=>?_)
 ·refine rc T 2 (lg T J (su (j:=0) J hG (g:=0) (by decide)) (ro T 6 ?_))
  cases H;refine aq J (p1 T J [6,1,1,1,1,0] ⟨(.iface 414 (.pointer (some (el 0)))),[],dZ,vH,wu,vx,vG,wq,vw,oI,cX,oh,og,J,J⟩ J)
 refine mq H [0,2,4] [0,0,0,0,0,0] (λz5 (x4:Bool)=>(x4=z5,[(17,(bb x4))],[])) J J (λz5 Z5 _=>?_) ?_
 ·obtain⟨b8,H8,ajm,H9,s8,s9,r_⟩:=(λx=>x) cX;refine bX 1 (congrArg some r_) (fz J ?_);rcases q6:s.fB with _ |x6
  ·replace Z5:=ff q6 Z5;rw[q6] at s9;obtain⟨rfl,rfl⟩:=s9;refine rc T 4 (lf T 5 J (ro T 3 (lf T 4 J (ro T 3 (ab 28 J Z5 (λZ5=>?_) (λZ5=>?_))))))
   ·refine ro T 1 (lf T 4 J (ro T 5 (cq [5,5,5] J r_ (am _ [0,4,0,0,0,0] (oi Z5) J J))))
   refine ro T 7 (cq [5,5,5] J r_ (am _ [0,4,0,0,0,0] (oi Z5) J J))
  replace Z5:=fg q6 Z5;rw[q6] at s9;obtain⟨jO,cE,cW,rfl,Sa⟩:=s9;refine bX 7 (congrArg some Sa) (fz J (rc T 4 (lf T 5 J (ro T 14 (cq [7] J Sa (cq [5,5,5] J r_ (am _ [0,4,0,0,0,0] (oi Z5) J J)))))))
 rintro _ x4 rfl H;refine cb J H (λH=>?_) (λH=>?_)
 ·refine rc T 2 (bx J (iq T J J J J) (ro T 6 ?_))
  cases H;refine aq J (p1 T J [6,1,1,1,1,0] ⟨(.iface 148 (ii 4)),[],dZ,vH,wu,vx,vG,wq,vw,rY,cX,oh,og,J,J⟩ J)
 refine rc T 7 (lm T 5 J (kr (vm.R el) [1] [1] J adE H (vm.c · (dE hG (j:=0) J) cX (rO AQ 0) AG) (λv7 H=>?_)));rintro jf _ ⟨jf,dT,dg,rfl,rfl⟩;refine fz J (ro T 6 (bx J (DY T J J J (rZ dg (j:=5) J)) (ro T 2 (cb J H (λH=>?_) (λH=>?_)))))
 ·refine rc T 8 ?_
  cases H;exact p1 T J [5,5,1,1,1,0] ⟨jf,dT,dZ,vH,wu,vx,vG,wq,vw,dg,cX,oh,og,J,J⟩ J
 refine rc T 2 (mq H [] [0] (λz22 (⟨x8,x9,aK,bf,bt,aO,a_,cA,dS,dh,dm,du,h_,eN,Ld,fm,kc,n15,dO,ik,n16,fx,eP⟩:Er×Int×Int×Int×Int×List fY×List Int×Int×Int×Int×Int×Int×Int×cm×Value×Hp×Option Addr×Nat×Hp×Option Addr×Nat×Hp×Hp)=>((x8,x9,aK,bf,bt,aO,a_,cA,dS,dh,dm,du,h_,eN)=z22/\gm 414 el x8 Ld fm/\ak jE 94 aO kc n15 dO/\ak (Fl.int .i64) 3 a_ ik n16 fx/\fR eN bh eP,[(6,Ld)],[fm,(cl pq 52 [(ii x9),(ii aK),(ii bf),(ii bt),(ll kc aO n15),(ll ik a_ n16),(uu cA),(uu dS),(uu dh),(uu dm),(uu du),(uu h_)]),dO,fx,eP])) J J (λz22 aY _=>?_) ?_)
 ·refine rc T 3 (lf T 4 J (ro T 9 (cb J aY (λaY=>?_) (λaY=>?_))))
  ·refine rc T 3 (lf T 4 J (kr (yx.R el bh) [] [6] J adF aY (yx.c · (dE hG (j:=0) J) cX (rO AQ 0) AG) (λv23 aY=>?_)));rintro fQ _ ⟨fQ,fo,lh,fG,hJ,rfl,rfl⟩;refine fz J (ro T 4 (am (_,_,_,_,_,_,_,_,_,_,_,_,_,_,_,_,_,_,_,_,_,_,_) [0,5,0,0,0,2] ⟨oi aY,fG,oh,og,hJ⟩ J J))
  refine rc T 6 (cb J aY (λaY=>?_) (λaY=>?_))
  ·obtain⟨B1,lJ,W_,mr,j4,iv,abt⟩:=(λx=>x) cX;refine bX 6 (congrArg some abt) (fz J (rc T 4 (lf T 6 J (kr (x_.R B1) [] [7] J adG aY (x_.c · j4) (λv24 aY=>?_)))));rintro _ _ ⟨jL,hU,rfl,rfl⟩;refine fz J (ro T 3 (gq [6,7,6] J (am (_,_,_,_,_,_,_,_,_,_,_,_,_,_,_,_,_,_,_,_,_,_,_) [0,4,0,0,0,1] ⟨oi aY,dg,oh,og,(show fR (cm.mk s.most v24 s.fB) bh (List.flatten [(cl bh 103 [(ii s.most),(pp B1),W_]),jL,mr]) from⟨B1,jL,W_,mr,hU,iv,J⟩)⟩ J J)))
  refine rc T 6 (cb J aY (λaY=>?_) (λaY=>?_))
  ·refine rc T 3 (lf T 4 J (ro T 1 (lf T 4 J (kr (yw.R el bh) [] [6] J adH aY (yw.c · (dE hG (j:=0) J) cX) (λv25 aY=>?_)))));rintro v24 _ ⟨v24,rK,ig,mj,jG,rfl,rfl⟩;refine fz J (ro T 4 (am (_,_,_,_,_,_,_,_,_,_,_,_,_,_,_,_,_,_,_,_,_,_,_) [0,5,0,0,0,2] ⟨oi aY,mj,oh,og,jG⟩ J J))
  refine rc T 6 (cb J aY (λaY=>?_) (λaY=>?_))
  ·refine rc T 4 (lf T 4 J (ro T 1 (lf T 4 J (kr (Aa.R el bh) [] [6] J adI aY (Aa.c · (dE hG (j:=0) J) cX) (λv26 aY=>?_)))));rintro _ _ ⟨v26,pd,Fb,od,wH,rfl,rfl⟩;refine fz J (ro T 5 (j5 T 1 J (ro T 4 (am (_,_,_,_,_,_,_,_,_,_,_,_,_,_,_,_,_,_,_,_,_,_,_) [0,5,0,0,0,2] ⟨oi aY,od,oh,og,wH⟩ J J))))
  refine rc T 6 (cb J aY (λaY=>?_) (λaY=>?_))
  ·obtain⟨AB,rL,ajk,rM,rp,pQ,Jz⟩:=(λx=>x) cX;refine bX 6 (congrArg some Jz) (fz J ?_);rcases C4:s.fB with _ |mm
   ·replace aY:=ff C4 aY;rw[C4] at pQ;obtain⟨rfl,rfl⟩:=pQ;refine ke [0,4] [0,0,0,0,0,1,1,1] J J (fz J (rq [] [0,0,0,0,0,0,0,0] J mix (bR bQ) (λhg pf=>ha T 8 [0,1,2] sz hg pf J (al T 3 5 sz hg pf J J J (ha T 6 [4] sz hg pf J (al T 5 4 sz hg pf J J J (ha T 4 [6] sz hg pf J (al T 7 4 sz hg pf J J J (ao 8 (kh [] J Tj aY (FX.c ·) (λv28 aY=>an sz (ao 9 (kR (fP.R el) [] [] J vY aY (fP.c · (dE hG (j:=0) J)) (λqG aY=>?_))))))))))))));rintro v33 _ ⟨v33,Iv,wI,rfl,rfl⟩;refine fz J (an (so [0,0,0,0,0,0,0,0]) (ha T 0 [10] (so [0,0,0,0,0,0,0,0]) hg pf J (ae (rx T 2 (cq [5,5,5] J Jz (am (_,_,_,_,_,_,_,_,_,_,_,_,_,_,_,_,_,_,_,_,_,_,_) [0,4,0,0,0,1] ⟨oi aY,wI,oh,og,cX⟩ J J))))))
   replace aY:=fg C4 aY;rw[C4] at pQ;obtain⟨xj,Iu,zU,rfl,abw⟩:=pQ;refine bX 8 (congrArg some abw) (fz J (ke [0,4] [0,0,0,0,0,1,1,1] J J (fz J (rq [8] [0,0,0,0,0,0,0,0] J mix (bR bQ) (λhg pf=>ha T 8 [0,1,2] sz hg pf J (al T 3 5 sz hg pf J J J (ha T 6 [4] sz hg pf J (al T 5 4 sz hg pf J J J (ha T 4 [6] sz hg pf J (al T 7 4 sz hg pf J J J (ao 8 (kR (xo.R xj) [] [7] J Tj aY (xo.c · zU) (λv30 aY=>?_)))))))))))));rintro _ _ ⟨vv,yr,rfl,rfl⟩;refine fz J (an sl (ao 9 (kR (fP.R el) [] [] J vY aY (fP.c · (dE hG (j:=0) J)) (λv31 aY=>?_))));rintro v35 _ ⟨v35,Iw,KQ,rfl,rfl⟩;refine fz J (an sl (hb T 10 sl hg pf J (ae (rx T 2 (gq [7] J (gq [5,5,6] J (am (_,_,_,_,_,_,_,_,_,_,_,_,_,_,_,_,_,_,_,_,_,_,_) [0,4,0,0,0,1] ⟨oi aY,KQ,oh,og,(show fR (cm.mk s.most s.nav (some v30.2)) bh (List.flatten [(cl bh 103 [(ii s.most),(pp AB),(pp xj)]),rL,(List.flatten [vv])]) from⟨AB,rL,(pp xj),(List.flatten [vv]),rp,(show BJ (some v30.2) (pp xj) (List.flatten [vv]) from⟨xj,vv,yr,J,J⟩),J⟩)⟩ J J)))))))
  refine rc T 6 (cb J aY (λaY=>?_) (λaY=>?_))
  ·obtain⟨QG,Ap,ajl,Lp,Bc,Bd,R7⟩:=(λx=>x) cX;refine bX 6 (congrArg some R7) (fz J ?_);rcases Hn:s.fB with _ |nu
   ·replace aY:=ff Hn aY;rw[Hn] at Bd;obtain⟨rfl,rfl⟩:=Bd;refine ke [0,4] [0,0,0,0,0,1,1,1] J J (fz J (rq [] [0,0,0,0,0,0,0,0] J mix (bR bQ) (λhg pf=>ha T 6 [0,1,2] sz hg pf J (al T 3 5 sz hg pf J J J (ha T 4 [4] sz hg pf J (al T 5 4 sz hg pf J J J (ao 6 (kh [] J Tk aY (FW.c ·) (λv33 aY=>an sz (ao 7 (kR (fP.R el) [] [] J vY aY (fP.c · (dE hG (j:=0) J)) (λPD aY=>?_))))))))))));rintro Lf _ ⟨Lf,lK,O1,rfl,rfl⟩;refine fz J (an (so [0,0,0,0,0,0,0,0]) (ha T 0 [8] (so [0,0,0,0,0,0,0,0]) hg pf J (ae (rx T 2 (cq [5,5,5] J R7 (am (_,_,_,_,_,_,_,_,_,_,_,_,_,_,_,_,_,_,_,_,_,_,_) [0,4,0,0,0,1] ⟨oi aY,O1,oh,og,cX⟩ J J))))))
   replace aY:=fg Hn aY;rw[Hn] at Bd;obtain⟨FM,Fe,zV,rfl,abx⟩:=Bd;refine bX 8 (congrArg some abx) (fz J (ke [0,4] [0,0,0,0,0,1,1,1] J J (fz J (rq [6] [0,0,0,0,0,0,0,0] J mix (bR bQ) (λhg pf=>ha T 6 [0,1,2] sz hg pf J (al T 3 5 sz hg pf J J J (ha T 4 [4] sz hg pf J (al T 5 4 sz hg pf J J J (ao 6 (kR (xn.R FM) [] [7] J Tk aY (xn.c · zV) (λv35 aY=>?_)))))))))));rintro _ _ ⟨gJ,tV,rfl,rfl⟩;refine fz J (an sl (ao 7 (kR (fP.R el) [] [] J vY aY (fP.c · (dE hG (j:=0) J)) (λj7 aY=>?_))));rintro v44 _ ⟨v44,Xy,De,rfl,rfl⟩;refine fz J (an sl (hb T 8 sl hg pf J (ae (rx T 2 (gq [7] J (gq [5,5,6] J (am (_,_,_,_,_,_,_,_,_,_,_,_,_,_,_,_,_,_,_,_,_,_,_) [0,4,0,0,0,1] ⟨oi aY,De,oh,og,(show fR (cm.mk s.most s.nav (some v35.2)) bh (List.flatten [(cl bh 103 [(ii s.most),(pp QG),(pp FM)]),Ap,(List.flatten [gJ])]) from⟨QG,Ap,(pp FM),(List.flatten [gJ]),Bc,(show BJ (some v35.2) (pp FM) (List.flatten [gJ]) from⟨FM,gJ,tV,J,J⟩),J⟩)⟩ J J)))))))
  refine rc T 6 (cb J aY (λaY=>?_) (λaY=>?_))
  ·refine rc T 4 (lf T 4 J (ro T 1 (lf T 4 J (kr (vp.R el bh pq) [] [6,1,1,1] J adJ aY (vp.c · (dE hG (j:=0) J) cX oh og) (λv37 aY=>?_)))));rintro v46 _ ⟨v46,Xz,Ff,Ft,n48,Fg,a49,n49,XA,O7,HH,KR,s49,rfl,rfl⟩;refine fz J (ro T 4 (am (_,_,_,_,_,_,_,_,_,_,_,_,_,_,_,_,_,_,_,_,_,_,_) [0,2,3,3,3,2] ⟨oi aY,O7,KR,s49,HH⟩ J J))
  refine rc T 6 (cb J aY (λaY=>?_) (λaY=>?_))
  ·refine rc T 3 (kr (yy.R el bh pq) [] [6,1,1,1] J adK aY (yy.c · (dE hG (j:=0) J) cX oh og) (λpc aY=>?_));rintro v50 _ ⟨v50,XB,XC,Lx,n52,Lr,a53,n53,XD,O9,KS,EH,O_,rfl,rfl⟩;refine fz J (ro T 4 (am (_,_,_,_,_,_,_,_,_,_,_,_,_,_,_,_,_,_,_,_,_,_,_) [0,2,3,3,3,2] ⟨oi aY,O9,EH,O_,KS⟩ J J))
  refine rc T 3 (am (_,_,_,_,_,_,_,_,_,_,_,_,_,_,_,_,_,_,_,_,_,_,_) [0,4,0,0,0,1] ⟨oi aY,dg,oh,og,cX⟩ J J)
 rintro _ ⟨x8,x9,aK,bf,bt,aO,a_,cA,dS,dh,dm,du,h_,eN,Ld,fm,kc,n15,dO,ik,n16,fx,eP⟩ ⟨rfl,gi,dW,eK,fF⟩ H;refine rc T 7 ?_
 cases H;exact p1 T J [1,4,1,1,1,0] ⟨Ld,fm,eP,kc,n15,dO,ik,n16,fx,gi,fF,dW,eK,J,J⟩ J
def HV.f (err:Er):Option Int:=(vP.f err (Er.dM 0)).bind λv1=>if v1=true then(some 5) else((F0.f err).bind λv2=>if(Option.isSome v2)=true then(some (Option.getD v2 0)) else(some 0))
theorem HV.c (H:HV.f err=some r) (hG:fK 414 fa gP el F) (DX:lX 414 el err PE F):
 QU 56 [PE] [] F (ii r):=by
 unfold HV.f at H;refine aG Tryz.func56 J J (λW=>rc T 7 (nc T J (λb1=>fz J (ro T 7 (lg T J (su (j:=0) J hG (g:=0) (by decide)) (k [] J JL H (vP.c err (Er.dM 0) _ _ · (dE hG (j:=0) J) (F1 DX (j:=0) J) Jd) (λv1 H=>ro T 3 (cb J H (λH=>?_) (λH=>?_)))))))))
 ·refine rc T 8 ?_
  cases H;exact p0 T J [0] J
 refine rc T 3 (bx J (iq T J J J J) ?_);obtain⟨v2,V3,H⟩:=gu H;refine aV (vJ (As:=[(cl b1 148 [(ii 0)])]) (R:=[F]) (B:=λ_=>[(cl b1 148 [(ii (Option.getD v2 0))])]) [1] J J J J JM J J (F0.c err v2 _ V3 (dE hG (j:=0) J) (F1 DX (j:=0) J)) (λ_=>ro T 3 (cb J H (λH=>?_) (λH=>?_))))
 ·refine rc T 2 (lf T 1 J (ro T 6 ?_))
  cases H;exact p0 T J [0] J
 refine rc T 9 ?_
 cases H;exact p0 T J [0] J
theorem WY.c {b:Nat} {c0 c1 c2:Value} (F:Hp) (m:(b,Obj.cells #[c0,c1,c2] 103 (0,0))∈F):
 QU 42 [(pp b)] [] F c1:=by
 refine aG Tryz.func42 J J (λW=>rc T 12 (e_ J (rc T 7 (lg T J (nU (j:=0) m J J) (ro T 4 (FJ (T:=T) J (.tmp J .nil) (λw o=>⟨(),J,CZ [0] J o⟩)))))))
def z_.f (s:cm):Option gL:=(CO.f s.nav).bind λv1=>some v1
theorem z_.c (H:z_.f s=some r) (cX:fR s bh dZ):
 QU 22 [(pp bh)] [dZ] F (.agg #[(uu r.bJ),(uu r.bK),(uu r.bH),(uu r.bF),(uu r.bU),(uu r.bO)]):=by
 unfold z_.f at H;refine aG Tryz.func22 J J (λW=>rc T 2 (nc T J (λb2=>fz J (ro T 3 ?_))));obtain⟨b4,H4,yH,H5,s4,s5,dA⟩:=(λx=>x) cX;refine bX 0 (congrArg some dA) (fz J (rc T 2 (aV (vJ (B:=λ_=>[]) [] J J J J Tb J J (WY.c _ (CI (j:=2) J)) (λ_=>k [3] J adt H (CO.c · s4) (λv1 H=>j5 T 1 J (ro T 3 ?_)))))))
 cases H;refine cq [2,2,2] J dA (pb T J (.cT (j:=1) [(uu r.bJ),(uu r.bK),(uu r.bH),(uu r.bF),(uu r.bU),(uu r.bO)] J J J J J J J .nil) [2,0] () J J)
def kC.f (s:cm) (o:dL):Option (lZ×cm):=(vn.f s o (lZ.mk 0 0 5 (-1) ([]:List fY) ([]:List Int) (gL.mk 0 0 0 0 0 0))).bind λv1=>if(!(Er.isNil v1.1))=true then((HV.f (Er.wrap 110 [o.Kind] v1.1)).bind λv2=>(z_.f v1.2.1).bind λv3=>some ((lZ.mk v2 v1.2.2.D v1.2.2.cK v1.2.2.Id v1.2.2.iG v1.2.2.iU v3),v1.2.1)) else((z_.f v1.2.1).bind λv4=>some ((lZ.mk v1.2.2.Code v1.2.2.D v1.2.2.cK v1.2.2.Id v1.2.2.iG v1.2.2.iU v4),v1.2.1))
def kC.R (el:Nat->Addr) (mD:Nat) (r:(lZ×cm)):bk:=λu G=> ∃(a0 n0 H0:_) (a1 n1 H1:_) (H2:Hp),ak jE 94 r.1.iG a0 n0 H0/\ak (Fl.int .i64) 3 r.1.iU a1 n1 H1/\fR r.2 mD H2/\u=(.agg #[(ii r.1.Code),(ii r.1.D),(ii r.1.cK),(ii r.1.Id),(ll a0 r.1.iG n0),(ll a1 r.1.iU n1),(uu r.1.Stats.bJ),(uu r.1.Stats.bK),(uu r.1.Stats.bH),(uu r.1.Stats.bF),(uu r.1.Stats.bU),(uu r.1.Stats.bO)])/\G=[H0,H1,H2]
theorem kC.c (H:kC.f s o=some r) (hG:fK 414 fa gP el F) (cX:fR s bh dZ) (AQ:aP (Fl.int .u8) o.Map BT F) (AG:aa o.Map<=CM):
 QR 24 [(pp bh),(.agg #[(ii o.Kind),(ii o.A),(ii o.B),(ll BT o.Map CM)])] [dZ] [] F (kC.R el bh r):=by
 unfold kC.f at H;refine aG Tryz.func24 J J (λW=>rc T 2 (nc T J (λb2=>fz J (nc T J (λb3=>fz J (ro T 5 (nc T J (λb4=>fz J (j5 T 4 J (ro T 9 (e_ J (rc T 5 (j5 T 4 J (ro T 1 (ks [0,3,4,5] J (rx T 1 (rc T 4 (lm T 2 J (aq J (aq J (kr (vn.R el bh b4) [] [0,3,3,3] J adu H (vn.c (a:=(lZ.mk 0 0 5 (-1) ([]:List fY) ([]:List Int) (gL.mk 0 0 0 0 0 0))) · (dE hG (j:=0) J) cX (rO AQ 0) AG (ak.nil (k:=jE) (E:=94)) (ak.nil (k:=(Fl.int .i64)) (E:=3))) (λv1 H=>?_))))))))))))))))))))));rintro v7 _ ⟨v7,H7,H8,a9,n9,H9,cz,n10,bZ,s7,s8,s9,bT,rfl,rfl⟩;refine fz J (ro T 6 (bx J (DY T J J J (rZ s7 (j:=3) J)) (ro T 2 (cb J H (λH=>?_) (λH=>?_)))))
 ·refine rc T 2 (lf T 1 J (ro T 1 (bx J (RQ (vs:=[(0,(ii o.Kind)),(1,v7)]) T [(0,[(ii o.Kind)]),(1,[v7])] J J J J J (by simp only[List.map,RD s7];rfl) J) ?_)))
  refine nc T J (λjO=>fz J (gq [8,3] J (bx J (iq T J J J J) (k [] J adv H (HV.c · (dE hG (j:=0) J) (rZ (qg s7) (j:=7) J)) (λv2 H=>ro T 1 (j5 T 4 J (ro T 5 (k [3] J SV H (z_.c · s8) (λv3 H=>ro T 1 (j5 T 4 J (ro T 1 (ke [4,5] [0,1,1,1,1,1] J J (rx T 3 (lm T 3 J (j5 T 1 J (ro T 1 (rx T 2 ?_)))))))))))))))))
  cases H;exact pb T J (.cT (j:=1) [(ii v2),(ii v1.2.2.D),(ii v1.2.2.cK),(ii v1.2.2.Id),(ll a9 v1.2.2.iG n9),(ll cz v1.2.2.iU n10),(uu v3.bJ),(uu v3.bK),(uu v3.bH),(uu v3.bF),(uu v3.bU),(uu v3.bO)] J J J J J J J .nil) [4,4,2,0] ⟨(_,_),a9,n9,H9,cz,n10,bZ,H8,s9,bT,s8,J,J⟩ J J
 refine rc T 5 (k [4] J SV H (z_.c · s8) (λv4 H=>ro T 1 (j5 T 5 J (ro T 4 (lm T 5 J (j5 T 2 J (ro T 1 (ke [4] [0,1,2,3,3] J J (rx T 1 (rc T 1 ?_))))))))))
 cases H;exact pb T J (.cT (j:=1) [(ii v1.2.2.Code),(ii v1.2.2.D),(ii v1.2.2.cK),(ii v1.2.2.Id),(ll a9 v1.2.2.iG n9),(ll cz v1.2.2.iU n10),(uu v4.bJ),(uu v4.bK),(uu v4.bH),(uu v4.bF),(uu v4.bU),(uu v4.bO)] J J J J J J J .nil) [3,3,2,0] ⟨(_,_),a9,n9,H9,cz,n10,bZ,H8,s9,bT,s8,J,J⟩ J J
def sM.f (s:cm):Option aF:=(yc.f s.nav).bind λv1=>some v1
def sM.R (r:aF):bk:=λu G=> ∃a0 n0 H0,ak (Fl.int .u8) 5 r.C a0 n0 H0/\u=(.agg #[(ii r.W),(ii r.H),(ll a0 r.C n0)])/\G=[H0]
theorem sM.c (H:sM.f s=some r) (cX:fR s bh dZ):
 QR 14 [(pp bh)] [dZ] [dZ] F (sM.R r):=by
 unfold sM.f at H;refine aG Tryz.func14 J J (λW=>rc T 2 (nc T J (λb2=>fz J (ro T 3 ?_))));obtain⟨b4,H4,yH,H5,s4,s5,dA⟩:=(λx=>x) cX;refine bX 0 (congrArg some dA) (fz J (rc T 2 (aV (vJ (B:=λ_=>[]) [] J J J J Tb J J (WY.c _ (CI (j:=2) J)) (λ_=>kr yc.R [3] [3] J ado H (yc.c · s4) (λv1 H=>?_))))));rintro _ _ ⟨a6,n6,H6,s6,rfl,rfl⟩;refine fz J (j5 T 1 J (ro T 3 ?_))
 cases H;refine cq [2,4,2] J dA (pb T J (.cT (j:=1) [(ii r.W),(ii r.H),(ll a6 r.C n6)] J J J J J J J .nil) [2,2,0] ⟨(_,_),a6,n6,H6,s6,J,J⟩ J J)
theorem WZ.c {b:Nat} {c0 c1 c2:Value} (F:Hp) (m:(b,Obj.cells #[c0,c1,c2] 103 (0,0))∈F):
 QU 53 [(pp b)] [] F c2:=by
 refine aG Tryz.func53 J J (λW=>rc T 12 (e_ J (rc T 7 (lg T J (nU (j:=0) m J J) (ro T 4 (FJ (T:=T) J (.tmp J .nil) (λw o=>⟨(),J,CZ [0] J o⟩)))))))
def Bq.f (s:cm):Option (List bB):=dF s.fB ((AL.f).bind λv2=>some v2) (λx1=>(qa.f x1).bind λv3=>some v3)
def Bq.R (r:(List bB)):bk:=λu G=> ∃a0 n0 H0,ak lT 67 r a0 n0 H0/\u=(ll a0 r n0)/\G=[H0]
theorem Bq.c (H:Bq.f s=some r) (cX:fR s bh dZ):
 QR 23 [(pp bh)] [dZ] [dZ] F (Bq.R r):=by
 unfold Bq.f at H;refine aG Tryz.func23 J J (λW=>rc T 6 ?_);obtain⟨b3,H3,vr,H4,s3,s4,cI⟩:=(λx=>x) cX;refine bX 0 (congrArg some cI) (fz J ?_);rcases q1:s.fB with _ |x1
 ·replace H:=ff q1 H;rw[q1] at s4;obtain⟨rfl,rfl⟩:=s4;refine rc T 2 (aV (vJ (B:=λ_=>[]) [] J J J J Td J J (WZ.c _ (CI (j:=1) J)) (λ_=>kr AL.R [] [] J JK H (AL.c ·) (λv2 H=>?_))));rintro _ _ ⟨a7,n7,H7,s7,rfl,rfl⟩;refine fz J (ro T 4 ?_)
  cases H;refine cq [1,1,1] J cI (p1 T J [1,1,0] ⟨a7,n7,H7,s7,J,J⟩ J)
 replace H:=fg q1 H;rw[q1] at s4;obtain⟨b6,H6,s6,rfl,xy⟩:=s4;refine bX 3 (congrArg some xy) (fz J (rc T 2 (aV (vJ (B:=λ_=>[]) [] J J J J Td J J (WZ.c _ (CI (j:=1) J)) (λ_=>kr qa.R [3] [3] J JK H (qa.c · s6) (λv3 H=>?_))))));rintro _ _ ⟨a8,n8,H8,s8,rfl,rfl⟩;refine fz J (ro T 4 ?_)
 cases H;refine cq [4] J xy (cq [1,1,2] J cI (p1 T J [1,1,0] ⟨a8,n8,H8,s8,J,J⟩ J))
end
end Go.Proofs.YthodkonhneebbaaGreatDoor
