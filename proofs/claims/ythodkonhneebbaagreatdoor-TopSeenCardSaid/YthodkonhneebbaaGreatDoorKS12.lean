/- What the functions of some packages compute, each as a function of plain Lean, with its contract. No condition. -/
import Derived.Test.YthodkonhneebbaaGreatDoorKST
import Derived.Test.YthodkonhneebbaaGreatDoorKS6
import Derived.Test.YthodkonhneebbaaGreatDoorKS7
import Derived.Test.YthodkonhneebbaaGreatDoorKS11
import Derived.Test.YthodkonhneebbaaGreatDoorKS10
namespace Go.Hx
section
variable {W : World} {P : Program} {n : Nat} {F K : Act -> World -> Prop} {Q : Exit -> Act -> World -> Prop} {env : Env} {HL : List Hp} {ops : Array Oper} {i : Nat} {rest : List Nat}
def gqF (js:List Nat) (HL:List Hp):Option (List Hp):=fH (sR js HL++[(sA js HL).flatten])
theorem gq (js:List Nat) {kt:List Hp} (hs:gqF js HL=some kt) (h:aJ W n F env kt):aJ W n F env HL:=f_ js (Bs js HL) (by rw[Cj hs];exact h)
def RI (js:List Nat) (HL:List Hp):Option (List Hp×List Hp):=match fH (sA js HL),fH (sR js HL) with
 |some A,some R=>some (A,R)
 |_,_=>none
theorem cq (js:List Nat) {As R:List Hp} {H:Hp} (hs:RI js HL=some (As,R)) (hH:H=As.flatten) (h:aJ W n F env (R++[H])):aJ W n F env HL:=by
 unfold RI at hs;split at hs
 ·rename_i A R' h1 h2;simp only[Option.some.injEq,Prod.mk.injEq] at hs;obtain⟨rfl,rfl⟩:=hs;exact dw js (by rw[Bs,Cj h1,Cj h2]) hH h
 ·cases hs
theorem aq {kt:List Hp} (hs:fH (HL++[[]])=some kt) (h:aJ W n F env kt):aJ W n F env HL:=bq (by rw[Cj hs];exact h)
theorem rq (late js:List Nat) {id:Nat} {H0:List Hp} (h0:nH js HL=some H0) (hm:P.follows .mixedOrders=true) (j_:PF Q)
 (h:po ops (DX ops)=true->PF Q->aJ W n (gS P ops Q (SO W H0) late ops.size (Array.replicate ops.size false)) env HL) (hg:po ops (DX ops)=true:=by kernel_rfl):
 aJ W n ((Code.region id ops true).wp P Q) env HL:=rg late js hm j_ (by rw[HF h0];exact h) hg
def Ls (T:Ty P) (ops:Array Oper) (env:Env) (i j:Nat) (HL:List Hp):Option (Nat×Nat×List Hp):=match Ip T ops env i j HL with
 |some (a,b,L)=>match fH L with
  |some L'=>some (a,b,L')
  |none=>none
 |none=>none
theorem Xx {T:Ty P} {j:Nat} {a b:Nat} {kt:List Hp} (h:Ls T ops env i j HL=some (a,b,kt)):Ip T ops env i j HL=some (a,b,kt):=by
 unfold Ls at h;split at h
 ·rename_i a' b' L h1;split at h
  ·rename_i L' h2;simp only[Option.some.injEq,Prod.mk.injEq] at h;obtain⟨rfl,rfl,rfl⟩:=h;rw[h1,Cj h2]
  ·cases h
 ·cases h
theorem jj (T:Ty P) {b:Nat} {kt:List Hp} (j:Nat) (h1:Ls T ops env i j HL=some (b,b,kt)) (h:aJ W n K env kt):aJ W n (wpOp P ops Q i K) env HL:=sf T j (Xx h1) h
theorem j3 (T:Ty P) {b:Nat} {kt:List Hp} (j:Nat) (h1:Ls T ops env i j HL=some (b,b,kt)) (h:aJ W n (wpOps P ops Q rest) env kt):aJ W n (wpOps P ops Q (i::rest)) env HL:=sg T j (Xx h1) h
theorem afH {A B X:Hp} (h:X=List.flatten [A,B]): ∃C:Hp,C=B/\X=List.flatten [A,C]:=⟨_,J,h⟩
end
end Go.Hx
namespace Go.Proofs.YthodkonhneebbaaGreatDoor
open Go.Hx
set_option maxRecDepth 100000
set_option linter.unusedSimpArgs false
set_option linter.unusedVariables false
set_option maxHeartbeats 4000000
set_option autoImplicit true
set_option relaxedAutoImplicit true
noncomputable section
def xO.f (ag:Int):Option (Option bV):=if ag<1 then(some none) else((ya.f ag).bind λv1=>cT v1 (none) (λfm=>some (some (bV.mk none fm (fZ.mk 0 0 0 0 0 0)))))
def xO.R (r:(Option bV)):bg:=λu G=> ∃(u0:Value) (G0:List Hp),Yq r u0 G0/\u=u0/\G=G0
theorem xO.c (H:xO.f ag=some r):
 QR 51 [(ii ag)] [] [] F (xO.R r):=by
 unfold xO.f at H;refine aD Tryz.func51 J J (λW=>rc T 12 (cd J H (λH=>?_) (λH=>?_)))
 ·refine rc T 7 ?_
  cases H;exact p1 T J [0] ⟨_,_,⟨J,J⟩,J,J⟩ J
 refine rc T 5 (kr ya.R [] [] J aeD H (ya.c ·) (λv1 H=>?_));rintro _ _ ⟨_,_,O3,rfl,rfl⟩;rcases v1 with _ |fm
 ·replace H:=eW J H
  cases H
 replace H:=eX J H;obtain⟨b1,H1,s1,rfl,rfl⟩:=O3;refine ro T 1 (nc T J (λb2=>fz J (ro T 4 ?_)))
 cases H;refine aq J (gq [2,1,1] J (p1 T J [1,0] ⟨_,_,⟨b2,(List.flatten [(cl b2 135 [(.pointer none),(.pointer none),(.pointer none),(pp b1),(uu 0),(uu 0),(uu 0),(uu 0),(uu 0),(uu 0)]),H1,[]]),(show gW (bV.mk none fm (fZ.mk 0 0 0 0 0 0)) b2 (List.flatten [(cl b2 135 [(.pointer none),(.pointer none),(.pointer none),(pp b1),(uu 0),(uu 0),(uu 0),(uu 0),(uu 0),(uu 0)]),H1,[]]) from⟨b1,H1,(.pointer none),(.pointer none),(.pointer none),[],s1,(show vp none (.pointer none) (.pointer none) (.pointer none) [] from⟨J,J,J,J⟩),J⟩),J,J⟩,J,J⟩ J))
def qk.f (n:bV) (cell:Int):Option Int:=cT n.core (none) (λx1=>(iU.f x1.aB cell).bind λv2=>some v2)
theorem qk.c (H:qk.f n cell=some r) (ji:gW n df jn):
 QU 113 [(pp df),(ii cell)] [jn] F (ii r):=by
 unfold qk.f at H;refine aD Tryz.func113 J J (λW=>rc T 12 (eT J (rc T 3 ?_)));obtain⟨b3,H3,ui,P_,Qa,H4,s3,s4,ct⟩:=(λx=>x) ji;refine bS 0 (congrArg some ct) (fz J ?_);rcases q1:n.core with _ |x1
 ·replace H:=eW q1 H
  cases H
 replace H:=eX q1 H;rw[q1] at s4;obtain⟨b6,H6,b7,H7,b8,H8,s6,s7,s8,rfl,rfl,rfl,s_⟩:=s4;refine bS 3 (congrArg some s_) (fz J (rc T 4 (lf T 1 J (ro T 1 (k [3] J vO H (iU.c · s6) (λv2 H=>ro T 4 ?_))))))
 cases H;refine cq [3,3,3] J s_ (cq [1,1,1] J ct (p0 T J [1,0] J))
def zw.f (n:bV):Option fZ:=cT n.core ((Hw.f).bind λv2=>(HR.f).bind λv3=>some (fZ.mk v2 v3 0 0 0 0)) (λx1=>(Hz.f x1.iK x1.aB).bind λv4=>(HS.f x1.jg x1.iK x1.aB).bind λv5=>some (fZ.mk v4 v5 0 0 0 0))
theorem zw.c (H:zw.f n=some r) (ji:gW n df jn):
 QU 79 [(pp df)] [jn] F (.agg #[(uu r.bA),(uu r.bB),(uu r.bz),(uu r.bw),(uu r.bF),(uu r.bD)]):=by
 unfold zw.f at H;refine aD Tryz.func79 J J (λW=>rc T 2 (nc T J (λb2=>fz J (ro T 3 ?_))));obtain⟨b4,H4,yj,Fp,Fq,H5,s4,s5,dy⟩:=(λx=>x) ji;refine bS 0 (congrArg some dy) (fz J ?_);rcases q1:n.core with _ |x1
 ·replace H:=eW q1 H;rw[q1] at s5;obtain⟨rfl,rfl,rfl,rfl⟩:=s5;refine ks [0,2] J (fz J (rz [11] mix (bO bN) (λhg pf=>ha T 9 [0,1,2] sz hg pf J (av 3 sz hg pf J (aw T J J J J (aK (j:=2) J J)) (ha T 5 [5,6,7] sz hg pf J (av 8 sz hg pf J (aw T J J J J (aK (j:=2) J J)) (ao 4 (kh [] J Ta H (Hw.c ·) (λv2 H=>an sz (ao 9 (kh [] J Tb H (HR.c ·) (λv3 H=>an sz (ha T 1 [10] sz hg pf J (ao 11 (jj T 1 J (an sl (ae (rx T 2 ?_))))))))))))))))))
  cases H;refine cq [2,2,2] J dy (pb T J (.cQ (j:=1) [(uu v2),(uu v3),(uu 0),(uu 0),(uu 0),(uu 0)] J J J J J J J .nil) [2,0] () J J)
 replace H:=eX q1 H;rw[q1] at s5;obtain⟨b7,H7,b8,H8,b9,H9,s7,s8,s9,rfl,rfl,rfl,oD⟩:=s5;refine bS 4 (congrArg some oD) (fz J (ks [0,2] J (fz J (rz [11] mix (bO bN) (λhg pf=>ha T 9 [0,1,2] sz hg pf J (av 3 sz hg pf J (aw T J J J J (aK (j:=2) J J)) (ha T 5 [5,6,7] sz hg pf J (av 8 sz hg pf J (aw T J J J J (aK (j:=2) J J)) (ao 4 (kh [5,4] J Ta H (Hz.c · s8 s7) (λv4 H=>an sz (ao 9 (kh [6,5,4] J Tb H (HS.c · s9 s8 s7) (λv5 H=>an sz (ha T 1 [10] sz hg pf J (ao 11 (jj T 1 J (an sl (ae (rx T 2 ?_))))))))))))))))))))
 cases H;refine cq [4,4,4] J oD (cq [2,2,2] J dy (pb T J (.cQ (j:=1) [(uu v4),(uu v5),(uu 0),(uu 0),(uu 0),(uu 0)] J J J J J J J .nil) [2,0] () J J))
def u7.f (n:bV) (m:aL):Option (Int×bV):=(yG.f m).bind λv1=>if(!v1)=true then(some (6,n)) else((zw.f n).bind λv2=>(mP.f n.aV v2).bind λv3=>cT n.core ((Ef.f).bind λv5=>(lN.f m v5).bind λv6=>cT v6 (none) (λvi=>(r8.f vi).bind λv7=>cT v7 (none) (λrE=>(ra.f rE vi).bind λv8=>cT v8 (none) (λyn=>(pO.f n.fV).bind λv9=>some (0,(bV.mk (some (d_.mk vi rE yn)) v9 v3)))))) (λx4=>(oC.f x4.aB).bind λv10=>(lN.f m v10).bind λv11=>cT v11 (none) (λAc=>(r8.f Ac).bind λv12=>cT v12 (none) (λIP=>(ra.f IP Ac).bind λlG=>cT lG (none) (λLL=>(pO.f n.fV).bind λek=>some (0,(bV.mk (some (d_.mk Ac IP LL)) ek v3)))))))
def u7.R (sQ:Nat) (r:(Int×bV)):bg:=λu G=> ∃(H0:Hp),gW r.2 sQ H0/\u=(ii r.1)/\G=[H0]
theorem u7.c (H:u7.f n m=some r) (ji:gW n df jn) (tf:aP (Fl.int .u8) m.C pa F) (vx:List.length m.C<=oK):
 QR 115 [(pp df),(.agg #[(ii m.W),(ii m.H),(ll pa m.C oK)])] [jn] [] F (u7.R df r):=by
 unfold u7.f at H;refine aD Tryz.func115 J J (λW=>rc T 2 (nc T J (λb2=>fz J (ro T 12 (eT J (rc T 2 (lm T 2 J (k [] J Tj H (yG.c · (rO tf 1) vx) (λv1 H=>ro T 4 (cb J H (λH=>?_) (λH=>?_)))))))))))
 ·refine rc T 8 ?_
  cases H;exact p1 T J [0,0] ⟨jn,ji,J,J⟩ J
 refine rc T 4 ?_;obtain⟨b4,H4,yj,Fp,Fq,H5,s4,s5,dy⟩:=(λx=>x) ji;refine bS 0 (congrArg some dy) (fz J (ks [0,3] J (fz J (rz [10] mix (bO bN) (λhg pf=>ha T 7 [0,1,2,3] sz hg pf J (av 4 sz hg pf J (gA T 2 J J J J J J J) (ha T 5 [5] sz hg pf J (ao 6 ?_))))))));obtain⟨v2,V3,H⟩:=gu H;refine Jm (As:=[(cl df 135 [yj,Fp,Fq,(pp b4),(uu n.aV.bA),(uu n.aV.bB),(uu n.aV.bz),(uu n.aV.bw),(uu n.aV.bF),(uu n.aV.bD)]),H4,H5]) [2,2,2] J J J J Ua J J (Jy (A:=[jn]) (by simp only[dy,List.flatten_cons,List.flatten_append,List.flatten_nil,List.append_nil,List.append_assoc]) (zw.c V3 ji)) (an sz (ao 7 (kh [] J NV H (mP.c ·) (λv3 H=>an sz (ha T 1 [8,9] sz hg pf J (ao 10 (jj T 2 J (an sl (ae (rx T 2 ?_))))))))))
 rcases q5:n.core with _ |x4
 ·replace H:=eW q5 H;rw[q5] at s5;obtain⟨rfl,rfl,rfl,rfl⟩:=s5;refine ks [0,3] J (fz J (rq [10] [0,0,0,0,0] J mix (bO bN) (λhg pf=>ha T 10 [0] sz hg pf J (av 1 sz hg pf J (gA T 1 J J J J J J J) (ha T 6 [2,3,4] sz hg pf J (av 5 sz hg pf J (aw T J J J J (aK (j:=2) J J)) (ao 6 (kh [] J Co H (Ef.c ·) (λv5 H=>an sz (ao 7 (kR lN.R [] [] J Tk H (lN.c · (rO tf 0) vx) (λv6 H=>?_))))))))))));rintro _ _ ⟨_,_,O8,rfl,rfl⟩;rcases v6 with _ |vi
  ·replace H:=eW J H
   cases H
  replace H:=eX J H;obtain⟨gd,b_,bP,rfl,rfl⟩:=O8;refine an (so [0,0,0,0,0]) (ha T 1 [8,9] (so [0,0,0,0,0]) hg pf J (ao 10 (jj T 2 J (an sl (ae (rx T 7 (lf T 2 J (kr (r8.R gd) [5] [5] J Tl H (r8.c · bP) (λv7 H=>?_)))))))));rintro _ _ ⟨_,_,LW,rfl,rfl⟩;rcases v7 with _ |rE
  ·replace H:=eW J H
   cases H
  replace H:=eX J H;obtain⟨jU,cz,c_,rfl,rfl⟩:=LW;refine ro T 2 (j3 T 2 J (ro T 3 (ke [0] [0,1,1,1,1,1] J J (fz J (rq [12] [0,0,0,0,0,0] J mix (bO bN) (λhg pf=>ha T 9 [0,1,2,3] sz hg pf J (av 4 sz hg pf J (aw T J J J J (aK (j:=1) J J)) (ha T 5 [5,6,7] sz hg pf J (av 8 sz hg pf J (aw T J J J J (aK (j:=1) J J)) (ao 9 (kR (ra.R jU gd) [4,4] [4,4] J Tm H (ra.c · c_ bP) (λv8 H=>?_))))))))))));rintro _ _ ⟨_,_,I_,rfl,rfl⟩;rcases v8 with _ |yn
  ·replace H:=eW J H
   cases H
  replace H:=eX J H;obtain⟨kY,dq,dz,rfl,rfl⟩:=I_;refine an (so [0,0,0,0,1,1]) (ha T 1 [10,11] (so [0,0,0,0,1,1]) hg pf J (ao 12 (jj T 1 J (an sl (ae (rx T 6 (lf T 1 J (kr (pO.R b4) [] [2] J NB H (pO.c · s4) (λv9 H=>?_)))))))));rintro _ _ ⟨dV,dm,rfl,rfl⟩;refine fz J (ro T 8 ?_)
  cases H;refine gq [5,4,3] J (gq [1,2,2] J (p1 T J [2,0] ⟨(List.flatten [(cl df 135 [(pp gd),(pp jU),(pp kY),(pp b4),(uu v3.bA),(uu v3.bB),(uu v3.bz),(uu v3.bw),(uu v3.bF),(uu v3.bD)]),dV,(List.flatten [b_,cz,dq])]),(show gW (bV.mk (some (d_.mk vi rE yn)) v9 v3) df (List.flatten [(cl df 135 [(pp gd),(pp jU),(pp kY),(pp b4),(uu v3.bA),(uu v3.bB),(uu v3.bz),(uu v3.bw),(uu v3.bF),(uu v3.bD)]),dV,(List.flatten [b_,cz,dq])]) from⟨b4,dV,(pp gd),(pp jU),(pp kY),(List.flatten [b_,cz,dq]),dm,(show vp (some (d_.mk vi rE yn)) (pp gd) (pp jU) (pp kY) (List.flatten [b_,cz,dq]) from⟨gd,b_,jU,cz,kY,dq,bP,c_,dz,J,J,J,J⟩),J⟩),J,J⟩ J))
 replace H:=eX q5 H;rw[q5] at s5;obtain⟨b7,H7,b8,H8,b9,H9,s7,s8,s9,rfl,rfl,rfl,oD⟩:=s5;refine bS 4 (congrArg some oD) (fz J (ks [0,3] J (fz J (rq [10] [0,0,0,0,0,0,0] J mix (bO bN) (λhg pf=>ha T 10 [0] sz hg pf J (av 1 sz hg pf J (gA T 1 J J J J J J J) (ha T 6 [2,3,4] sz hg pf J (av 5 sz hg pf J (aw T J J J J (aK (j:=2) J J)) (ao 6 (kh [4] J Co H (oC.c · s7) (λv10 H=>an sz (ao 7 (kR lN.R [] [] J Tk H (lN.c · (rO tf 0) vx) (λv11 H=>?_))))))))))))));rintro _ _ ⟨_,_,Yh,rfl,rfl⟩;rcases v11 with _ |Ac
 ·replace H:=eW J H
  cases H
 replace H:=eX J H;obtain⟨oy,dI,dP,rfl,rfl⟩:=Yh;refine an (so [0,0,0,0,0,0,0]) (ha T 1 [8,9] (so [0,0,0,0,0,0,0]) hg pf J (ao 10 (jj T 2 J (an sl (ae (rx T 7 (lf T 2 J (kr (r8.R oy) [7] [7] J Tl H (r8.c · dP) (λv12 H=>?_)))))))));rintro _ _ ⟨_,_,Yi,rfl,rfl⟩;rcases v12 with _ |IP
 ·replace H:=eW J H
  cases H
 replace H:=eX J H;obtain⟨qI,fY,fU,rfl,rfl⟩:=Yi;refine ro T 2 (j3 T 2 J (ro T 3 (ke [0] [0,1,1,1,1,1,1,1] J J (fz J (rq [12] [0,0,0,0,0,0,0,0] J mix (bO bN) (λhg pf=>ha T 9 [0,1,2,3] sz hg pf J (av 4 sz hg pf J (aw T J J J J (aK (j:=1) J J)) (ha T 5 [5,6,7] sz hg pf J (av 8 sz hg pf J (aw T J J J J (aK (j:=1) J J)) (ao 9 (kR (ra.R qI oy) [6,6] [6,6] J Tm H (ra.c · fU dP) (λlG H=>?_))))))))))));rintro _ _ ⟨_,_,Yj,rfl,rfl⟩;rcases lG with _ |LL
 ·replace H:=eW J H
  cases H
 replace H:=eX J H;obtain⟨vu,eH,fq,rfl,rfl⟩:=Yj;refine an (so [0,0,0,0,0,0,1,1]) (ha T 1 [10,11] (so [0,0,0,0,0,0,1,1]) hg pf J (ao 12 (jj T 1 J (an sl (ae (rx T 6 (lf T 1 J (kr (pO.R b4) [] [2] J NB H (pO.c · s4) (λek H=>?_)))))))));rintro _ _ ⟨ft,fF,rfl,rfl⟩;refine fz J (ro T 8 ?_)
 cases H;refine gq [7,6,5] J (gq [1,4,4] J (p1 T J [4,0] ⟨(List.flatten [(cl df 135 [(pp oy),(pp qI),(pp vu),(pp b4),(uu v3.bA),(uu v3.bB),(uu v3.bz),(uu v3.bw),(uu v3.bF),(uu v3.bD)]),ft,(List.flatten [dI,fY,eH])]),(show gW (bV.mk (some (d_.mk Ac IP LL)) ek v3) df (List.flatten [(cl df 135 [(pp oy),(pp qI),(pp vu),(pp b4),(uu v3.bA),(uu v3.bB),(uu v3.bz),(uu v3.bw),(uu v3.bF),(uu v3.bD)]),ft,(List.flatten [dI,fY,eH])]) from⟨b4,ft,(pp oy),(pp qI),(pp vu),(List.flatten [dI,fY,eH]),fF,(show vp (some (d_.mk Ac IP LL)) (pp oy) (pp qI) (pp vu) (List.flatten [dI,fY,eH]) from⟨oy,dI,qI,fY,vu,eH,dP,fU,fq,J,J,J,J⟩),J⟩),J,J⟩ J))
def tD.f (n:bV):Option bV:=(pO.f n.fV).bind λv1=>cT n.core ((HT.f).bind λv3=>some (bV.mk none v1 n.aV)) (λx2=>(Bj.f x2.jg x2.iK x2.aB).bind λv4=>some (bV.mk (some (d_.mk x2.aB x2.iK v4)) v1 n.aV))
def tD.R (sQ:Nat) (r:bV):bg:=λu G=> ∃(H0:Hp),gW r sQ H0/\u=(.tuple #[])/\G=[H0]
theorem tD.c (H:tD.f n=some r) (ji:gW n df jn):
 QR 85 [(pp df)] [jn] [] F (tD.R df r):=by
 unfold tD.f at H;refine aD Tryz.func85 J J (λW=>rc T 6 (mu J (rc T 1 ?_)));obtain⟨b3,H3,ui,P_,Qa,H4,s3,s4,ct⟩:=(λx=>x) ji;refine bS 0 (congrArg some ct) (fz J (rc T 4 (lf T 1 J (kr (pO.R b3) [] [2] J NB H (pO.c · s3) (λv1 H=>?_)))));rintro _ _ ⟨H5,s5,rfl,rfl⟩;refine fz J (ro T 2 ?_);rcases q2:n.core with _ |x2
 ·replace H:=eW q2 H;rw[q2] at s4;obtain⟨rfl,rfl,rfl,rfl⟩:=s4;refine rc T 4 (lf T 1 J (k [] J Td H (HT.c ·) (λv3 H=>ro T 1 (jq ?_))))
  cases H;refine aq J (gq [1,2,2] J (p1 T J [2,0] ⟨(List.flatten [(cl df 135 [(.pointer none),(.pointer none),(.pointer none),(pp b3),(uu n.aV.bA),(uu n.aV.bB),(uu n.aV.bz),(uu n.aV.bw),(uu n.aV.bF),(uu n.aV.bD)]),H5,[]]),(show gW (bV.mk none v1 n.aV) df (List.flatten [(cl df 135 [(.pointer none),(.pointer none),(.pointer none),(pp b3),(uu n.aV.bA),(uu n.aV.bB),(uu n.aV.bz),(uu n.aV.bw),(uu n.aV.bF),(uu n.aV.bD)]),H5,[]]) from⟨b3,H5,(.pointer none),(.pointer none),(.pointer none),[],s5,(show vp none (.pointer none) (.pointer none) (.pointer none) [] from⟨J,J,J,J⟩),J⟩),J,J⟩ J))
 replace H:=eX q2 H;rw[q2] at s4;obtain⟨b7,H7,b8,H8,b9,H9,s7,s8,s9,rfl,rfl,rfl,oD⟩:=s4;refine bS 2 (congrArg some oD) (fz J (rc T 4 (lf T 1 J (kr (Bj.R b9 b8 b7) [4,3] [5,4,3] J Td H (Bj.c · s9 s8 s7) (λv4 H=>?_)))));rintro _ _ ⟨cz,c_,rfl,rfl⟩;refine fz J (ro T 1 (jq ?_))
 cases H;refine gq [5,4,3] J (gq [1,1,1] J (p1 T J [1,0] ⟨(List.flatten [(cl df 135 [(pp b7),(pp b8),(pp b9),(pp b3),(uu n.aV.bA),(uu n.aV.bB),(uu n.aV.bz),(uu n.aV.bw),(uu n.aV.bF),(uu n.aV.bD)]),H5,(List.flatten [H7,H8,cz])]),(show gW (bV.mk (some (d_.mk x2.aB x2.iK v4)) v1 n.aV) df (List.flatten [(cl df 135 [(pp b7),(pp b8),(pp b9),(pp b3),(uu n.aV.bA),(uu n.aV.bB),(uu n.aV.bz),(uu n.aV.bw),(uu n.aV.bF),(uu n.aV.bD)]),H5,(List.flatten [H7,H8,cz])]) from⟨b3,H5,(pp b7),(pp b8),(pp b9),(List.flatten [H7,H8,cz]),s5,(show vp (some (d_.mk x2.aB x2.iK v4)) (pp b7) (pp b8) (pp b9) (List.flatten [H7,H8,cz]) from⟨b7,H7,b8,H8,b9,cz,s7,s8,c_,J,J,J,J⟩),J⟩),J,J⟩ J))
def xM.f (n:bV) (cell:Int) (cost:Int):Option (Int×bV):=cT n.core (none) (λx1=>(xu.f x1.aB cell cost).bind λv2=>some (v2.1,(bV.mk (some (d_.mk v2.2 x1.iK x1.jg)) n.fV n.aV)))
def xM.R (sQ:Nat) (r:(Int×bV)):bg:=λu G=> ∃(H0:Hp),gW r.2 sQ H0/\u=(ii r.1)/\G=[H0]
theorem xM.c (H:xM.f n cell cost=some r) (ji:gW n df jn):
 QR 120 [(pp df),(ii cell),(ii cost)] [jn] [] F (xM.R df r):=by
 unfold xM.f at H;refine aD Tryz.func120 J J (λW=>rc T 12 (eT J (rc T 3 ?_)));obtain⟨b3,H3,ui,P_,Qa,H4,s3,s4,ct⟩:=(λx=>x) ji;refine bS 0 (congrArg some ct) (fz J ?_);rcases q1:n.core with _ |x1
 ·replace H:=eW q1 H
  cases H
 replace H:=eX q1 H;rw[q1] at s4;obtain⟨b6,H6,b7,H7,b8,H8,s6,s7,s8,rfl,rfl,rfl,s_⟩:=s4;refine bS 3 (congrArg some s_) (fz J (rc T 4 (lf T 1 J (ro T 2 (kr (xu.R b6) [] [3] J ac3 H (xu.c · s6) (λv2 H=>?_))))));rintro _ _ ⟨H9,s9,rfl,rfl⟩;refine fz J (ro T 4 ?_)
 cases H;refine gq [5,3,3] J (gq [1,1,1] J (p1 T J [1,0] ⟨(List.flatten [(cl df 135 [(pp b6),(pp b7),(pp b8),(pp b3),(uu n.aV.bA),(uu n.aV.bB),(uu n.aV.bz),(uu n.aV.bw),(uu n.aV.bF),(uu n.aV.bD)]),H3,(List.flatten [H9,H7,H8])]),(show gW (bV.mk (some (d_.mk v2.2 x1.iK x1.jg)) n.fV n.aV) df (List.flatten [(cl df 135 [(pp b6),(pp b7),(pp b8),(pp b3),(uu n.aV.bA),(uu n.aV.bB),(uu n.aV.bz),(uu n.aV.bw),(uu n.aV.bF),(uu n.aV.bD)]),H3,(List.flatten [H9,H7,H8])]) from⟨b3,H3,(pp b6),(pp b7),(pp b8),(List.flatten [H9,H7,H8]),s3,(show vp (some (d_.mk v2.2 x1.iK x1.jg)) (pp b6) (pp b7) (pp b8) (List.flatten [H9,H7,H8]) from⟨b6,H9,b7,H7,b8,H8,s9,s7,s8,J,J,J,J⟩),J⟩),J,J⟩ J))
def zv.f (n:bV):Option (Int×Int):=cT n.core (none) (λx1=>(iV.f x1.aB).bind λv2=>some (v2.1,v2.2))
theorem zv.c (H:zv.f n=some r) (ji:gW n df jn):
 QU 164 [(pp df)] [jn] F (.tuple #[(ii r.1),(ii r.2)]):=by
 unfold zv.f at H;refine aD Tryz.func164 J J (λW=>rc T 13 (eT J (rc T 3 ?_)));obtain⟨b3,H3,ui,P_,Qa,H4,s3,s4,ct⟩:=(λx=>x) ji;refine bS 0 (congrArg some ct) (fz J ?_);rcases q1:n.core with _ |x1
 ·replace H:=eW q1 H
  cases H
 replace H:=eX q1 H;rw[q1] at s4;obtain⟨b6,H6,b7,H7,b8,H8,s6,s7,s8,rfl,rfl,rfl,s_⟩:=s4;refine bS 3 (congrArg some s_) (fz J (rc T 4 (lf T 1 J (k [3] J uK H (iV.c · s6) (λv2 H=>ro T 7 ?_)))))
 cases H;refine cq [3,3,3] J s_ (cq [1,1,1] J ct (p0 T J [1,0] J))
def qX.f (n:bV) (goal:Int) (bI:Int):Option (fR×Er×bV):=(cT n.core (some true) (λx3=>some false)).bind λx1=>if x1=true then((some (Er.wrap 222 [goal] (Er.eF 2))).bind λx4=>some ((fR.mk [] []),x4,n)) else(cT n.core (none) (λx6=>(l_.f x6.aB bI).bind λv7=>(iU.f x6.aB goal).bind λv8=>if((v8==0)||(!v7.2))=true then((some (Er.wrap 222 [goal] (Er.eF 3))).bind λx9=>some ((fR.mk [] []),x9,n)) else((xX.f x6.jg goal x6.iK x6.aB).bind λv11=>cT v11.1 ((A6.f x6.aB bI).bind λv12=>((qc.f x6.aB bI).bind λfP=>(mM.f n.fV goal bI fP v7.1 v12).bind λoe=>some (oe.1.fc,oe.1.bX,oe.2.1,oe.2.2)).bind λ(aU,bc,bY,dg)=>if(bY !=0)=true then((some (Er.wrap 222 [goal] (Er.eF 4))).bind λeA=>some ((fR.mk [] []),eA,(bV.mk (some (d_.mk x6.aB v11.2.2 v11.2.1)) dg n.aV))) else(some ((fR.mk aU bc),Er.nil,(bV.mk (some (d_.mk x6.aB v11.2.2 v11.2.1)) dg n.aV)))) (λAc=>(iI.f x6.aB Ac bI).bind λv25=>((qc.f x6.aB bI).bind λv31=>(mM.f n.fV goal bI v31 v7.1 v25).bind λv32=>some (v32.1.fc,v32.1.bX,v32.2.1,v32.2.2)).bind λ(iA,ml,nn,jl)=>if(nn !=0)=true then((some (Er.wrap 222 [goal] (Er.eF 4))).bind λwU=>some ((fR.mk [] []),wU,(bV.mk (some (d_.mk x6.aB v11.2.2 v11.2.1)) jl n.aV))) else(some ((fR.mk iA ml),Er.nil,(bV.mk (some (d_.mk x6.aB v11.2.2 v11.2.1)) jl n.aV)))))))
def qX.R (el:Nat->Addr) (sQ:Nat) (r:(fR×Er×bV)):bg:=λu G=> ∃(a0 n0 H0:_) (a1 n1 H1:_) (v2:Value) (H2:Hp) (H3:Hp),aj (Fl.int .i64) 3 r.1.fc a0 n0 H0/\aj (Fl.int .i64) 3 r.1.bX a1 n1 H1/\gp 414 el r.2.1 v2 H2/\gW r.2.2 sQ H3/\u=(.tuple #[(.agg #[(ll a0 r.1.fc n0),(ll a1 r.1.bX n1)]),v2])/\G=[H0,H1,H2,H3]
theorem qX.c (H:qX.f n goal bI=some r) (hG:fW 414 fp iw el F) (ji:gW n df jn):
 QR 100 [(pp df),(ii goal),(ii bI)] [jn] [] F (qX.R el df r):=by
 unfold qX.f at H;refine aD Tryz.func100 J J (λW=>rc T 2 (nc T J (λb2=>fz J (ro T 4 (mq H [0,1,2,6] [1,0,0] (λz2 (x1:Bool)=>(x1=z2,[(21,(bb x1))],[])) J J (λz2 Z1 _=>?_) ?_)))))
 ·obtain⟨b4,H4,yj,Fp,Fq,H5,s4,s5,dy⟩:=(λx=>x) ji;refine bS 0 (congrArg some dy) (fz J ?_);rcases q2:n.core with _ |x3
  ·replace Z1:=eW q2 Z1;rw[q2] at s5;obtain⟨rfl,rfl,rfl,rfl⟩:=s5;refine rc T 7 (lf T 2 J (ro T 4 (cq [2,2,2] J dy (am _ [0,1,0] (oi Z1) J J))))
  replace Z1:=eX q2 Z1;rw[q2] at s5;obtain⟨b7,H7,b8,H8,b9,H9,s7,s8,s9,rfl,rfl,rfl,oD⟩:=s5;refine bS 4 (congrArg some oD) (fz J (rc T 7 (lf T 2 J (ro T 4 (cq [4,4,4] J oD (cq [2,2,2] J dy (am _ [0,1,0] (oi Z1) J J)))))))
 rintro _ x1 rfl H;refine cb J H (λH=>?_) (λH=>?_)
 ·refine mq H [6] [0,1,0] (λz5 (⟨x4,LC,b_⟩:Er×Value×Hp)=>(x4=z5/\gp 414 el x4 LC b_,[(7,LC)],[b_])) J J (λz5 Z4 _=>?_) ?_
  ·refine fz J (rz [] mix (bO bN) (λhg pf=>ha T 6 [0,1] sz hg pf J (av 2 sz hg pf J (aw T J J J J (rY (j:=0) J hG (g:=2) (by decide))) (ha T 4 [3] sz hg pf J (gK 4 6 ?_ ?_)))))
   ·refine nw T J (λjU=>fz J (an (so [0,0,0]) (gK 5 6 ?_ ?_)))
    ·refine aq J (gq [3,3] J (lK J (iu T J J J J) (an (so [0,0,0]) (ao 6 (jj T 2 J (an (so [0,0,0]) (ha T 0 [7] (so [0,0,0]) hg pf J (ae (rx T 1 (am (_,_,_) [0,1,0,0] ⟨oi Z4,(p9 oB)⟩ J J))))))))))
    refine jj T 2 J (an (so [0,0,0]) (ao 5 (aq J (gq [3,3] J (lK J (iu T J J J J) (an (so [0,0,0]) (ha T 0 [7] (so [0,0,0]) hg pf J (ae (rx T 1 (am (_,_,_) [0,1,0,0] ⟨oi Z4,(p9 oB)⟩ J J))))))))))
   refine jj T 2 J (an sz (ao 4 (nw T J (λqI=>fz J (an (so [0,0,0]) (ao 5 (aq J (gq [3,3] J (lK J (iu T J J J J) (an (so [0,0,0]) (ha T 0 [7] (so [0,0,0]) hg pf J (ae (rx T 1 (am (_,_,_) [0,1,0,0] ⟨oi Z4,(p9 oB)⟩ J J))))))))))))))
  rintro _ ⟨x4,LC,b_⟩ ⟨rfl,bP⟩ H;refine rc T 2 ?_
  cases H;refine aq J (aq J (pb T J (.cQ (j:=1) [nl,nl] J J J J J J J (.tmp J .nil)) [4,4,3,2,0] ⟨(_,_),none,0,[],none,0,[],LC,b_,jn,aj.nil,aj.nil,bP,ji,J,J⟩ J J))
 refine rc T 3 ?_;obtain⟨kZ,lX,akJ,akK,akL,jE,iz,gG,SQ⟩:=(λx=>x) ji;refine bS 1 (congrArg some SQ) (fz J ?_);rcases q5:n.core with _ |x6
 ·replace H:=eW q5 H
  cases H
 replace H:=eX q5 H;rw[q5] at gG;obtain⟨lb,gV,lh,ot,l6,BR,jh,mL,tM,rfl,rfl,rfl,SX⟩:=gG;refine bS 4 (congrArg some SX) (fz J (rc T 4 (lf T 2 J (ro T 1 (kr l_.R [4] [4] J Tg H (l_.c · jh) (λv7 H=>?_))))));rintro _ _ ⟨a28,n28,sC,jO,rfl,rfl⟩;refine fz J (ro T 3 (nc T J (λAp=>fz J (j3 T 8 J (ro T 9 (lf T 2 J (ro T 1 (k [7] J vO H (iU.c · jh) (λv8 H=>ro T 2 (go T [8,9,10] 44 [0,1,2,6,8] 47 J J J J J J J (ro T 2 (cb J H (λH=>?_) (λH=>?_)))))))))))))
 ·refine mq H [6] [0,0,0,4,1,1,0] (λoo (⟨x9,LF,rH⟩:Er×Value×Hp)=>(x9=oo/\gp 414 el x9 LF rH,[(7,LF)],[rH])) J J (λoo Z9 _=>?_) ?_
  ·refine ke [1,6] [0,0,0,0,0,0,1] J J (fz J (rz [] mix (bO bN) (λhg pf=>ha T 6 [0,1] sz hg pf J (av 2 sz hg pf J (aw T J J J J (rY (j:=0) J hG (g:=3) (by decide))) (ha T 4 [3] sz hg pf J (gK 4 6 ?_ ?_))))))
   ·refine nw T J (λb31=>fz J (an (so [0,0,0,0,0,0,0]) (gK 5 6 ?_ ?_)))
    ·refine aq J (gq [7,7] J (lK J (iu T J J J J) (an (so [0,0,0,0,0,0,0]) (ao 6 (jj T 1 J (an (so [0,0,0,0,0,0,0]) (ha T 0 [7] (so [0,0,0,0,0,0,0]) hg pf J (ae (rx T 1 (am (_,_,_) [0,0,0,3,1,1,0,0] ⟨oi Z9,(p9 oB)⟩ J J))))))))))
    refine jj T 1 J (an (so [0,0,0,0,0,0,0]) (ao 5 (aq J (gq [7,7] J (lK J (iu T J J J J) (an (so [0,0,0,0,0,0,0]) (ha T 0 [7] (so [0,0,0,0,0,0,0]) hg pf J (ae (rx T 1 (am (_,_,_) [0,0,0,3,1,1,0,0] ⟨oi Z9,(p9 oB)⟩ J J))))))))))
   refine jj T 1 J (an sz (ao 4 (nw T J (λb36=>fz J (an (so [0,0,0,0,0,0,0]) (ao 5 (aq J (gq [7,7] J (lK J (iu T J J J J) (an (so [0,0,0,0,0,0,0]) (ha T 0 [7] (so [0,0,0,0,0,0,0]) hg pf J (ae (rx T 1 (am (_,_,_) [0,0,0,3,1,1,0,0] ⟨oi Z9,(p9 oB)⟩ J J))))))))))))))
  rintro _ ⟨x9,LF,rH⟩ ⟨rfl,pJ⟩ H;refine rc T 2 ?_
  cases H;refine cq [3,3,3] J SX (cq [2,2,3] J SQ (aq J (aq J (pb T J (.cQ (j:=1) [nl,nl] J J J J J J J (.tmp J .nil)) [4,4,2,2,0] ⟨(_,_),none,0,[],none,0,[],LF,rH,jn,aj.nil,aj.nil,pJ,ji,J,J⟩ J J))))
 refine rc T 3 (ks [0,1,2,6,8] J (fz J (rq [] [0,0,0,0,2,2,2] J mix (bO bN) (λhg pf=>ha T 10 [0,1,2] (so [0,0,0,0,2,2,2]) hg pf J (av 3 (so [0,0,0,0,2,2,2]) hg pf J (aw T J J J J (aK (j:=2) J J)) (ha T 6 [4,5,6] (so [0,0,0,0,2,2,2]) hg pf J (av 7 (so [0,0,0,0,2,2,2]) hg pf J (aw T J J J J (aK (j:=2) J J)) (ha T 3 [8,10] (so [0,0,0,0,2,2,2]) hg pf J (ao 9 (kR (xX.R l6 lh lb lh lb) [7] [5,4,5] J acZ H (xX.c · tM mL jh) (λv11 H=>?_)))))))))));rintro _ _ ⟨akH,lH,gI,I8,tP,rfl,rfl⟩;refine fz J ?_;rcases KA:v11.1 with _ |Ac
 ·replace H:=eW KA H;rw[KA] at I8;obtain⟨rfl,Dp⟩:=I8;refine an (so [0,0,0,0,0,3,0]) (ao 11 (kR A6.R [8] [8] J Th H (A6.c · jh) (λv12 H=>?_)));rintro _ _ ⟨a54,n54,H54,E8,rfl,rfl⟩;refine fz J (an (so [0,0,0,0,0,4,0]) (ha T 0 [12] (so [0,0,0,0,0,4,0]) hg pf J (ae (rx T 1 (mq H [1,6] [0,0,0,6,4,3] (λz17 (⟨aU,bc,bY,dg,Mu,FL,HC,I2,FM,n57,I3,yv⟩:List Int×List Int×Int×jD×Nat×Option Addr×Nat×Hp×Option Addr×Nat×Hp×Hp)=>((aU,bc,bY,dg)=z17/\aj (Fl.int .i64) 3 aU FL HC I2/\aj (Fl.int .i64) 3 bc FM n57 I3/\sF dg kZ yv,[(11,(pp Mu)),(12,(ii bY))],[(cl Mu 79 [(ll FL aU HC),(ll FM bc n57)]),I2,I3,yv])) J J (λz17 cn _=>?_) ?_)))))
  ·refine ks [0,1,2,6,8,10] J (fz J (rz [14] mix (bO bN) (λhg pf=>ha T 18 [0,1,2] sz hg pf J (av 3 sz hg pf J (aw T J J J J (aK (j:=2) J J)) (ha T 12 [4,5,6,7,8] sz hg pf J (av 9 sz hg pf J (aw T J J J J (aK (j:=2) J J)) (ha T 10 [10] sz hg pf J (av 12 sz hg pf J (gA T 5 J J J J J J J) (ha T 8 [13] sz hg pf J (gK 11 18 ?_ ?_))))))))))
   ·refine kh [9] J Cp cn (qc.c · jh) (λfP cn=>an sz (gK 14 18 ?_ ?_))
    ·refine kR (mM.R kZ) [] [3] J Em cn (mM.c · iz (oO jO 3) jO.bT (oO E8 7) E8.bT) (λoe cn=>?_);rintro _ _ ⟨a59,n59,H59,a60,n60,H60,H61,s59,s60,s61,rfl,rfl⟩;refine fz J (an sl (hb T 15 sl hg pf J (hb T 16 sl hg pf J (hb T 17 sl hg pf J (ao 18 (nw T J (λb62=>fz J (an sl (ao 19 (jj T 12 J (an sl (hb T 20 sl hg pf J (ae (rx T 1 (am (_,_,_,_,_,_,_,_,_,_,_,_) [0,0,0,5,3,2,6,3,3,3] ⟨oi cn,s59,s60,s61⟩ J J)))))))))))))))
    refine nw T J (λb63=>fz J (an (so [0,0,0,0,0,0,0,0,0,0]) (ao 14 (kR (mM.R kZ) [] [3] J Em cn (mM.c · iz (oO jO 3) jO.bT (oO E8 7) E8.bT) (λv20 cn=>?_)))));rintro _ _ ⟨a64,n64,H64,a65,n65,H65,H66,s64,s65,s66,rfl,rfl⟩;refine fz J (an sl (hb T 15 sl hg pf J (hb T 16 sl hg pf J (hb T 17 sl hg pf J (ao 19 (jj T 9 J (an sl (hb T 20 sl hg pf J (ae (rx T 1 (am (_,_,_,_,_,_,_,_,_,_,_,_) [0,0,0,5,3,2,3,3,3,3] ⟨oi cn,s64,s65,s66⟩ J J)))))))))))
   refine nw T J (λb67=>fz J (an (so [0,0,0,0,0,0,0,0,0,0]) (ao 11 (kh [9] J Cp cn (qc.c · jh) (λv21 cn=>an (so [0,0,0,0,0,0,0,0,0,0]) (ao 14 (kR (mM.R kZ) [] [3] J Em cn (mM.c · iz (oO jO 3) jO.bT (oO E8 7) E8.bT) (λv22 cn=>?_))))))));rintro _ _ ⟨a68,n68,H68,a69,n69,H69,H70,s68,s69,s70,rfl,rfl⟩;refine fz J (an sl (hb T 15 sl hg pf J (hb T 16 sl hg pf J (hb T 17 sl hg pf J (ao 19 (jj T 9 J (an sl (hb T 20 sl hg pf J (ae (rx T 1 (am (_,_,_,_,_,_,_,_,_,_,_,_) [0,0,0,5,3,2,3,3,3,3] ⟨oi cn,s68,s69,s70⟩ J J)))))))))))
  rintro _ ⟨aU,bc,bY,dg,Mu,FL,HC,I2,FM,n57,I3,yv⟩ ⟨rfl,s56,s57,Xb⟩ H;refine rc T 7 (cb J H (λH=>?_) (λH=>?_))
  ·refine mq H [6] [0,0,0,0,0,0,3] (λz24 (⟨eA,LH,I4⟩:Er×Value×Hp)=>(eA=z24/\gp 414 el eA LH I4,[(7,LH)],[I4])) J J (λz24 sI _=>?_) ?_
   ·refine fz J (rz [] mix (bO bN) (λhg pf=>ha T 6 [0,1] sz hg pf J (av 2 sz hg pf J (aw T J J J J (rY (j:=0) J hG (g:=4) (by decide))) (ha T 4 [3] sz hg pf J (gK 4 6 ?_ ?_)))))
    ·refine nw T J (λb72=>fz J (an (so [0,0,0,0,0,0,0,0,0,0]) (gK 5 6 ?_ ?_)))
     ·refine aq J (gq [10,10] J (lK J (iu T J J J J) (an (so [0,0,0,0,0,0,0,0,0,0]) (ao 6 (jj T 1 J (an (so [0,0,0,0,0,0,0,0,0,0]) (ha T 0 [7] (so [0,0,0,0,0,0,0,0,0,0]) hg pf J (ae (rx T 1 (am (_,_,_) [0,0,0,0,0,0,3,3] ⟨oi sI,(p9 oB)⟩ J J))))))))))
     refine jj T 1 J (an (so [0,0,0,0,0,0,0,0,0,0]) (ao 5 (aq J (gq [10,10] J (lK J (iu T J J J J) (an (so [0,0,0,0,0,0,0,0,0,0]) (ha T 0 [7] (so [0,0,0,0,0,0,0,0,0,0]) hg pf J (ae (rx T 1 (am (_,_,_) [0,0,0,0,0,0,3,3] ⟨oi sI,(p9 oB)⟩ J J))))))))))
    refine jj T 1 J (an sz (ao 4 (nw T J (λb77=>fz J (an (so [0,0,0,0,0,0,0,0,0,0]) (ao 5 (aq J (gq [10,10] J (lK J (iu T J J J J) (an (so [0,0,0,0,0,0,0,0,0,0]) (ha T 0 [7] (so [0,0,0,0,0,0,0,0,0,0]) hg pf J (ae (rx T 1 (am (_,_,_) [0,0,0,0,0,0,3,3] ⟨oi sI,(p9 oB)⟩ J J))))))))))))))
   rintro _ ⟨eA,LH,I4⟩ ⟨rfl,s71⟩ H;refine rc T 2 ?_
   cases H;refine gq [3,3,3] J (gq [2,2,3] J (aq J (aq J (pb T J (.cQ (j:=1) [nl,nl] J J J J J J J (.tmp J .nil)) [4,4,2,2,0] ⟨(_,_),none,0,[],none,0,[],LH,I4,(List.flatten [(cl df 135 [(pp lb),(pp lh),(pp l6),(pp kZ),(uu n.aV.bA),(uu n.aV.bB),(uu n.aV.bz),(uu n.aV.bw),(uu n.aV.bF),(uu n.aV.bD)]),yv,(List.flatten [gV,gI,lH])]),aj.nil,aj.nil,s71,(show gW (bV.mk (some (d_.mk x6.aB v11.2.2 v11.2.1)) dg n.aV) df (List.flatten [(cl df 135 [(pp lb),(pp lh),(pp l6),(pp kZ),(uu n.aV.bA),(uu n.aV.bB),(uu n.aV.bz),(uu n.aV.bw),(uu n.aV.bF),(uu n.aV.bD)]),yv,(List.flatten [gV,gI,lH])]) from⟨kZ,yv,(pp lb),(pp lh),(pp l6),(List.flatten [gV,gI,lH]),Xb,(show vp (some (d_.mk x6.aB v11.2.2 v11.2.1)) (pp lb) (pp lh) (pp l6) (List.flatten [gV,gI,lH]) from⟨lb,gV,lh,gI,l6,lH,jh,tP,Dp,J,J,J,J⟩),J⟩),J,J⟩ J J))))
  refine rc T 4 (lm T 6 J (j3 T 1 J (ro T 4 ?_)))
  cases H;refine gq [3,3,3] J (gq [2,5,5] J (aq J (pb T J (.cQ (j:=1) [(ll FL aU HC),(ll FM bc n57)] J J J J J J J (.tmp J .nil)) [3,3,4,3,0] ⟨(_,_),FL,HC,I2,FM,n57,I3,.nilIface,[],(List.flatten [(cl df 135 [(pp lb),(pp lh),(pp l6),(pp kZ),(uu n.aV.bA),(uu n.aV.bB),(uu n.aV.bz),(uu n.aV.bw),(uu n.aV.bF),(uu n.aV.bD)]),yv,(List.flatten [gV,gI,lH])]),s56,s57,uG,(show gW (bV.mk (some (d_.mk x6.aB v11.2.2 v11.2.1)) dg n.aV) df (List.flatten [(cl df 135 [(pp lb),(pp lh),(pp l6),(pp kZ),(uu n.aV.bA),(uu n.aV.bB),(uu n.aV.bz),(uu n.aV.bw),(uu n.aV.bF),(uu n.aV.bD)]),yv,(List.flatten [gV,gI,lH])]) from⟨kZ,yv,(pp lb),(pp lh),(pp l6),(List.flatten [gV,gI,lH]),Xb,(show vp (some (d_.mk x6.aB v11.2.2 v11.2.1)) (pp lb) (pp lh) (pp l6) (List.flatten [gV,gI,lH]) from⟨lb,gV,lh,gI,l6,lH,jh,tP,Dp,J,J,J,J⟩),J⟩),J,J⟩ J J)))
 replace H:=eX KA H;rw[KA] at I8;obtain⟨wo,Ra,L4,n52,LU,E7,rfl,SS⟩:=I8;have Xa:uw v11.2.1 l6 lh lb lH:=⟨(pp Ra),_,(by rw[wo];exact⟨Ra,L4,n52,LU,E7,J,J⟩),SS⟩
 obtain⟨Yc,Nr,Nn⟩:=afH SS;refine bS 6 (congrArg some Nn) (fz J (bS 9 (congrArg some Nr) (fz J (an (so [0,0,0,0,0,2,0]) (ao 11 (kR iI.R [7,8,8] [7,8,8] J Th H (iI.c · jh E7) (λv25 H=>?_)))))));rintro _ _ ⟨a85,n85,H85,E9,rfl,rfl⟩;refine fz J (an (so [0,0,0,0,0,4,0]) (ha T 0 [12] (so [0,0,0,0,0,4,0]) hg pf J (ae (rx T 1 (mq H [1,6] [0,0,0,6,3,3,4,4] (λX6 (⟨iA,ml,nn,jl,Mw,a87,HD,I5,FN,HE,I6,yw⟩:List Int×List Int×Int×jD×Nat×Option Addr×Nat×Hp×Option Addr×Nat×Hp×Hp)=>((iA,ml,nn,jl)=X6/\aj (Fl.int .i64) 3 iA a87 HD I5/\aj (Fl.int .i64) 3 ml FN HE I6/\sF jl kZ yw,[(11,(pp Mw)),(12,(ii nn))],[(cl Mw 79 [(ll a87 iA HD),(ll FN ml HE)]),I5,I6,yw])) J J (λX6 sJ _=>?_) ?_)))))
 ·refine ks [0,1,2,6,8,10] J (fz J (rz [14] mix (bO bN) (λhg pf=>ha T 18 [0,1,2] sz hg pf J (av 3 sz hg pf J (aw T J J J J (aK (j:=2) J J)) (ha T 12 [4,5,6,7,8] sz hg pf J (av 9 sz hg pf J (aw T J J J J (aK (j:=2) J J)) (ha T 10 [10] sz hg pf J (av 12 sz hg pf J (gA T 5 J J J J J J J) (ha T 8 [13] sz hg pf J (gK 11 18 ?_ ?_))))))))))
  ·refine kh [9] J Cp sJ (qc.c · jh) (λv31 sJ=>an sz (gK 14 18 ?_ ?_))
   ·refine kR (mM.R kZ) [] [3] J Em sJ (mM.c · iz (oO jO 3) jO.bT (oO E9 7) E9.bT) (λv32 sJ=>?_);rintro _ _ ⟨a90,n90,H90,a91,n91,H91,H92,s90,s91,s92,rfl,rfl⟩;refine fz J (an sl (hb T 15 sl hg pf J (hb T 16 sl hg pf J (hb T 17 sl hg pf J (ao 18 (nw T J (λb93=>fz J (an sl (ao 19 (jj T 14 J (an sl (hb T 20 sl hg pf J (ae (rx T 1 (am (_,_,_,_,_,_,_,_,_,_,_,_) [0,0,0,5,2,2,3,3,6,3,3,3] ⟨oi sJ,s90,s91,s92⟩ J J)))))))))))))))
   refine nw T J (λb94=>fz J (an (so [0,0,0,0,0,0,0,0,0,0,0,0]) (ao 14 (kR (mM.R kZ) [] [3] J Em sJ (mM.c · iz (oO jO 3) jO.bT (oO E9 7) E9.bT) (λv33 sJ=>?_)))));rintro _ _ ⟨a95,n95,H95,a96,n96,H96,H97,s95,s96,s97,rfl,rfl⟩;refine fz J (an sl (hb T 15 sl hg pf J (hb T 16 sl hg pf J (hb T 17 sl hg pf J (ao 19 (jj T 11 J (an sl (hb T 20 sl hg pf J (ae (rx T 1 (am (_,_,_,_,_,_,_,_,_,_,_,_) [0,0,0,5,2,2,3,3,3,3,3,3] ⟨oi sJ,s95,s96,s97⟩ J J)))))))))))
  refine nw T J (λb98=>fz J (an (so [0,0,0,0,0,0,0,0,0,0,0,0]) (ao 11 (kh [9] J Cp sJ (qc.c · jh) (λFo sJ=>an (so [0,0,0,0,0,0,0,0,0,0,0,0]) (ao 14 (kR (mM.R kZ) [] [3] J Em sJ (mM.c · iz (oO jO 3) jO.bT (oO E9 7) E9.bT) (λv35 sJ=>?_))))))));rintro _ _ ⟨a99,n99,H99,akd,n100,akb,akc,s99,aiy,aiz,rfl,rfl⟩;refine fz J (an sl (hb T 15 sl hg pf J (hb T 16 sl hg pf J (hb T 17 sl hg pf J (ao 19 (jj T 11 J (an sl (hb T 20 sl hg pf J (ae (rx T 1 (am (_,_,_,_,_,_,_,_,_,_,_,_) [0,0,0,5,2,2,3,3,3,3,3,3] ⟨oi sJ,s99,aiy,aiz⟩ J J)))))))))))
 rintro _ ⟨iA,ml,nn,jl,Mw,a87,HD,I5,FN,HE,I6,yw⟩ ⟨rfl,s87,s88,Xc⟩ H;refine rc T 7 (cb J H (λH=>?_) (λH=>?_))
 ·refine mq H [6] [0,0,0,0,0,0,0,0,3] (λz37 (⟨wU,LB,I1⟩:Er×Value×Hp)=>(wU=z37/\gp 414 el wU LB I1,[(7,LB)],[I1])) J J (λz37 L0 _=>?_) ?_
  ·refine fz J (rz [] mix (bO bN) (λhg pf=>ha T 6 [0,1] sz hg pf J (av 2 sz hg pf J (aw T J J J J (rY (j:=0) J hG (g:=4) (by decide))) (ha T 4 [3] sz hg pf J (gK 4 6 ?_ ?_)))))
   ·refine nw T J (λake=>fz J (an (so [0,0,0,0,0,0,0,0,0,0,0,0]) (gK 5 6 ?_ ?_)))
    ·refine aq J (gq [12,12] J (lK J (iu T J J J J) (an (so [0,0,0,0,0,0,0,0,0,0,0,0]) (ao 6 (jj T 1 J (an (so [0,0,0,0,0,0,0,0,0,0,0,0]) (ha T 0 [7] (so [0,0,0,0,0,0,0,0,0,0,0,0]) hg pf J (ae (rx T 1 (am (_,_,_) [0,0,0,0,0,0,0,0,3,3] ⟨oi L0,(p9 oB)⟩ J J))))))))))
    refine jj T 1 J (an (so [0,0,0,0,0,0,0,0,0,0,0,0]) (ao 5 (aq J (gq [12,12] J (lK J (iu T J J J J) (an (so [0,0,0,0,0,0,0,0,0,0,0,0]) (ha T 0 [7] (so [0,0,0,0,0,0,0,0,0,0,0,0]) hg pf J (ae (rx T 1 (am (_,_,_) [0,0,0,0,0,0,0,0,3,3] ⟨oi L0,(p9 oB)⟩ J J))))))))))
   refine jj T 1 J (an sz (ao 4 (nw T J (λakf=>fz J (an (so [0,0,0,0,0,0,0,0,0,0,0,0]) (ao 5 (aq J (gq [12,12] J (lK J (iu T J J J J) (an (so [0,0,0,0,0,0,0,0,0,0,0,0]) (ha T 0 [7] (so [0,0,0,0,0,0,0,0,0,0,0,0]) hg pf J (ae (rx T 1 (am (_,_,_) [0,0,0,0,0,0,0,0,3,3] ⟨oi L0,(p9 oB)⟩ J J))))))))))))))
  rintro _ ⟨wU,LB,I1⟩ ⟨rfl,aiA⟩ H;refine rc T 2 ?_
  cases H;refine cq [6,6] J Nr (cq [5,7] J Nn (gq [3,3,5] J (gq [2,2,3] J (aq J (aq J (pb T J (.cQ (j:=1) [nl,nl] J J J J J J J (.tmp J .nil)) [4,4,2,2,0] ⟨(_,_),none,0,[],none,0,[],LB,I1,(List.flatten [(cl df 135 [(pp lb),(pp lh),(pp l6),(pp kZ),(uu n.aV.bA),(uu n.aV.bB),(uu n.aV.bz),(uu n.aV.bw),(uu n.aV.bF),(uu n.aV.bD)]),yw,(List.flatten [gV,gI,lH])]),aj.nil,aj.nil,aiA,(show gW (bV.mk (some (d_.mk x6.aB v11.2.2 v11.2.1)) jl n.aV) df (List.flatten [(cl df 135 [(pp lb),(pp lh),(pp l6),(pp kZ),(uu n.aV.bA),(uu n.aV.bB),(uu n.aV.bz),(uu n.aV.bw),(uu n.aV.bF),(uu n.aV.bD)]),yw,(List.flatten [gV,gI,lH])]) from⟨kZ,yw,(pp lb),(pp lh),(pp l6),(List.flatten [gV,gI,lH]),Xc,(show vp (some (d_.mk x6.aB v11.2.2 v11.2.1)) (pp lb) (pp lh) (pp l6) (List.flatten [gV,gI,lH]) from⟨lb,gV,lh,gI,l6,lH,jh,tP,Xa,J,J,J,J⟩),J⟩),J,J⟩ J J))))))
 refine rc T 4 (lm T 8 J (j3 T 1 J (ro T 4 ?_)))
 cases H;refine cq [6,6] J Nr (cq [5,9] J Nn (gq [3,3,7] J (gq [2,5,5] J (aq J (pb T J (.cQ (j:=1) [(ll a87 iA HD),(ll FN ml HE)] J J J J J J J (.tmp J .nil)) [3,3,4,3,0] ⟨(_,_),a87,HD,I5,FN,HE,I6,.nilIface,[],(List.flatten [(cl df 135 [(pp lb),(pp lh),(pp l6),(pp kZ),(uu n.aV.bA),(uu n.aV.bB),(uu n.aV.bz),(uu n.aV.bw),(uu n.aV.bF),(uu n.aV.bD)]),yw,(List.flatten [gV,gI,lH])]),s87,s88,uG,(show gW (bV.mk (some (d_.mk x6.aB v11.2.2 v11.2.1)) jl n.aV) df (List.flatten [(cl df 135 [(pp lb),(pp lh),(pp l6),(pp kZ),(uu n.aV.bA),(uu n.aV.bB),(uu n.aV.bz),(uu n.aV.bw),(uu n.aV.bF),(uu n.aV.bD)]),yw,(List.flatten [gV,gI,lH])]) from⟨kZ,yw,(pp lb),(pp lh),(pp l6),(List.flatten [gV,gI,lH]),Xc,(show vp (some (d_.mk x6.aB v11.2.2 v11.2.1)) (pp lb) (pp lh) (pp l6) (List.flatten [gV,gI,lH]) from⟨lb,gV,lh,gI,l6,lH,jh,tP,Xa,J,J,J,J⟩),J⟩),J,J⟩ J J)))))
def zx.f (n:bV) (goal:Int) (cell:Int):Option (Int×Int×Er×bV):=(zv.f n).bind λv1=>(gR.f v1.1 v1.2 cell).bind λv2=>(qX.f n goal v2).bind λv3=>if(!(Er.isNil v3.2.1))=true then(some (0,0,v3.2.1,v3.2.2)) else((ry.f v1.1 v1.2 cell).bind λv4=>if(0<=v4/\v4<(List.length v3.1.fc:Int)) then(if(0<=v4/\v4<(List.length v3.1.bX:Int)) then(some ((rd v3.1.fc v4),(rd v3.1.bX v4),Er.nil,v3.2.2)) else none) else none)
def zx.R (el:Nat->Addr) (sQ:Nat) (r:(Int×Int×Er×bV)):bg:=λu G=> ∃(v0:Value) (H0:Hp) (H1:Hp),gp 414 el r.2.2.1 v0 H0/\gW r.2.2.2 sQ H1/\u=(.tuple #[(ii r.1),(ii r.2.1),v0])/\G=[H0,H1]
theorem zx.c (H:zx.f n goal cell=some r) (hG:fW 414 fp iw el F) (ji:gW n df jn):
 QR 163 [(pp df),(ii goal),(ii cell)] [jn] [] F (zx.R el df r):=by
 unfold zx.f at H;refine aD Tryz.func163 J J (λW=>rc T 10 (k [0] J Tt H (zv.c · ji) (λv1 H=>ro T 14 (k [] J rU H (gR.c ·) (λv2 H=>kr (qX.R el df) [] [0] J S9 H (qX.c · (dG hG (j:=0) J) ji) (λv3 H=>?_))))));rintro _ _ ⟨a2,n2,H2,a3,n3,H3,v4,H4,H5,s2,s3,s4,s5,rfl,rfl⟩;refine fz J (ro T 3 (nc T J (λb6=>fz J (j3 T 5 J (ro T 7 (br J (Ea T J J J (rP s4 (j:=3) J)) (ro T 2 (cb J H (λH=>?_) (λH=>?_)))))))))
 ·refine rc T 10 ?_
  cases H;exact p1 T J [3,3,0] ⟨v4,H4,H5,s4,s5,J,J⟩ J
 refine rc T 7 (k [] J Gu H (ry.c ·) (λv4 H=>ro T 4 (dx mix ay (au T J (aO J J J (aw T J J J J (aK (j:=5) J J)) (au T J ?_))))));obtain⟨c6,H⟩:=az H;obtain⟨q7,o7,e7⟩:=s2.r.addr c6.1 c6.2;refine aO J J J (cC T J J J J J e7 c6.1 c6.2) (aO J J J (aw T J J J J (g_ (k:=(Fl.int .i64)) (oO s2 1) e7 c6 0 J)) (au T J (aO J J J (aw T J J J J (aK (j:=5) J J)) (au T J ?_))));obtain⟨c7,H⟩:=az H;obtain⟨q8,o8,e8⟩:=s3.r.addr c7.1 c7.2;refine aO J J J (cC T J J J J J e8 c7.1 c7.2) (aO J J J (aw T J J J J (g_ (k:=(Fl.int .i64)) (oO s3 2) e8 c7 0 J)) (au T J (au T J (au T J (dh (rx T 2 ?_))))))
 cases H;refine aq J (p1 T J [6,4,0] ⟨.nilIface,[],H5,uG,s5,J,J⟩ J)
def zy.f (err:Er):Option Int:=if(Er.isNil err)=true then(some 0) else((vF.f err (Er.eF 2)).bind λv1=>if v1=true then(some 4) else((vF.f err (Er.eF 3)).bind λv2=>if v2=true then(some 7) else(some 1)))
theorem zy.c (H:zy.f err=some r) (hG:fW 414 fp iw el F) (D7:lW 414 el err Qb F):
 QU 101 [Qb] [] F (ii r):=by
 unfold zy.f at H;refine aD Tryz.func101 J J (λW=>rc T 10 (br J (JO T J J J (Gg D7 (j:=0) J)) (ro T 3 (cb J H (λH=>?_) (λH=>?_)))))
 ·refine rc T 8 ?_
  cases H;exact p0 T J [0] J
 refine rc T 3 (lg T J (rY (j:=0) J hG (g:=2) (by decide)) (k [] J Kc H (vF.c err (Er.eF 2) _ _ · (dG hG (j:=0) J) (Gg D7 (j:=0) J) JC) (λv1 H=>ro T 3 (cb J H (λH=>?_) (λH=>?_)))))
 ·refine rc T 8 ?_
  cases H;exact p0 T J [0] J
 refine rc T 3 (lg T J (rY (j:=0) J hG (g:=3) (by decide)) (k [] J Kc H (vF.c err (Er.eF 3) _ _ · (dG hG (j:=0) J) (Gg D7 (j:=0) J) JC) (λv2 H=>ro T 3 (cb J H (λH=>?_) (λH=>?_)))))
 ·refine rc T 8 ?_
  cases H;exact p0 T J [0] J
 refine rc T 9 ?_
 cases H;exact p0 T J [0] J
def xN.f (n:bV) (goal:Int) (cell:Int):Option (Int×Int×Int×bV):=(zx.f n goal cell).bind λv1=>(zy.f v1.2.2.1).bind λv2=>some (v1.1,v1.2.1,v2,v1.2.2.2)
def xN.R (el:Nat->Addr) (sQ:Nat) (r:(Int×Int×Int×bV)):bg:=λu G=> ∃(H0:Hp),gW r.2.2.2 sQ H0/\u=(.tuple #[(ii r.1),(ii r.2.1),(ii r.2.2.1)])/\G=[H0]
theorem xN.c (H:xN.f n goal cell=some r) (hG:fW 414 fp iw el F) (ji:gW n df jn):
 QR 127 [(pp df),(ii goal),(ii cell)] [jn] [] F (xN.R el df r):=by
 unfold xN.f at H;refine aD Tryz.func127 J J (λW=>rc T 12 (kr (zx.R el df) [] [0] J ac7 H (zx.c · (dG hG (j:=0) J) ji) (λv1 H=>?_)));rintro _ _ ⟨v2,H2,H3,s2,s3,rfl,rfl⟩;refine fz J (ro T 14 (k [] J S_ H (zy.c · (dG hG (j:=0) J) (rP s2 (j:=1) J)) (λv2 H=>ro T 6 ?_)))
 cases H;exact p1 T J [2,0] ⟨H3,s3,J,J⟩ J
def u6.f (n:bV) (goal:Int) (bI:Int):Option (fR×Int×bV):=(qX.f n goal bI).bind λv1=>(zy.f v1.2.1).bind λv2=>some (v1.1,v2,v1.2.2)
def u6.R (el:Nat->Addr) (sQ:Nat) (r:(fR×Int×bV)):bg:=λu G=> ∃(a0 n0 H0:_) (a1 n1 H1:_) (H2:Hp),aj (Fl.int .i64) 3 r.1.fc a0 n0 H0/\aj (Fl.int .i64) 3 r.1.bX a1 n1 H1/\gW r.2.2 sQ H2/\u=(.tuple #[(.agg #[(ll a0 r.1.fc n0),(ll a1 r.1.bX n1)]),(ii r.2.1)])/\G=[H0,H1,H2]
theorem u6.c (H:u6.f n goal bI=some r) (hG:fW 414 fp iw el F) (ji:gW n df jn):
 QR 68 [(pp df),(ii goal),(ii bI)] [jn] [] F (u6.R el df r):=by
 unfold u6.f at H;refine aD Tryz.func68 J J (λW=>rc T 2 (nc T J (λb2=>fz J (ro T 8 (kr (qX.R el df) [] [0] J S9 H (qX.c · (dG hG (j:=0) J) ji) (λv1 H=>?_))))));rintro _ _ ⟨a3,n3,H3,a4,n4,H4,v5,H5,H6,s3,s4,s5,s6,rfl,rfl⟩;refine fz J (ro T 3 (nc T J (λb7=>fz J (j3 T 6 J (ro T 4 (ks [6,8,9] J (fz J (rz [3] mix (bO bN) (λhg pf=>av 0 sz hg pf J (gA T 6 J J J J J J J) (ha T 3 [1] sz hg pf J (ao 2 (kh [] J S_ H (zy.c · (dG hG (j:=0) J) (rP s5 (j:=4) J)) (λv2 H=>an sz (ao 3 (jj T 1 J (an sl (hb T 4 sl hg pf J (ae (rx T 2 ?_)))))))))))))))))))
 cases H;exact pb T J (.cQ (j:=1) [(ll a3 v1.1.fc n3),(ll a4 v1.1.bX n4)] J J J J J J J (.tmp J .nil)) [2,2,3,0] ⟨(_,_),a3,n3,H3,a4,n4,H4,H6,s3,s4,s6,J,J⟩ J J
def C2.f (n:bV):Option fZ:=(zw.f n).bind λv1=>(mP.f n.aV v1).bind λv2=>(Fe.f n.fV).bind λv3=>(mP.f v2 v3).bind λv4=>some v4
theorem C2.c (H:C2.f n=some r) (ji:gW n df jn):
 QU 52 [(pp df)] [jn] F (.agg #[(uu r.bA),(uu r.bB),(uu r.bz),(uu r.bw),(uu r.bF),(uu r.bD)]):=by
 unfold C2.f at H;refine aD Tryz.func52 J J (λW=>rc T 2 (nc T J (λb2=>fz J (ro T 9 (eT J (rc T 3 ?_))))));obtain⟨b4,H4,yj,Fp,Fq,H5,s4,s5,dy⟩:=(λx=>x) ji;refine bS 0 (congrArg some dy) (fz J (ks [0,2] J (fz J (rz [13] mix (bO bN) (λhg pf=>ha T 11 [0,1,2] sz hg pf J (av 3 sz hg pf J (gA T 2 J J J J J J J) (ha T 6 [4,7,8,9] sz hg pf J (av 10 sz hg pf J (aw T J J J J (aK (j:=2) J J)) (ao 5 ?_)))))))));obtain⟨v1,V1,H⟩:=gu H;refine Jm (As:=[(cl df 135 [yj,Fp,Fq,(pp b4),(uu n.aV.bA),(uu n.aV.bB),(uu n.aV.bz),(uu n.aV.bw),(uu n.aV.bF),(uu n.aV.bD)]),H4,H5]) [2,2,2] J J J J Ua J J (Jy (A:=[jn]) (by simp only[dy,List.flatten_cons,List.flatten_append,List.flatten_nil,List.append_nil,List.append_assoc]) (zw.c V1 ji)) (an sz (ao 6 (kh [] J NV H (mP.c ·) (λv2 H=>an sz (ao 11 (kh [3] J aeE H (Fe.c · s4) (λv3 H=>an sz (ao 12 (kh [] J NV H (mP.c ·) (λv4 H=>an sz (ao 13 (jj T 1 J (an sl (ae (rx T 2 ?_)))))))))))))))
 cases H;refine cq [2,2,2] J dy (pb T J (.cQ (j:=1) [(uu r.bA),(uu r.bB),(uu r.bz),(uu r.bw),(uu r.bF),(uu r.bD)] J J J J J J J .nil) [2,0] () J J)
def wh.f (n:bV):Option aL:=cT n.core ((AK.f).bind λv2=>some v2) (λx1=>(xv.f x1.aB).bind λv3=>some v3)
def wh.R (r:aL):bg:=λu G=> ∃a0 n0 H0,aj (Fl.int .u8) 5 r.C a0 n0 H0/\u=(.agg #[(ii r.W),(ii r.H),(ll a0 r.C n0)])/\G=[H0]
theorem wh.c (H:wh.f n=some r) (ji:gW n df jn):
 QR 43 [(pp df)] [jn] [jn] F (wh.R r):=by
 unfold wh.f at H;refine aD Tryz.func43 J J (λW=>rc T 2 (nc T J (λb2=>fz J (ro T 9 (eT J (rc T 3 ?_))))));obtain⟨b4,H4,yj,Fp,Fq,H5,s4,s5,dy⟩:=(λx=>x) ji;refine bS 0 (congrArg some dy) (fz J ?_);rcases q1:n.core with _ |x1
 ·replace H:=eW q1 H;rw[q1] at s5;obtain⟨rfl,rfl,rfl,rfl⟩:=s5;refine rc T 4 (lf T 2 J (kr AK.R [] [] J T_ H (AK.c ·) (λv2 H=>?_)));rintro _ _ ⟨cB,n10,b_,bP,rfl,rfl⟩;refine fz J (j3 T 1 J (ro T 3 ?_))
  cases H;refine cq [2,2,2] J dy (pb T J (.cQ (j:=1) [(ii r.W),(ii r.H),(ll cB r.C n10)] J J J J J J J .nil) [2,2,0] ⟨(_,_),cB,n10,b_,bP,J,J⟩ J J)
 replace H:=eX q1 H;rw[q1] at s5;obtain⟨b7,H7,b8,H8,b9,H9,s7,s8,s9,rfl,rfl,rfl,oD⟩:=s5;refine bS 4 (congrArg some oD) (fz J (rc T 4 (lf T 2 J (kr xv.R [4] [4] J T_ H (xv.c · s7) (λv3 H=>?_)))));rintro _ _ ⟨dj,n11,cz,c_,rfl,rfl⟩;refine fz J (j3 T 1 J (ro T 3 ?_))
 cases H;refine cq [7,4,4] J oD (cq [2,2,3] J dy (pb T J (.cQ (j:=1) [(ii r.W),(ii r.H),(ll dj r.C n11)] J J J J J J J .nil) [2,2,0] ⟨(_,_),dj,n11,cz,c_,J,J⟩ J J))
end
noncomputable section
def pD.f (kind:Int):Option (Bc×Bool):=if(kind==1)=true then(some ((Bc.mk 0 0 true),true)) else(if(kind==2)=true then(some ((Bc.mk 4 1 false),true)) else((if(kind==3)=true then(some (kind==3)) else(if(kind==4)=true then(some (kind==4)) else(some (kind==6)))).bind λx1=>if x1=true then(some ((Bc.mk 4 4 false),true)) else(if(kind==5)=true then(some ((Bc.mk 4 0 false),true)) else((if(kind==7)=true then(some (kind==7)) else(some (kind==8))).bind λx3=>if x3=true then(some ((Bc.mk 0 0 false),true)) else(some ((Bc.mk 0 0 false),false))))))
theorem pD.c (H:pD.f kind=some r):
 QU 111 [(ii kind)] [] F (.tuple #[(.agg #[(ii r.1.a),(ii r.1.b),(bb r.1.load)]),(bb r.2)]):=by
 unfold pD.f at H;refine aD Tryz.func111 J J (λW=>rc T 2 (nc T J (λb1=>ro T 5 (nc T J (λb2=>ro T 29 (cb J H (λH=>?_) (λH=>?_)))))))
 ·refine rc T 8 (sg T 2 J (ro T 1 (ks [2,4] J (rx T 16 (lm T 2 J (sg T 1 J (ro T 1 (ro T 3 ?_))))))))
  cases H;exact pb T J (.cQ (j:=1) [(ii 0),(ii 0),(bb true)] J J J J J J J (.tmp J .nil)) [0] () J J
 refine rc T 9 (cb J H (λH=>?_) (λH=>?_))
 ·refine rc T 10 (sg T 2 J (ro T 1 (sg T 2 J (ro T 1 (ks [2,4] J (rx T 14 (lm T 2 J (sg T 1 J (ro T 4 ?_)))))))))
  cases H;exact pb T J (.cQ (j:=1) [(ii 4),(ii 1),(bb false)] J J J J J J J (.tmp J .nil)) [0] () J J
 refine rc T 3 (mq H [2,4,5] [0,0,0] (λz2 (x1:Bool)=>(x1=z2,[(10,(bb x1))],[])) J J (λz2 Z3 _=>?_) ?_)
 ·refine rc T 6 (cb J Z3 (λZ3=>?_) (λZ3=>?_))
  ·refine rc T 2 (am _ [0,0,0] (oi Z3) J J)
  refine rc T 6 (cb J Z3 (λZ3=>?_) (λZ3=>?_))
  ·refine rc T 2 (am _ [0,0,0] (oi Z3) J J)
  refine rc T 5 (am _ [0,0,0] (oi Z3) J J)
 rintro _ x1 rfl H;refine cb J H (λH=>?_) (λH=>?_)
 ·refine rc T 11 (sg T 2 J (ro T 5 (sg T 2 J (ro T 10 (lm T 2 J (sg T 1 J (ro T 1 (ro T 1 (ke [2,3] [0,0] J J (rx T 2 ?_))))))))))
  cases H;exact pb T J (.cQ (j:=1) [(ii 4),(ii 4),(bb false)] J J J J J J J (.tmp J .nil)) [0] () J J
 refine rc T 9 (cb J H (λH=>?_) (λH=>?_))
 ·refine rc T 13 (sg T 2 J (ro T 10 (lm T 2 J (sg T 1 J (ro T 4 ?_)))))
  cases H;exact pb T J (.cQ (j:=1) [(ii 4),(ii 0),(bb false)] J J J J J J J (.tmp J .nil)) [0] () J J
 refine rc T 2 (mq H [2,4] [0,0,0] (λz4 (x3:Bool)=>(x3=z4,[(16,(bb x3))],[])) J J (λz4 Z8 _=>?_) ?_)
 ·refine rc T 6 (cb J Z8 (λZ8=>?_) (λZ8=>?_))
  ·refine rc T 2 (am _ [0,0,0] (oi Z8) J J)
  refine rc T 5 (am _ [0,0,0] (oi Z8) J J)
 rintro _ x3 rfl H;refine cb J H (λH=>?_) (λH=>?_)
 ·refine rc T 19 (lm T 2 J (sg T 1 J (ro T 4 ?_)))
  cases H;exact pb T J (.cQ (j:=1) [(ii 0),(ii 0),(bb false)] J J J J J J J (.tmp J .nil)) [0] () J J
 refine rc T 19 (sg T 1 J (ro T 7 ?_))
 cases H;exact pb T J (.cQ (j:=1) [(ii 0),(ii 0),(bb false)] J J J J J J J (.tmp J .nil)) [0] () J J
def qZ.l0:Nat->(List Int)->Int->Int->Option Int
 |0,_,_,_=>none
 |k5+1,b,x3,x4=>if x4<(List.length b:Int) then(if(0<=x4/\x4<(List.length b:Int)) then(if(0<=(aa (8*x4))) then(qZ.l0 k5 b (aa (BitVec.toNat (BitVec.ofInt (IntKind.bits .i64) x3|||BitVec.ofInt (IntKind.bits .i64) (aa ((aa (rd b x4))*(2^(min (Int.toNat (aa (8*x4))) (IntKind.bits .i64)))))))) (aa (x4+1))) else none) else none) else(some x3)
def qZ.f (b:(List Int)):Option Int:=qZ.l0 fuel b 0 0
theorem qZ.c (H:qZ.f b=some r) (fh:aP (Fl.int .u8) b gY F) (fJ:List.length b<=gP):
 QU 190 [(ll gY b gP)] [] F (ii r):=by
 unfold qZ.f at H;refine aD Tryz.func190 J J (λW=>rc T 19 (lq [6,7] [0] (λ(⟨k5,x3,x4⟩:Nat×Int×Int)=>(qZ.l0 k5 b x3 x4=some r,[(3,(ii x3)),(8,(ii x4))],[])) J J (fuel,0,0) [0] H J J ?_));rintro k5 ⟨x3,x4⟩ Z1;replace Z1:qZ.l0 (k5+1) b x3 x4=some r:=Z1;rw[qZ.l0] at Z1;refine rc T 6 (cd J Z1 (λZ1=>?_) (λZ1=>?_))
 ·refine rc T 7 ?_;obtain⟨c3,Z1⟩:=az Z1;obtain⟨q1,o1,e1⟩:=fh.addr c3.1 c3.2;refine ix T J e1 c3 (le T 0 (rO fh 0) e1 c3 J J (ro T 10 ?_));obtain⟨c4,Z1⟩:=az Z1;refine br J (St J J J c4) (ro T 10 (ar (_,_) [0] Z1 J J))
 refine rc T 12 ?_
 cases Z1;exact p0 T J [0] J
def Bb.f (b:(List Int)):Option (cR×Int):=if(0<=(0:Int)/\(0:Int)<(List.length b:Int)) then(if(0<=(1:Int)/\(1:Int)<=(List.length b:Int)/\(List.length b:Int)<=(List.length b:Int)) then((pD.f (aa (rd b 0))).bind λv1=>if(!v1.2)=true then(some ((cR.mk 0 (aa (rd b 0)) 0 []),1)) else(if v1.1.load=true then(if(List.length (aA b 1 (List.length b:Int)):Int)<4 then(some ((cR.mk 0 0 0 []),0)) else(if(0<=(0:Int)/\(0:Int)<=(4:Int)/\(4:Int)<=(List.length (aA b 1 (List.length b:Int)):Int)) then((qZ.f (aA (aA b 1 (List.length b:Int)) 0 4)).bind λv2=>if(aa ((List.length (aA b 1 (List.length b:Int)):Int)-4))<v2 then(some ((cR.mk 0 0 0 []),0)) else(if(0<=(4:Int)/\(4:Int)<=(aa (4+v2))/\(aa (4+v2))<=(List.length (aA b 1 (List.length b:Int)):Int)) then(if(List.length ([]:List Int)+List.length (aA (aA b 1 (List.length b:Int)) 4 (aa (4+v2)))<=1099511627776) then(some ((cR.mk (aa (rd b 0)) 0 0 ([]++(aA (aA b 1 (List.length b:Int)) 4 (aa (4+v2))))),(aa (5+v2)))) else none) else none)) else none)) else(if(List.length (aA b 1 (List.length b:Int)):Int)<(aa (v1.1.a+v1.1.b)) then(some ((cR.mk 0 0 0 []),0)) else(if(0<=(0:Int)/\(0:Int)<=v1.1.a/\v1.1.a<=(List.length (aA b 1 (List.length b:Int)):Int)) then(if(0<=v1.1.a/\v1.1.a<=(aa (v1.1.a+v1.1.b))/\(aa (v1.1.a+v1.1.b))<=(List.length (aA b 1 (List.length b:Int)):Int)) then((qZ.f (aA (aA b 1 (List.length b:Int)) 0 v1.1.a)).bind λv3=>(qZ.f (aA (aA b 1 (List.length b:Int)) v1.1.a (aa (v1.1.a+v1.1.b)))).bind λv4=>some ((cR.mk (aa (rd b 0)) v3 v4 []),(aa ((aa (1+v1.1.a))+v1.1.b)))) else none) else none)))) else none) else none
def Bb.R (r:(cR×Int)):bg:=λu G=> ∃a0 n0 H0,aj (Fl.int .u8) 5 r.1.Map a0 n0 H0/\u=(.tuple #[(.agg #[(ii r.1.Kind),(ii r.1.A),(ii r.1.B),(ll a0 r.1.Map n0)]),(ii r.2)])/\G=[H0]
theorem Bb.c (H:Bb.f b=some r) (fh:aP (Fl.int .u8) b gY F) (fJ:List.length b<=gP):
 QR 146 [(ll gY b gP)] [] [] F (Bb.R r):=by
 unfold Bb.f at H;refine aD Tryz.func146 J J (λW=>rc T 2 (nc T J (λb1=>ro T 4 (dx mix ay (au T J ?_)))));obtain⟨c1,H⟩:=az H;obtain⟨q2,o2,e2⟩:=fh.addr c1.1 c1.2;refine aO J J J (cC T J J J J J e2 c1.1 c1.2) (aO J J J (aw T J J J J (g_ (k:=(Fl.int .u8)) (rO fh 0) e2 c1 0 J)) (au T J (au T J ?_)));obtain⟨c2,H⟩:=az H;refine aO J J J (kE T J J J J J J c2 fJ) (au T J (au T J (dh (rx T 4 (k [] J Nz H (pD.c ·) (λv1 H=>ro T 3 (nc T J (λb3=>sg T 2 J (ro T 10 (cb J H (λH=>?_) (λH=>?_)))))))))))
 ·refine rc T 4 (sg T 1 J (ro T 2 (ke [2,3] [0,0] J J (rx T 3 ?_))))
  cases H;refine bq (pb T J (.cQ (j:=1) [(ii 0),(ii (aa (rd b 0))),(ii 0),nl] J J J J J J J (.tmp J .nil)) [2,0] ⟨(_,_),none,0,[],aj.nil,J,J⟩ J J)
 refine rc T 6 (lf T 2 J (ro T 2 (cb J H (λH=>?_) (λH=>?_))))
 ·refine rc T 8 (cd J H (λH=>?_) (λH=>?_))
  ·refine rc T 3 (sg T 1 J (ro T 6 ?_))
   cases H;refine bq (pb T J (.cQ (j:=1) [(ii 0),(ii 0),(ii 0),nl] J J J J J J J (.tmp J .nil)) [3,0] ⟨(_,_),none,0,[],aj.nil,J,J⟩ J J)
  refine rc T 5 ?_;obtain⟨c7,H⟩:=az H;refine br J (kE T J J J J J J c7 (mO c2 fJ)) (k [] J NG H (qZ.c · (nj (nj (rO fh 0) c2 fJ) c7 (mO c2 fJ)) (mO c7 (mO c2 fJ))) (λv2 H=>ro T 13 (cd J H (λH=>?_) (λH=>?_))))
  ·refine rc T 3 (sg T 1 J (ro T 6 ?_))
   cases H;refine bq (pb T J (.cQ (j:=1) [(ii 0),(ii 0),(ii 0),nl] J J J J J J J (.tmp J .nil)) [3,0] ⟨(_,_),none,0,[],aj.nil,J,J⟩ J J)
  refine rc T 8 ?_;obtain⟨iT,H⟩:=az H;refine br J (kE T J J J J J J iT (mO c2 fJ)) (bq ?_);obtain⟨eJ,H⟩:=az H;refine aX (dW (k:=(Fl.int .u8)) (xs:=([]:List Int)) T (g:=3) J J J J J J J J J J aj.nil (nj (nj (rO fh 0) c2 fJ) iT (mO c2 fJ)) eJ J (λa8 n8 H8 s8=>ro T 3 (sg T 1 J (ro T 2 (ke [2,3] [0,0,1] J J (rx T 3 ?_))))))
  cases H;exact pb T J (.cQ (j:=1) [(ii (aa (rd b 0))),(ii 0),(ii 0),(ll a8 ([]++(aA (aA b 1 (List.length b:Int)) 4 (aa (4+v2)))) n8)] J J J J J J J (.tmp J .nil)) [2,0] ⟨(_,_),a8,n8,H8,s8,J,J⟩ J J
 refine rc T 8 (lf T 2 J (ro T 1 (lf T 2 J (ro T 4 (cd J H (λH=>?_) (λH=>?_))))))
 ·refine rc T 3 (sg T 1 J (ro T 5 ?_))
  cases H;refine bq (pb T J (.cQ (j:=1) [(ii 0),(ii 0),(ii 0),nl] J J J J J J J (.tmp J .nil)) [3,0] ⟨(_,_),none,0,[],aj.nil,J,J⟩ J J)
 refine rc T 3 (ks [2,4,5,6] J (fz J (rg [] [0,1] mix (bO bN) (λhg pf=>ha T 22 [0,1,2] (so [0,1]) hg pf J (av 3 (so [0,1]) hg pf J (aw T J J J J (aK (j:=1) J J)) ?_)))));obtain⟨jr,H⟩:=az H;refine av 4 (so [0,1]) hg pf J (kE T J J J J J J jr (mO c2 fJ)) (ha T 18 [6,7] (so [0,1]) hg pf J (av 8 (so [0,1]) hg pf J (aw T J J J J (aK (j:=1) J J)) (ha T 16 [9] (so [0,1]) hg pf J (av 10 (so [0,1]) hg pf J (aw T J J J J (aK (j:=1) J J)) (ha T 14 [11] (so [0,1]) hg pf J (av 12 (so [0,1]) hg pf J (aw T J J J J (aK (j:=1) J J)) (ha T 12 [13] (so [0,1]) hg pf J ?_)))))));obtain⟨pj,H⟩:=az H;refine av 14 (so [0,1]) hg pf J (kE T J J J J J J pj (mO c2 fJ)) (ha T 10 [17] (so [0,1]) hg pf J (av 18 (so [0,1]) hg pf J (aw T J J J J (aK (j:=1) J J)) (ha T 7 [19,20] (so [0,1]) hg pf J (av 21 (so [0,1]) hg pf J (aw T J J J J (aK (j:=1) J J)) (ha T 5 [22] (so [0,1]) hg pf J (ao 5 (kh [] J NG H (qZ.c · (nj (nj (rO fh 0) c2 fJ) jr (mO c2 fJ)) (mO jr (mO c2 fJ))) (λv3 H=>an (so [0,1]) (ao 15 (kh [] J NG H (qZ.c · (nj (nj (rO fh 0) c2 fJ) pj (mO c2 fJ)) (mO pj (mO c2 fJ))) (λv4 H=>an (so [0,1]) (ha T 2 [16] (so [0,1]) hg pf J (ao 23 (sf T 1 J (an (so [0,1]) (ha T 0 [24] (so [0,1]) hg pf J (ae (rx T 1 (rc T 1 ?_)))))))))))))))))))
 cases H;refine bq (pb T J (.cQ (j:=1) [(ii (aa (rd b 0))),(ii v3),(ii v4),nl] J J J J J J J (.tmp J .nil)) [3,0] ⟨(_,_),none,0,[],aj.nil,J,J⟩ J J)
def HI.f (b:(List Int)):Option Bool:=if((List.length b:Int)==0)=true then(some false) else((Bb.f b).bind λv1=>some (v1.2==0))
theorem HI.c (H:HI.f b=some r) (fh:aP (Fl.int .u8) b gY F) (fJ:List.length b<=gP):
 QU 110 [(ll gY b gP)] [] F (bb r):=by
 unfold HI.f at H;refine aD Tryz.func110 J J (λW=>rc T 13 (cb J H (λH=>?_) (λH=>?_)))
 ·refine rc T 7 ?_
  cases H;exact p0 T J [0] J
 refine rc T 5 (kr Bb.R [] [] J ac0 H (Bb.c · (rO fh 0) fJ) (λv1 H=>?_));rintro _ _ ⟨a1,n1,H1,s1,rfl,rfl⟩;refine fz J (ro T 3 (nc T J (λb2=>sg T 2 J (ro T 11 ?_))))
 cases H;exact p0 T J [0] J
def r_.f (n:Int) (ai:Int):Option Bool:=if n≥0 then(if(0<=(aa (8*ai))) then(some (decide (n<(aa (1*(2^(min (Int.toNat (aa (8*ai))) (IntKind.bits .i64)))))))) else none) else(some false)
theorem r_.c (H:r_.f n ai=some r):
 QU 112 [(ii n),(ii ai)] [] F (bb r):=by
 unfold r_.f at H;refine aD Tryz.func112 J J (λW=>rc T 10 (ad 7 J H (λH=>?_) (λH=>?_)))
 ·refine ro T 3 ?_;obtain⟨c2,H⟩:=az H;refine br J (St J J J c2) (ro T 6 ?_)
  cases H;exact p0 T J [0] J
 refine ro T 10 ?_
 cases H;exact p0 T J [0] J
def C8.f (o:cR):Option Bool:=if(o.Kind==0)=true then(if(o.A==(-1))=true then((if(o.B==0)=true then((HI.f o.Map).bind λv3=>some v3) else(some false)).bind λx1=>some x1) else((pD.f o.A).bind λv4=>((r_.f o.A 1).bind λv7=>if(v7&&(!v4.2))=true then(if(o.B==0)=true then(some ((List.length o.Map:Int)==0)) else(some false)) else(some false)).bind λx5=>some x5)) else((pD.f o.Kind).bind λv8=>(if v8.2=true then((r_.f o.A v8.1.a).bind λv11=>if v11=true then((r_.f o.B v8.1.b).bind λv12=>if v12=true then(if((List.length o.Map:Int)==0)=true then(some true) else(if v8.1.load=true then(some (decide ((List.length o.Map:Int)<=4294967295))) else(some false))) else(some false)) else(some false)) else(some false)).bind λx9=>some x9)
theorem C8.c (H:C8.f o=some r) (AL:aP (Fl.int .u8) o.Map B3 F) (Ax:List.length o.Map<=C0):
 QU 82 [(.agg #[(ii o.Kind),(ii o.A),(ii o.B),(ll B3 o.Map C0)])] [] F (bb r):=by
 unfold C8.f at H;refine aD Tryz.func82 J J (λW=>rc T 2 (nc T J (λb1=>ro T 7 (lf T 1 J (ro T 3 (cb J H (λH=>?_) (λH=>?_)))))))
 ·refine rc T 4 (lf T 1 J (ro T 3 (cb J H (λH=>?_) (λH=>?_))))
  ·refine mq H [] [0] (λz2 (x1:Bool)=>(x1=z2,[(2,(bb x1))],[])) J J (λz2 Z3 _=>?_) ?_
   ·refine rc T 2 (lf T 1 J (ro T 2 (ab 16 J Z3 (λZ3=>?_) (λZ3=>?_))))
    ·refine ro T 1 (lf T 1 J (k [] J acM Z3 (HI.c · (rO AL 0) Ax) (λv3 Z3=>ro T 4 (am _ [0] (oi Z3) J J))))
    refine ro T 7 (am _ [0] (oi Z3) J J)
   rintro _ x1 rfl H;refine rc T 3 ?_
   cases H;exact p0 T J [0] J
  refine rc T 5 (lf T 1 J (k [] J Nz H (pD.c ·) (λv4 H=>ro T 3 (nc T J (λb2=>sg T 2 J (ro T 3 (mq H [] [0] (λz6 (x5:Bool)=>(x5=z6,[(2,(bb x5))],[])) J J (λz6 Z7 _=>?_) ?_)))))))
  ·refine rc T 2 (lf T 1 J (k [] J NA Z7 (r_.c ·) (λv7 Z7=>ro T 1 (ga T [4,5,6] 30 [1] 33 J J J J J J J (ro T 1 (ab 34 J Z7 (λZ7=>?_) (λZ7=>?_)))))))
   ·refine ro T 1 (lf T 1 J (ro T 3 (ab 39 J Z7 (λZ7=>?_) (λZ7=>?_))))
    ·refine ro T 1 (lf T 1 J (ro T 6 (am _ [0] (oi Z7) J J)))
    refine ro T 8 (am _ [0] (oi Z7) J J)
   refine ro T 13 (am _ [0] (oi Z7) J J)
  rintro _ x5 rfl H;refine rc T 2 ?_
  cases H;exact p0 T J [0] J
 refine rc T 5 (lf T 1 J (k [] J Nz H (pD.c ·) (λv8 H=>ro T 3 (nc T J (λb3=>sg T 2 J (ro T 3 (mq H [] [0] (λoo (x9:Bool)=>(x9=oo,[(2,(bb x9))],[])) J J (λoo bt _=>?_) ?_)))))))
 ·refine rc T 3 (ab 52 J bt (λbt=>?_) (λbt=>?_))
  ·refine ro T 1 (lf T 1 J (ro T 1 (lf T 2 J (k [] J NA bt (r_.c ·) (λv11 bt=>ro T 2 (ab 59 J bt (λbt=>?_) (λbt=>?_)))))))
   ·refine ro T 1 (lf T 1 J (ro T 1 (lf T 2 J (k [] J NA bt (r_.c ·) (λv12 bt=>ro T 2 (ab 66 J bt (λbt=>?_) (λbt=>?_)))))))
    ·refine ro T 1 (lf T 1 J (ro T 3 (ab 71 J bt (λbt=>?_) (λbt=>?_))))
     ·refine ro T 13 (am _ [0] (oi bt) J J)
     refine ro T 1 (lf T 2 J (ro T 1 (ab 74 J bt (λbt=>?_) (λbt=>?_))))
     ·refine ro T 1 (lf T 1 J (ro T 8 (am _ [0] (oi bt) J J)))
     refine ro T 10 (am _ [0] (oi bt) J J)
    refine ro T 18 (am _ [0] (oi bt) J J)
   refine ro T 25 (am _ [0] (oi bt) J J)
  refine ro T 32 (am _ [0] (oi bt) J J)
 rintro _ x9 rfl H;refine rc T 1 ?_
 cases H;exact p0 T J [0] J
end
end Go.Proofs.YthodkonhneebbaaGreatDoor
