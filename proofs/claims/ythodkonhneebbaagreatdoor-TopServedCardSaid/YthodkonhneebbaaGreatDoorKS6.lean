/- What the functions of some packages compute, each as a function of plain Lean, with its contract. No condition. -/
import Derived.Test.YthodkonhneebbaaGreatDoorKST
import Derived.Test.YthodkonhneebbaaGreatDoorKS5
namespace Go.Proofs.YthodkonhneebbaaGreatDoor
open Go.Hx
open Int renaming tmod->fC,tdiv->di,toNat->ax
open List renaming length->aa,set->aD,replicate->cy,length_set->nO
open BitVec renaming toNat->gf,ofInt->cj
set_option maxRecDepth 100000
set_option linter.unusedSimpArgs false
set_option linter.unusedVariables false
set_option maxHeartbeats 4000000
set_option autoImplicit true
set_option relaxedAutoImplicit true
noncomputable section
def ny.f (ag:ff) (n:Int):Option ((List Int)×Er×ff):=if(af ((aa ag.b:Int)-ag.aZ))<n then(some ([],(Er.dR 6),ag)) else(if(0<=(af ((af (ag.aZ+n))-n))/\(af ((af (ag.aZ+n))-n))<=(af (ag.aZ+n))/\(af (ag.aZ+n))<=(aa ag.b:Int)) then(some ((aA ag.b (af ((af (ag.aZ+n))-n)) (af (ag.aZ+n))),Er.nil,(ff.mk ag.b (af (ag.aZ+n))))) else none)
def ny.R (el:Nat->Addr) (aW:Nat) (y0:Value) (xr:List Int) (ar:Option Addr) (nr:Nat) (r:((List Int)×Er×ff)):bj:=λu G=> ∃(a0:Option Addr) (n0:Nat) (v1:Value) (H1:Hp),dH (Fl.int .u8) xr ar nr r.1 a0 n0/\aa r.1<=n0/\gr 414 el r.2.1 v1 H1/\u=(.tuple #[(ll a0 r.1 n0),v1])/\G=[H1,(cl aW 340 [y0,(ii r.2.2.aZ)])]
theorem ny.c (H:ny.f ag n=some r) (hG:fP 414 fc gW el F) (nq:aO (Fl.int .u8) ag.b iv F) (kO:aa ag.b<=ik):
 QR 278 [(pp aW),(ii n)] [(cl aW 340 [(ll iv ag.b ik),(ii ag.aZ)])] [] F (ny.R el aW (ll iv ag.b ik) ag.b iv ik r):=by
 unfold ny.f at H;refine aF Tryz.func278 J J (λW=>rc T 8 (dw mix aB (au T J (au T J (au T J (cD T 0 J J J ?_))))))
 iterate 4 refine au T J ?_
 refine cD T 0 J J J (au T J (au T J (au T J (cO (rx T 1 (cd J H (λH=>?_) (λH=>?_)))))))
 ·refine rc T 1 (dw mix aB (bf J J J (cw T J J J J (sK (j:=1) J hG (g:=6) (by decide))) (au T J (au T J (cO (rx T 3 ?_))))))
  cases H;refine bz (p1 T J [2,0,0] ⟨none,0,(.iface 414 (.pointer (some (el 6)))),[],dH.nil,(Nat.zero_le _),oR,J,J⟩ J)
 refine rc T 7 (lf T 0 J (ro T 4 (sg T 0 J (ro T 3 (dw mix aB (au T J (au T J (au T J (cD T 0 J J J (au T J (au T J (au T J (cD T 0 J J J ?_)))))))))))))
 iterate 5 refine au T J ?_
 refine cD T 0 J J J ?_;obtain⟨c2,H⟩:=az H;refine bf J J J (kS T J J J J J J c2 kO) (au T J (au T J (cO (rx T 2 ?_))))
 cases H;refine bz (p1 T J [2,0,0] ⟨(gp iv ik (ax (af ((af (ag.aZ+n))-n))) 1),(ik-ax (af ((af (ag.aZ+n))-n))),.nilIface,[],(dH.sub dH.self kO c2),(mW c2 kO),u9,J,J⟩ J)
def qG.f (ag:ff) (n:Int):Option ((List Int)×Er×ff):=(ny.f ag n).bind λv1=>(if(Er.isNil v1.2.1)=true then((xa.f v1.1 0).bind λv4=>some v4) else(some false)).bind λx2=>if x2=true then(some (v1.1,(Er.dR 5),(ff.mk ag.b v1.2.2.aZ))) else(some (v1.1,v1.2.1,(ff.mk ag.b v1.2.2.aZ)))
def qG.R (el:Nat->Addr) (aW:Nat) (y0:Value) (xr:List Int) (ar:Option Addr) (nr:Nat) (r:((List Int)×Er×ff)):bj:=λu G=> ∃(a0:Option Addr) (n0:Nat) (v1:Value) (H1:Hp),dH (Fl.int .u8) xr ar nr r.1 a0 n0/\aa r.1<=n0/\gr 414 el r.2.1 v1 H1/\u=(.tuple #[(ll a0 r.1 n0),v1])/\G=[H1,(cl aW 340 [y0,(ii r.2.2.aZ)])]
theorem qG.c (H:qG.f ag n=some r) (hG:fP 414 fc gW el F) (nq:aO (Fl.int .u8) ag.b iv F) (kO:aa ag.b<=ik):
 QR 279 [(pp aW),(ii n)] [(cl aW 340 [(ll iv ag.b ik),(ii ag.aZ)])] [] F (qG.R el aW (ll iv ag.b ik) ag.b iv ik r):=by
 unfold qG.f at H;refine aF Tryz.func279 J J (λW=>rc T 10 (kr (ny.R el aW (ll iv ag.b ik) ag.b iv ik) [] [0] J NB H (ny.c · (dF hG (j:=0) J) (rO nq 0) kO) (λv1 H=>?_)));rintro _ _ ⟨a2,n2,v3,H3,D3,Jj,s3,rfl,rfl⟩;refine fz J (ro T 8 (mq H [6,7] [0,0,0] (λz3 (x2:Bool)=>(x2=z3,[(19,(bb x2))],[])) J J (λz3 Z2 _=>?_) ?_))
 ·refine rc T 2 (bA J (JB T J J J (sB s3 (j:=1) J)) (ro T 1 (ab 16 J Z2 (λZ2=>?_) (λZ2=>?_))))
  ·refine ro T 1 (k [] J Ns Z2 (xa.c · (oQ D3 (rO nq 0) kO) Jj) (λv4 Z2=>ro T 3 (am _ [0,0,0] (oi Z2) J J)))
  refine ro T 5 (am _ [0,0,0] (oi Z2) J J)
 rintro _ x2 rfl H;refine cb J H (λH=>?_) (λH=>?_)
 ·refine rc T 1 (lg T J (sK (j:=0) J hG (g:=5) (by decide)) (ro T 12 ?_))
  cases H;refine bz (p1 T J [3,2,0] ⟨a2,n2,(.iface 414 (.pointer (some (el 5)))),[],D3,Jj,oR,J,J⟩ J)
 refine rc T 11 ?_
 cases H;exact p1 T J [1,1,0] ⟨a2,n2,v3,H3,D3,Jj,s3,J,J⟩ J
def lH.l0:Nat->ff->Int->Int->List Int->Option (Sum ((List Int)×Er×ff) ((List Int)×Int))
 |0,_,_,_,_=>none
 |k8+1,ag,n,x6,x7=>if(aa x7:Int)<n then((ny.f (ff.mk ag.b x6) 2).bind λv9=>if(!(Er.isNil v9.2.1))=true then(some (Sum.inl ([],v9.2.1,(ff.mk ag.b v9.2.2.aZ)))) else(if(0<=(0:Int)/\(0:Int)<(aa v9.1:Int)) then(if(0<=(1:Int)/\(1:Int)<(aa v9.1:Int)) then((if(((rd v9.1 1)==0)||(decide ((af ((af (rd v9.1 0))+1))>(af (n-(aa x7:Int))))))=true then(some true) else(if(aa x7:Int)>0 then(if(0<=(af ((aa x7:Int)-1))/\(af ((aa x7:Int)-1))<(aa x7:Int)) then(some ((rd x7 (af ((aa x7:Int)-1)))==(rd v9.1 1))) else none) else(some false))).bind λaL=>if aL=true then(some (Sum.inl ([],(Er.dR 5),(ff.mk ag.b v9.2.2.aZ)))) else((kN.f [(rd v9.1 1)] (af ((af (rd v9.1 0))+1))).bind λv12=>if(aa x7+aa v12<=1099511627776) then(lH.l0 k8 ag n v9.2.2.aZ (x7++v12)) else none)) else none) else none)) else(some (Sum.inr (x7,x6)))
def lH.f (ag:ff) (n:Int):Option ((List Int)×Er×ff):=(lH.l0 fuel ag n ag.aZ []).bind λzz=>match zz with |Sum.inl q=>some q |Sum.inr (x1,x2)=>some (x1,Er.nil,(ff.mk ag.b x2))
def lH.R (el:Nat->Addr) (aW:Nat) (y0:Value) (r:((List Int)×Er×ff)):bj:=λu G=> ∃(a0 n0 H0:_) (v1:Value) (H1:Hp),aj (Fl.int .u8) 5 r.1 a0 n0 H0/\gr 414 el r.2.1 v1 H1/\u=(.tuple #[(ll a0 r.1 n0),v1])/\G=[H0,H1,(cl aW 340 [y0,(ii r.2.2.aZ)])]
theorem lH.c (H:lH.f ag n=some r) (hG:fP 414 fc gW el F) (nq:aO (Fl.int .u8) ag.b iv F) (kO:aa ag.b<=ik):
 QR 281 [(pp aW),(ii n)] [(cl aW 340 [(ll iv ag.b ik),(ii ag.aZ)])] [] F (lH.R el aW (ll iv ag.b ik) r):=by
 unfold lH.f at H;refine aF Tryz.func281 J J (λW=>rc T 11 (mq H [] [1] (λz3 (⟨x1,x2,a2,n2,H2⟩:List Int×Int×Option Addr×Nat×Hp)=>((Sum.inr (x1,x2))=z3/\aj (Fl.int .u8) 5 x1 a2 n2 H2,[(6,(ll a2 x1 n2))],[H2,(cl aW 340 [(ll iv ag.b ik),(ii x2)])])) J J (λz3 Z1 H=>?_) ?_))
 ·refine rc T 1 (bz (lq [0,1] [1] (λ(⟨k8,x6,x7,a4,n4,H4⟩:Nat×Int×List Int×Option Addr×Nat×Hp)=>(lH.l0 k8 ag n x6 x7=some z3/\aj (Fl.int .u8) 5 x7 a4 n4 H4,[(6,(ll a4 x7 n4))],[(cl aW 340 [(ll iv ag.b ik),(ii x6)]),H4])) J J (fuel,ag.aZ,[],none,0,[]) [1,0,0] ⟨Z1,aj.nil⟩ J J ?_));rintro k8 ⟨x6,x7,a4,n4,H4⟩ ⟨Z2,s4⟩;rw[lH.l0] at Z2;refine rc T 9 (cd J Z2 (λZ2=>?_) (λZ2=>?_))
  ·refine rc T 6 (kr (ny.R el aW (ll iv ag.b ik) ag.b iv ik) [] [1] J NB Z2 (ny.c (ag:=(ff.mk ag.b x6)) · (dF hG (j:=0) J) (rO nq 0) kO) (λv9 Z2=>?_));rintro _ _ ⟨a5,n5,v6,H6,FY,Rb,s6,rfl,rfl⟩;refine fz J (ro T 11 (bA J (Eb T J J J (sB s6 (j:=2) J)) (ro T 2 (cb J Z2 (λZ2=>?_) (λZ2=>?_)))))
   ·refine rc T 13 ?_;obtain rfl:=Option.some.inj Z2;obtain rfl:=Option.some.inj (show some ([],v9.2.1,(ff.mk ag.b v9.2.2.aZ))=some r from H)
    refine bz (p1 T J [4,2,2,0] ⟨none,0,[],v6,H6,aj.nil,s6,J,J⟩ J)
   refine rc T 3 (dw mix aB (au T J ?_));obtain⟨c6,Z2⟩:=az Z2;obtain⟨q8,o8,e8⟩:=(dH.r FY nq kO).addr c6.1 c6.2;refine bf J J J (cu T J J J J J e8 c6.1 c6.2) (bf J J J (cw T J J J J (eH (k:=(Fl.int .u8)) (oQ FY (rO nq 0) kO) e8 c6 0 J)) (au T J (au T J (au T J ?_))));obtain⟨c7,Z2⟩:=az Z2;refine bf J J J (cu T J J J J J e8 c7.1 c7.2) (bf J J J (cw T J J J J (eH (k:=(Fl.int .u8)) (oQ FY (rO nq 0) kO) e8 c7 0 J)) (au T J (au T J (cO (rx T 2 (mq Z2 [0,1,6,9,10] [0,2,0] (λl8 (aL:Bool)=>(aL=l8,[(55,(bb aL))],[])) J J (λl8 Z8 _=>?_) ?_))))))
   ·refine rc T 4 (go T [3,4,5,6,7,8,9] 33 [0,1,6,9,10] 40 J J J J J J J (ro T 1 (ab 41 J Z8 (λZ8=>?_) (λZ8=>?_))))
    ·refine ro T 16 (am _ [0,2,0] (oi Z8) J J)
    refine ro T 4 (ad 45 J Z8 (λZ8=>?_) (λZ8=>?_))
    ·refine ro T 4 ?_;obtain⟨dK,Z8⟩:=az Z8;obtain⟨q9,o9,e9⟩:=s4.r.addr dK.1 dK.2;refine ix T J e9 dK (le T 0 (oO s4 1) e9 dK J J (ro T 6 (am _ [0,2,0] (oi Z8) J J)))
    refine ro T 12 (am _ [0,2,0] (oi Z8) J J)
   rintro _ aL rfl Z2;refine cb J Z2 (λZ2=>?_) (λZ2=>?_)
   ·refine rc T 1 (dw mix aB (bf J J J (cw T J J J J (sK (j:=0) J hG (g:=5) (by decide))) (au T J (au T J (cO (rx T 7 ?_))))))
    obtain rfl:=Option.some.inj Z2;obtain rfl:=Option.some.inj (show some ([],(Er.dR 5),(ff.mk ag.b v9.2.2.aZ))=some r from H)
    refine bz (bz (p1 T J [3,3,1,0] ⟨none,0,[],(.iface 414 (.pointer (some (el 5)))),[],aj.nil,oR,J,J⟩ J))
   refine rc T 5 (aV (cW (k:=(Fl.int .u8)) T [(rd v9.1 1)] J J J J J J J J J (λa12 dq dE=>ro T 1 (kr kN.R [] [] J Tq Z2 (kN.c · (oO dE 3) dE.bZ) (λv12 Z2=>?_)))));rintro _ _ ⟨dh,n13,dI,cY,rfl,rfl⟩;refine fz J ?_;obtain⟨jo,Z2⟩:=az Z2;refine aV (dQ (k:=(Fl.int .u8)) (xs:=x7) T (g:=2) J J J J J J J J J J s4 (oO cY 4) jo J (λgU n14 fp fT=>ro T 4 (ar (_,_,_,_,_) [0,0,0] ⟨Z2,fT⟩ J J)))
  refine rc T 5 (am (_,_,_,_,_) [0,1,0] ⟨oi Z2,s4⟩ J J)
 rintro _ ⟨x1,x2,a2,n2,H2⟩ ⟨rfl,s2⟩ H;refine rc T 8 ?_
 cases H;refine bz (p1 T J [1,2,1,0] ⟨a2,n2,H2,.nilIface,[],s2,u9,J,J⟩ J)
def qF.f (ag:ff) (n:Int):Option ((List Int)×Er×ff):=(ny.f ag 1).bind λv1=>if(!(Er.isNil v1.2.1))=true then(some ([],v1.2.1,(ff.mk ag.b v1.2.2.aZ))) else(if(0<=(0:Int)/\(0:Int)<(aa v1.1:Int)) then(if((rd v1.1 0)==0)=true then((qG.f (ff.mk ag.b v1.2.2.aZ) 1).bind λv2=>(kN.f v2.1 n).bind λv3=>some (v3,v2.2.1,(ff.mk ag.b v2.2.2.aZ))) else(if((rd v1.1 0)==1)=true then((qG.f (ff.mk ag.b v1.2.2.aZ) n).bind λv4=>some (v4.1,v4.2.1,(ff.mk ag.b v4.2.2.aZ))) else(if((rd v1.1 0)==2)=true then((lH.f (ff.mk ag.b v1.2.2.aZ) n).bind λv5=>some (v5.1,v5.2.1,(ff.mk ag.b v5.2.2.aZ))) else(some ([],(Er.dR 5),(ff.mk ag.b v1.2.2.aZ)))))) else none)
def qF.R (el:Nat->Addr) (aW:Nat) (y0:Value) (xr:List Int) (ar:Option Addr) (nr:Nat) (r:((List Int)×Er×ff)):bj:=λu G=> ∃(a0 n0 H0:_) (v1:Value) (H1:Hp),IF (Fl.int .u8) 5 xr ar nr r.1 a0 n0 H0/\gr 414 el r.2.1 v1 H1/\u=(.tuple #[(ll a0 r.1 n0),v1])/\G=[H0,H1,(cl aW 340 [y0,(ii r.2.2.aZ)])]
theorem qF.c (H:qF.f ag n=some r) (hG:fP 414 fc gW el F) (nq:aO (Fl.int .u8) ag.b iv F) (kO:aa ag.b<=ik):
 QR 252 [(pp aW),(ii n)] [(cl aW 340 [(ll iv ag.b ik),(ii ag.aZ)])] [] F (qF.R el aW (ll iv ag.b ik) ag.b iv ik r):=by
 unfold qF.f at H;refine aF Tryz.func252 J J (λW=>rc T 9 (kr (ny.R el aW (ll iv ag.b ik) ag.b iv ik) [] [0] J NB H (ny.c · (dF hG (j:=0) J) (rO nq 0) kO) (λv1 H=>?_)));rintro _ _ ⟨a2,n2,v3,H3,D3,Jj,s3,rfl,rfl⟩;refine fz J (ro T 11 (bA J (Eb T J J J (sB s3 (j:=1) J)) (ro T 2 (cb J H (λH=>?_) (λH=>?_)))))
 ·refine rc T 9 ?_
  cases H;refine bz (p1 T J [3,1,1,0] ⟨none,0,[],v3,H3,(.inl ⟨dH.nil,Nat.zero_le _,J⟩),s3,J,J⟩ J)
 refine rc T 6 ?_;obtain⟨c3,H⟩:=az H;obtain⟨q5,o5,e5⟩:=(dH.r D3 nq kO).addr c3.1 c3.2;refine ix T J e5 c3 (le T 0 (oQ D3 (rO nq 0) kO) e5 c3 J J (ro T 9 (cb J H (λH=>?_) (λH=>?_))))
 ·refine rc T 3 (kr (qG.R el aW (ll iv ag.b ik) ag.b iv ik) [] [2] J Tn H (qG.c (ag:=(ff.mk ag.b v1.2.2.aZ)) · (dF hG (j:=0) J) (rO nq 0) kO) (λv2 H=>?_));rintro _ _ ⟨a6,n6,v7,H7,ZZ,c6_,s7,rfl,rfl⟩;refine fz J (ro T 11 (kr kN.R [] [] J Tq H (kN.c · (oQ ZZ (rO nq 0) kO) c6_) (λv3 H=>?_)));rintro _ _ ⟨a8,n8,H8,s8,rfl,rfl⟩;refine fz J (ro T 4 (ke [4,5] [0,1,1,1] J J (rx T 4 ?_)))
  cases H;exact p1 T J [3,1,1,0] ⟨a8,n8,H8,v7,H7,(.inr s8),s7,J,J⟩ J
 refine rc T 6 (cb J H (λH=>?_) (λH=>?_))
 ·refine rc T 4 (kr (qG.R el aW (ll iv ag.b ik) ag.b iv ik) [] [2] J Tn H (qG.c (ag:=(ff.mk ag.b v1.2.2.aZ)) · (dF hG (j:=0) J) (rO nq 0) kO) (λv4 H=>?_));rintro _ _ ⟨a9,n9,v10,bT,Z0,c9_,bL,rfl,rfl⟩;refine fz J (ro T 9 ?_)
  cases H;refine bz (p1 T J [4,2,2,0] ⟨a9,n9,[],v10,bT,(.inl ⟨Z0,c9_,J⟩),bL,J,J⟩ J)
 refine rc T 6 (cb J H (λH=>?_) (λH=>?_))
 ·refine rc T 4 (kr (lH.R el aW (ll iv ag.b ik)) [] [2] J ady H (lH.c (ag:=(ff.mk ag.b v1.2.2.aZ)) · (dF hG (j:=0) J) (rO nq 0) kO) (λv5 H=>?_));rintro _ _ ⟨a12,n12,dq,lP,dI,dE,cY,rfl,rfl⟩;refine fz J (ro T 9 ?_)
  cases H;exact p1 T J [2,2,2,0] ⟨a12,n12,dq,lP,dI,(.inr dE),cY,J,J⟩ J
 refine rc T 4 (dw mix aB (bf J J J (cw T J J J J (sK (j:=0) J hG (g:=5) (by decide))) (au T J (au T J (cO (rx T 2 ?_))))))
 cases H;refine bz (bz (p1 T J [3,3,2,0] ⟨none,0,[],(.iface 414 (.pointer (some (el 5)))),[],(.inl ⟨dH.nil,Nat.zero_le _,J⟩),oR,J,J⟩ J))
def Dc.f (ag:Int) (ai:aG):Option Bool:=if(0<=(0:Int)/\(0:Int)<(aa ai.C:Int)) then(some (ag !=(rd ai.C 0))) else none
theorem Dc.c (H:Dc.f ag ai=some r) (Hf:(uV,Obj.cells #[(ii ai.W),(ii ai.H),(ll I6 ai.C KS)] 139 (0,0))∈F) (Ei:aO (Fl.int .u8) ai.C I6 F) (Rf:aa ai.C<=KS):
 QU 304 [(.int .u8 ag),(pp uV)] [] F (bb r):=by
 unfold Dc.f at H;refine aF Tryz.func304 J J (λW=>rc T 9 (lg T J (oa (j:=0) Hf J J) ?_));obtain⟨c1,H⟩:=az H;obtain⟨q1,o1,e1⟩:=Ei.addr c1.1 c1.2;refine ix T J e1 c1 (le T 0 (rO Ei 0) e1 c1 J J (ro T 5 ?_))
 cases H;exact p0 T J [0] J
def rN.l0:Nat->(List Int)->aG->Int->Option Int
 |0,_,_,_=>none
 |k3+1,s,fK,x2=>if x2<(aa s:Int) then(if(0<=x2/\x2<(aa s:Int)) then((Dc.f (rd s x2) fK).bind λv4=>if v4=true then(some x2) else(rN.l0 k3 s fK (af (x2+1)))) else none) else(some (-1))
def rN.f (s:(List Int)) (fK:aG):Option Int:=rN.l0 fuel s fK 0
theorem rN.c (H:rN.f s fK=some r) (jJ:aO (Fl.int .u8) s ja F) (ss:aa s<=jg) (CV:(Cd,Obj.cells #[(ii fK.W),(ii fK.H),(ll B8 fK.C C2)] 139 (0,0))∈F) (Cs:aO (Fl.int .u8) fK.C B8 F) (Ci:aa fK.C<=C2):
 QU 305 [(ll ja s jg),(.func (.func 304) #[] #[(pp Cd)])] [] F (ii r):=by
 unfold rN.f at H;refine aF Tryz.func305 J J (λW=>rc T 14 (lq [0,1,7] [0] (λ(⟨k3,x2⟩:Nat×Int)=>(rN.l0 k3 s fK x2=some r,[(8,(ii x2))],[])) J J (fuel,0) [0] H J J ?_));rintro k3 x2 Z1;replace Z1:rN.l0 (k3+1) s fK x2=some r:=Z1;rw[rN.l0] at Z1;refine rc T 6 (cd J Z1 (λZ1=>?_) (λZ1=>?_))
 ·refine rc T 15 ?_;obtain⟨c3,Z1⟩:=az Z1;obtain⟨q1,o1,e1⟩:=jJ.addr c3.1 c3.2;refine ix T J e1 c3 (le T 0 (rO jJ 0) e1 c3 J J (k [] J adK Z1 (Dc.c · (qC CV (j:=0) J) (rO Cs 0) Ci) (λv4 Z1=>ro T 2 (cb J Z1 (λZ1=>?_) (λZ1=>?_)))))
  ·refine rc T 12 ?_
   cases Z1;exact p0 T J [0] J
  refine rc T 8 (ar _ [0] Z1 J J)
 refine rc T 11 ?_
 cases Z1;exact p0 T J [0] J
def Dy.f (s:(List Int)) (fK:aG):Option Bool:=(rN.f s fK).bind λv1=>some (decide (v1≥0))
theorem Dy.c (H:Dy.f s fK=some r) (jJ:aO (Fl.int .u8) s ja F) (ss:aa s<=jg) (CV:(Cd,Obj.cells #[(ii fK.W),(ii fK.H),(ll B8 fK.C C2)] 139 (0,0))∈F) (Cs:aO (Fl.int .u8) fK.C B8 F) (Ci:aa fK.C<=C2):
 QU 303 [(ll ja s jg),(.func (.func 304) #[] #[(pp Cd)])] [] F (bb r):=by
 unfold Dy.f at H;refine aF Tryz.func303 J J (λW=>rc T 9 (k [] J adL H (rN.c · (rO jJ 0) ss (qC CV (j:=0) J) (rO Cs 0) Ci) (λv1 H=>ro T 5 ?_)))
 cases H;exact p0 T J [0] J
def jz.l1:Nat->aG->Int->Int->Option Int
 |0,_,_,_=>none
 |yc+1,t,x5,aP=>(if(af (x5+aP))<(aa t.C:Int) then(if(0<=(af (x5+aP))/\(af (x5+aP))<(aa t.C:Int)) then(if(0<=x5/\x5<(aa t.C:Int)) then(some ((rd t.C (af (x5+aP)))==(rd t.C x5))) else none) else none) else(some false)).bind λcn=>if cn=true then(jz.l1 yc t x5 (af (aP+1))) else(some aP)
def jz.l0:Nat->aG->List Int->Int->Option (List Int)
 |0,_,_,_=>none
 |k6+1,t,x4,x5=>if x5<(aa t.C:Int) then(((jz.l1 fuel t x5 1).bind λaL=>if(0<=x5/\x5<(aa t.C:Int)) then(if(aa x4+2<=1099511627776) then(some ((x4++[(bQ (af (aL-1))),(rd t.C x5)]),(af (x5+aL)))) else none) else none).bind λ(x7,x8)=>jz.l0 k6 t x7 x8) else(some x4)
def jz.f (t:aG) (form:Int):Option (List Int):=if(form==0)=true then((Dy.f t.C t).bind λv1=>if v1=true then(some []) else(if(0<=(0:Int)/\(0:Int)<(aa t.C:Int)) then(if(aa [(bQ form)]+1<=1099511627776) then(some ([(bQ form)]++[(rd t.C 0)])) else none) else none)) else(if(form==1)=true then(if(aa [(bQ form)]+aa t.C<=1099511627776) then(some ([(bQ form)]++t.C)) else none) else(jz.l0 fuel t [(bQ form)] 0))
def jz.R (r:(List Int)):bj:=λu G=> ∃a0 n0 H0,aj (Fl.int .u8) 5 r a0 n0 H0/\(r=[]->a0=none)/\u=(ll a0 r n0)/\G=[H0]
theorem jz.c (H:jz.f t form=some r) (d_:aO (Fl.int .u8) t.C iD F) (fy:aa t.C<=iE):
 QR 297 [(.agg #[(ii t.W),(ii t.H),(ll iD t.C iE)]),(ii form)] [] [] F (jz.R r):=by
 unfold jz.f at H;refine aF Tryz.func297 J J (λW=>rc T 2 (nc T J (λb1=>ro T 7 (aV (cW (k:=(Fl.int .u8)) T [(bQ form)] J J J J J J J J J (λa2 H2 s2=>ro T 16 (cb J H (λH=>?_) (λH=>?_))))))))
 ·refine rc T 4 (lf T 1 J (ro T 1 (k [] J adJ H (Dy.c · (rO d_ 0) fy (zU (j:=1) J) (rO d_ 0) fy) (λv1 H=>ro T 2 (cb J H (λH=>?_) (λH=>?_))))))
  ·refine rc T 9 ?_
   cases H;refine bz (p1 T J [3,0] ⟨none,0,[],aj.nil,(λ_=>rfl),J,J⟩ J)
  refine rc T 6 (lf T 1 J ?_);obtain⟨c4,H⟩:=az H;obtain⟨q4,o4,e4⟩:=d_.addr c4.1 c4.2;refine ix T J e4 c4 (le T 0 (rO d_ 0) e4 c4 J J (aV (cW (k:=(Fl.int .u8)) T [(rd t.C 0)] J J J J J J J J J (λa5 H5 s5=>?_))));obtain⟨c5,H⟩:=az H;refine aV (dQ (k:=(Fl.int .u8)) (xs:=[(bQ form)]) T (g:=2) J J J J J J J J J J s2 (oO s5 3) c5 J (λa6 n6 H6 s6=>ro T 2 (ke [4] [0,1] J J (rx T 4 ?_))))
  cases H;exact p1 T J [1,0] ⟨a6,n6,H6,s6,(OX (.inr J)),J,J⟩ J
 refine rc T 6 (cb J H (λH=>?_) (λH=>?_))
 ·refine rc T 4 (lf T 1 J ?_);obtain⟨c7,H⟩:=az H;refine aV (dQ (k:=(Fl.int .u8)) (xs:=[(bQ form)]) T (g:=2) J J J J J J J J J J s2 (rO d_ 0) c7 J (λa7 n7 H7 s7=>ro T 2 (ke [4] [0,1] J J (rx T 4 ?_))))
  cases H;exact p1 T J [1,0] ⟨a7,n7,H7,s7,(OX (.inl J)),J,J⟩ J
 refine rc T 10 (lq [2] [0,0] (λ(⟨k6,x4,x5,a9,n9,H9⟩:Nat×List Int×Int×Option Addr×Nat×Hp)=>(jz.l0 k6 t x4 x5=some r/\aj (Fl.int .u8) 5 x4 a9 n9 H9/\(x4=[]->a9=none),[(5,(ll a9 x4 n9)),(6,(ii x5))],[H9])) J J (fuel,[(bQ form)],0,a2,(aa [(bQ form)]),H2) [0,0,0] ⟨H,s2,(λe=>by cases e)⟩ J J ?_)
 rintro k6 ⟨x4,x5,a9,n9,H9⟩ ⟨Z8,s9,r9⟩;rw[jz.l0] at Z8;refine rc T 5 (lf T 1 J (ro T 4 (cd J Z8 (λZ8=>?_) (λZ8=>?_))))
 ·refine rc T 2 (mn Z8 [2] [0,0] (λz9 (⟨x7,x8,cC,n10,bT⟩:List Int×Int×Option Addr×Nat×Hp)=>((x7,x8)=z9/\aj (Fl.int .u8) 5 x7 cC n10 bT/\(x7=[]->cC=none),[(5,(ll cC x7 n10)),(6,(ii x8))],[bT])) J J (λz9 i_ _=>?_) ?_)
  ·refine rc T 6 (mq i_ [2,5,6] [0,0,0] (λl8 (aL:Int)=>(aL=l8,[(7,(ii aL))],[])) J J (λl8 aY _=>?_) ?_)
   ·refine rc T 1 (lq [2,5,6] [0,0,0] (λ(⟨yc,aP⟩:Nat×Int)=>(jz.l1 yc t x5 aP=some l8,[(7,(ii aP))],[])) J J (fuel,1) [0,0,0] aY J J ?_);rintro yc aP ba;replace ba:jz.l1 (yc+1) t x5 aP=some l8:=ba;rw[jz.l1] at ba;refine rc T 1 (mq ba [2,5,6,7] [0,0,0] (λIE (cn:Bool)=>(cn=IE,[(57,(bb cn))],[])) J J (λIE lS _=>?_) ?_)
    ·refine dw mix aB ?_
     iterate 4 refine au T J ?_
     refine cD T 1 J J J (au T J (au T J (au T J (qd 43 J lS (λlS=>?_) (λlS=>?_)))))
     ·refine au T J (cD T 1 J J J (au T J (au T J (au T J ?_))));obtain⟨zs,lS⟩:=az lS;obtain⟨q11,o11,zu⟩:=d_.addr zs.1 zs.2;refine bf J J J (cu T J J J J J zu zs.1 zs.2) (bf J J J (cw T J J J J (eH (k:=(Fl.int .u8)) (rO d_ 0) zu zs 0 J)) (au T J (cD T 1 J J J (au T J ?_))));obtain⟨qj,lS⟩:=az lS;refine bf J J J (cu T J J J J J zu qj.1 qj.2) (bf J J J (cw T J J J J (eH (k:=(Fl.int .u8)) (rO d_ 0) zu qj 0 J)) (au T J (au T J (cO (rx T 1 (am _ [0,0,0] (oi lS) J J))))))
     iterate 14 refine au T J ?_
     refine cO (rx T 1 (am _ [0,0,0] (oi lS) J J))
    rintro _ cn rfl ba;refine cb J ba (λba=>?_) (λba=>?_)
    ·refine rc T 10 (ar _ [0,0,0] ba J J)
    refine rc T 5 (am _ [0,0,0] (oi ba) J J)
   rintro _ aL rfl i_;refine rc T 7 (lf T 1 J (ro T 1 ?_));obtain⟨lV,i_⟩:=az i_;obtain⟨wL,O1,tQ⟩:=d_.addr lV.1 lV.2;refine ix T J tQ lV (le T 0 (rO d_ 0) tQ lV J J (aV (cW (k:=(Fl.int .u8)) T [(bQ (af (aL-1))),(rd t.C x5)] J J J J J J J J J (λdh dI cY=>?_))));obtain⟨tK,i_⟩:=az i_;refine aV (dQ (k:=(Fl.int .u8)) (xs:=x4) T (g:=2) J J J J J J J J J J s9 (oO cY 3) tK J (λgU n14 fp fT=>ro T 11 (am (_,_,_,_,_) [0,0,0] ⟨oi i_,fT,(OX (.inr J))⟩ J J)))
  rintro _ ⟨x7,x8,cC,n10,bT⟩ ⟨rfl,bL,Pf⟩ Z8;refine rx T 1 (ar (_,_,_,_,_) [0,0,0] ⟨Z8,bL,Pf⟩ J J)
 refine rc T 12 ?_
 cases Z8;exact p1 T J [2,0] ⟨a9,n9,H9,s9,r9,J,J⟩ J
def lG.l0:Nat->aG->Int->List Int->Int->Option (Int×(List Int))
 |0,_,_,_,_=>none
 |k7+1,t,x4,x5,x6=>if x6<3 then((jz.f t x6).bind λv8=>(if(!List.isEmpty v8)=true then(if(List.isEmpty x5)=true then(some true) else(some (decide ((aa v8:Int)<(aa x5:Int))))) else(some false)).bind λx9=>if x9=true then(lG.l0 k7 t x6 v8 (af (x6+1))) else(lG.l0 k7 t x4 x5 (af (x6+1)))) else(some (x4,x5))
def lG.f (t:aG):Option (Int×(List Int)):=lG.l0 fuel t (-1) [] 0
def lG.R (r:(Int×(List Int))):bj:=λu G=> ∃a0 n0 H0,aj (Fl.int .u8) 5 r.2 a0 n0 H0/\(r.2=[]->a0=none)/\u=(.tuple #[(ii r.1),(ll a0 r.2 n0)])/\G=[H0]
theorem lG.c (H:lG.f t=some r) (d_:aO (Fl.int .u8) t.C iD F) (fy:aa t.C<=iE):
 QR 282 [(.agg #[(ii t.W),(ii t.H),(ll iD t.C iE)])] [] [] F (lG.R r):=by
 unfold lG.f at H;refine aF Tryz.func282 J J (λW=>rc T 2 (nc T J (λb1=>ro T 17 (bz (lq [1] [0,0] (λ(⟨k7,x4,x5,x6,a3,n3,H3⟩:Nat×Int×List Int×Int×Option Addr×Nat×Hp)=>(lG.l0 k7 t x4 x5 x6=some r/\aj (Fl.int .u8) 5 x5 a3 n3 H3/\(x5=[]->a3=none),[(4,(ii x4)),(5,(ll a3 x5 n3)),(8,(ii x6))],[H3])) J J (fuel,(-1),[],0,none,0,[]) [0,0,0] ⟨H,aj.nil,(λ_=>rfl)⟩ J J ?_)))));rintro k7 ⟨x4,x5,x6,a3,n3,H3⟩ ⟨Z1,s3,r3⟩;rw[lG.l0] at Z1;refine rc T 6 (cd J Z1 (λZ1=>?_) (λZ1=>?_))
 ·refine rc T 12 (lm T 1 J (ro T 1 (kr jz.R [] [] J adF Z1 (jz.c · (rO d_ 0) fy) (λv8 Z1=>?_))));rintro _ _ ⟨a4,n4,H4,s4,r4,rfl,rfl⟩;refine fz J (ro T 3 (mq Z1 [1,4,5,6,7,8] [0,0,0,0] (λmy (x9:Bool)=>(x9=my,[(26,(bb x9))],[])) J J (λmy Z4 _=>?_) ?_))
  ·refine rc T 2 (bA J (abz T J J J J s4 r4) (ro T 1 (ab 16 J Z4 (λZ4=>?_) (λZ4=>?_))))
   ·refine ro T 1 (bA J (aby T J J J J s3 r3) (ro T 1 (ab 19 J Z4 (λZ4=>?_) (λZ4=>?_))))
    ·refine ro T 9 (am _ [0,0,0,0] (oi Z4) J J)
    refine ro T 9 (am _ [0,0,0,0] (oi Z4) J J)
   refine ro T 12 (am _ [0,0,0,0] (oi Z4) J J)
  rintro _ x9 rfl Z1;refine cb J Z1 (λZ1=>?_) (λZ1=>?_)
  ·refine rc T 13 (ar (_,_,_,_,_,_) [0,0,1] ⟨Z1,s4,r4⟩ J J)
  refine rc T 8 (ar (_,_,_,_,_,_) [0,0,0] ⟨Z1,s3,r3⟩ J J)
 refine rc T 14 ?_
 cases Z1;exact p1 T J [2,0] ⟨a3,n3,H3,s3,r3,J,J⟩ J
def sU.f (t:aG):Option ((List Int)×Int):=(uH.f t).bind λv1=>if(!v1)=true then(some ([],1)) else((lG.f t).bind λv2=>some (v2.2,0))
def sU.R (r:((List Int)×Int)):bj:=λu G=> ∃a0 n0 H0,aj (Fl.int .u8) 5 r.1 a0 n0 H0/\u=(.tuple #[(ll a0 r.1 n0),(ii r.2)])/\G=[H0]
theorem sU.c (H:sU.f t=some r) (d_:aO (Fl.int .u8) t.C iD F) (fy:aa t.C<=iE):
 QR 253 [(.agg #[(ii t.W),(ii t.H),(ll iD t.C iE)])] [] [] F (sU.R r):=by
 unfold sU.f at H;refine aF Tryz.func253 J J (λW=>rc T 2 (nc T J (λb1=>ro T 7 (lm T 1 J (k [] J JX H (uH.c · (rO d_ 0) fy) (λv1 H=>ro T 3 (cb J H (λH=>?_) (λH=>?_))))))))
 ·refine rc T 8 ?_
  cases H;refine bz (p1 T J [2,0] ⟨none,0,[],aj.nil,J,J⟩ J)
 refine rc T 4 (lm T 1 J (kr lG.R [] [] J adz H (lG.c · (rO d_ 0) fy) (λv2 H=>?_)));rintro _ _ ⟨a3,n3,H3,s3,r3,rfl,rfl⟩;refine fz J (ro T 15 ?_)
 cases H;exact p1 T J [2,0] ⟨a3,n3,H3,s3,J,J⟩ J
def wK.f (ag:ff) (w:Int) (h:Int):Option (aG×Er×ff):=(qF.f ag (af (w*h))).bind λv1=>(oy.f v1.1).bind λv2=>(if(Er.isNil v1.2.1)=true then((sU.f (aG.mk w h v2)).bind λv5=>if(0<=(0:Int)/\(0:Int)<=v1.2.2.aZ/\v1.2.2.aZ<=(aa ag.b:Int)) then((D6.f v5.1 (aA ag.b 0 v1.2.2.aZ)).bind λv6=>if(!v6)=true then(some (Er.dR 5)) else(some v1.2.1)) else none) else(some v1.2.1)).bind λx3=>if(Er.isNil x3)=true then(some ((aG.mk w h v2),Er.nil,(ff.mk ag.b v1.2.2.aZ))) else((v_.f x3 (Er.dR 6)).bind λv7=>if v7=true then(some ((aG.mk 0 0 []),(Er.wrap 343 [v1.2.2.aZ,2] x3),(ff.mk ag.b v1.2.2.aZ))) else(some ((aG.mk 0 0 []),(Er.wrap 343 [v1.2.2.aZ,3] x3),(ff.mk ag.b v1.2.2.aZ))))
def wK.R (el:Nat->Addr) (aW:Nat) (y0:Value) (r:(aG×Er×ff)):bj:=λu G=> ∃(a0 n0 H0:_) (v1:Value) (H1:Hp),aj (Fl.int .u8) 5 r.1.C a0 n0 H0/\gr 414 el r.2.1 v1 H1/\u=(.tuple #[(.agg #[(ii r.1.W),(ii r.1.H),(ll a0 r.1.C n0)]),v1])/\G=[H0,H1,(cl aW 340 [y0,(ii r.2.2.aZ)])]
theorem wK.c (H:wK.f ag w h=some r) (hG:fP 414 fc gW el F) (nq:aO (Fl.int .u8) ag.b iv F) (kO:aa ag.b<=ik):
 QR 230 [(pp aW),(ii w),(ii h)] [(cl aW 340 [(ll iv ag.b ik),(ii ag.aZ)])] [] F (wK.R el aW (ll iv ag.b ik) r):=by
 unfold wK.f at H;refine aF Tryz.func230 J J (λW=>rc T 2 (nc T J (λb2=>ro T 9 (kr (qF.R el aW (ll iv ag.b ik) ag.b iv ik) [] [0] J adl H (qF.c · (dF hG (j:=0) J) (rO nq 0) kO) (λv1 H=>?_)))));rintro _ _ ⟨a3,n3,H3,v4,H4,s3,s4,rfl,rfl⟩;refine fz J (ro T 12 (kr oy.R [] [] J Nh H (oy.c · (aad s3 (j:=2) J (rO nq 0) kO) s3.bZ) (λv2 H=>?_)));rintro _ _ ⟨a5,n5,H5,s5,rfl,rfl⟩;refine fz J (ro T 1 (nc T J (λb6=>sg T 6 J (ro T 1 (ke [0,6,9,10] [0,0,1,1,1,1] J J (rx T 1 (mq H [0,6,10] [0,2,0,2,1] (λz4 (⟨x3,DG,H7⟩:Er×Value×Hp)=>(x3=z4/\gr 414 el x3 DG H7,[(9,DG)],[H7])) J J (λz4 Z3 _=>?_) ?_)))))))
 ·refine rc T 3 (bA J (JB T J J J (sB s4 (j:=2) J)) (ro T 2 (cb J Z3 (λZ3=>?_) (λZ3=>?_))))
  ·refine rc T 2 (lm T 5 J (kr sU.R [] [] J adm Z3 (sU.c (t:=(aG.mk w h v2)) · (oO s5 4) s5.bZ) (λv5 Z3=>?_)));rintro _ _ ⟨a8,n8,H8,s8,rfl,rfl⟩;refine fz J (ro T 8 (dw mix aB ?_))
   iterate 4 refine au T J ?_
   refine cD T 3 J J J (au T J (au T J (au T J (cD T 3 J J J ?_))));obtain⟨c6,Z3⟩:=az Z3;refine bf J J J (kS T J J J J J J c6 kO) ?_;obtain⟨v6,V7,Z3⟩:=gx Z3;refine uU J J J J J J adn J (D6.c V7 (oO s8 6) s8.bZ (nC (rO nq 0) c6 kO) (mW c6 kO)) (au T J (cO (rx T 1 (cb J Z3 (λZ3=>?_) (λZ3=>?_)))))
   ·refine rc T 1 (lg T J (sK (j:=0) J hG (g:=5) (by decide)) (ro T 3 (bz (am (_,_,_) [0,2,0,2,1,2] ⟨oi Z3,oR⟩ J J))))
   refine rc T 2 (am (_,_,_) [0,2,0,2,1,0] ⟨oi Z3,s4⟩ J J)
  refine rc T 2 (am (_,_,_) [0,2,0,2,1,0] ⟨oi Z3,s4⟩ J J)
 rintro _ ⟨x3,DG,H7⟩ ⟨rfl,s7⟩ H;refine rc T 4 (bA J (JB T J J J (sB s7 (j:=5) J)) (ro T 2 (cb J H (λH=>?_) (λH=>?_))))
 ·refine rc T 2 (lm T 3 J (sg T 2 J (ro T 5 ?_)))
  cases H;refine bz (pb T J (.cS (j:=2) [(ii w),(ii h),(ll a5 v2 n5)] J J J J J J J (.tmp J .nil)) [4,5,1,0] ⟨(_,_),a5,n5,H5,.nilIface,[],s5,u9,J,J⟩ J J)
 refine rc T 7 (lf T 1 J (ro T 1 (bA J (Sb (vs:=[(0,(ii v1.2.2.aZ)),(1,(ii 3)),(2,DG)]) T [(0,[(ii v1.2.2.aZ)]),(1,[(ii 3)]),(2,[DG])] J J J J J (by simp only[List.map,RW s7];rfl) J) ?_)))
 refine nc T J (λgh=>ro T 7 (lg T J (sK (j:=0) J hG (g:=6) (by decide)) (k [] J J1 H (v_.c x3 (Er.dR 6) _ _ · (dF hG (j:=0) J) (sB s7 (j:=5) J) Js) (λv7 H=>ro T 2 (cb J H (λH=>?_) (λH=>?_))))))
 ·refine rc T 4 (sg T 6 J (ro T 6 (gL [6,5] J (bA J (iw T J J J J) (sg T 2 J (ro T 2 (ke [6,7] [0,0,0,2] J J (rx T 2 ?_))))))))
  cases H;refine bz (pb T J (.cS (j:=2) [(ii 0),(ii 0),nl] J J J J J J J (.tmp J .nil)) [4,3,1,0] ⟨(_,_),none,0,[],(.iface 343 (pp gh)),(List.flatten [(cl gh 346 [(ii v1.2.2.aZ),(ii 2),DG]),H7]),aj.nil,(qo s7),J,J⟩ J J)
 refine rc T 6 (gL [6,5] J (bA J (iw T J J J J) (sg T 2 J (ro T 4 ?_))))
 cases H;refine bz (pb T J (.cS (j:=2) [(ii 0),(ii 0),nl] J J J J J J J (.tmp J .nil)) [6,5,1,0] ⟨(_,_),none,0,[],(.iface 343 (pp gh)),(List.flatten [(cl gh 346 [(ii v1.2.2.aZ),(ii 3),DG]),H7]),aj.nil,(qo s7),J,J⟩ J J)
def pT.f (b:(List Int)) (w:Int) (h:Int):Option (aG×Int×Int):=if((((decide (w<1))||(decide (w>16)))||(decide (h<1)))||(decide (h>16)))=true then(some ((aG.mk 0 0 []),0,1)) else((wK.f (ff.mk b 0) w h).bind λv1=>(Er.FN 343 v1.2.1).bind λv2=>dM v2 (some (v1.1,v1.2.2.aZ,0)) (λtm=>some ((aG.mk 0 0 []),0,tm.2.1)))
def pT.R (el:Nat->Addr) (r:(aG×Int×Int)):bj:=λu G=> ∃a0 n0 H0,aj (Fl.int .u8) 5 r.1.C a0 n0 H0/\u=(.tuple #[(.agg #[(ii r.1.W),(ii r.1.H),(ll a0 r.1.C n0)]),(ii r.2.1),(ii r.2.2)])/\G=[H0]
theorem pT.c (H:pT.f b w h=some r) (hG:fP 414 fc gW el F) (gM:aO (Fl.int .u8) b jG F) (gz:aa b<=jy):
 QR 192 [(ll jG b jy),(ii w),(ii h)] [] [] F (pT.R el r):=by
 unfold pT.f at H;refine aF Tryz.func192 J J (λW=>rc T 2 (nc T J (λb1=>ro T 10 (go T [3,4,5] 14 [0,1,2,6] 17 J J J J J J J (ro T 1 (go T [7,8,9] 18 [0,1,2,6] 21 J J J J J J J (ro T 1 (go T [11,12,13] 22 [0,1,2,6] 25 J J J J J J J (ro T 2 (cb J H (λH=>?_) (λH=>?_)))))))))))
 ·refine rc T 3 (sg T 1 J (ro T 6 ?_))
  cases H;refine bz (pb T J (.cS (j:=1) [(ii 0),(ii 0),nl] J J J J J J J (.tmp J (.tmp J .nil))) [2,0] ⟨(_,_),none,0,[],aj.nil,J,J⟩ J J)
 refine rc T 6 (nc T J (λb3=>ro T 8 (kr (wK.R el b3 (ll jG b jy)) [] [2] J ac6 H (wK.c (ag:=(ff.mk b 0)) · (dF hG (j:=0) J) (rO gM 0) gz) (λv1 H=>?_))));rintro _ _ ⟨a4,n4,H4,v5,H5,s4,s5,rfl,rfl⟩;refine fz J (ro T 3 (sg T 1 J (ro T 2 (ks [6,9,10] J (rx T 4 (nc T J (λb6=>sg T 5 J (ro T 5 (bA J (iw T J J J J) ?_)))))))));obtain⟨v2,V3,H⟩:=gx H;rcases v2 with _ |tm
 ·replace H:=fj J H;obtain⟨MR,MH⟩:=YR V3 s5;subst MR;subst MH;refine aV (tI (As:=[(cl b6 343 [(.pointer none)])]) (R:=[F,(cl b1 139 [(ii v1.1.W),(ii v1.1.H),(ll a4 v1.1.C n4)]),H4,[],(cl b3 340 [(ll jG b jy),(ii v1.2.2.aZ)])]) (B:=λ_=>[(cl b6 343 [(.pointer none)])]) [5] J J J J J2 J J (MO.n _ (dF hG (j:=0) J)) (λ_=>ro T 2 (eN J (rc T 3 (ke [6,9] [0,0,0,1] J J (fz J (rz [] mix (bH bG) (λhg pf=>av 0 sz hg pf J (gA T 1 J J J J J J J) (ha T 4 [1,2,3] sz hg pf J (al T 4 3 sz hg pf J J J (ao 5 (sf T 1 J (an sz (ha T 0 [6,7] sz hg pf J (ae (rx T 2 ?_))))))))))))))))
  cases H;exact pb T J (.cS (j:=1) [(ii v1.1.W),(ii v1.1.H),(ll a4 v1.1.C n4)] J J J J J J J (.tmp J (.tmp J .nil))) [2,0] ⟨(_,_),a4,n4,H4,s4,J,J⟩ J J
 replace H:=fk J H;obtain⟨b7,v8_,Yj,H8,MR,MH,s8⟩:=YS V3 s5;subst MR;subst MH;refine Jc (j:=3) J (aV (tI (As:=[(cl b6 343 [(.pointer none)])]) (R:=[F,(cl b1 139 [(ii v1.1.W),(ii v1.1.H),(ll a4 v1.1.C n4)]),H4,[(b7,Obj.cells #[(ii tm.1),(ii tm.2.1),v8_] Yj (0,0))],(cl b3 340 [(ll jG b jy),(ii v1.2.2.aZ)]),H8]) (B:=λ_=>[(cl b6 343 [(pp b7)])]) [5] J J J J J2 J J (MO.s _ _ (dF hG (j:=0) J)) (λ_=>ro T 2 (nS J (rc T 1 (ke [6,11] [0,0,0,0,1,1] J J (fz J (rg [] [0,1,1,1,1] mix (bH bG) (λhg pf=>ha T 7 [0] (so [0,1,1,1,1]) hg pf J (al T 1 4 (so [0,1,1,1,1]) hg pf J J J (ha T 4 [2,3] (so [0,1,1,1,1]) hg pf J (al T 4 2 (so [0,1,1,1,1]) hg pf J J J (ao 5 (sf T 1 J (an (so [0,1,1,1,1]) (ha T 1 [6] (so [0,1,1,1,1]) hg pf J (ha T 0 [7] (so [0,1,1,1,1]) hg pf J (ae (rx T 3 ?_)))))))))))))))))))
 cases H;refine bz (pb T J (.cS (j:=1) [(ii 0),(ii 0),nl] J J J J J J J (.tmp J (.tmp J .nil))) [6,0] ⟨(_,_),none,0,[],aj.nil,J,J⟩ J J)
end
noncomputable section
def oE.f (w:Int) (h:Int):Option Bool:=some ((((decide (w≥1))&&(decide (w<=1024)))&&(decide (h≥1)))&&(decide (h<=1024)))
theorem oE.c (H:oE.f w h=some r):
 QU 96 [(ii w),(ii h)] [] F (bb r):=by
 unfold oE.f at H;refine aF Tryz.func96 J J (λW=>rc T 10 (ga T [3,4,5] 7 [1] 10 J J J J J J J (ro T 1 (ga T [7,8,9] 11 [1] 14 J J J J J J J (ro T 1 (ga T [11,12,13] 15 [] 18 J J J J J J J (ro T 4 ?_)))))))
 cases H;exact p0 T J [0] J
def qT.f (w:Int) (h:Int):Option (Int×Int):=(oE.f w h).bind λv1=>if(!v1)=true then(some (0,0)) else(some ((af (di (af ((af (w+16))-1)) 16)),(af (di (af ((af (h+16))-1)) 16))))
theorem qT.c (H:qT.f w h=some r):
 QU 59 [(ii w),(ii h)] [] F (.tuple #[(ii r.1),(ii r.2)]):=by
 unfold qT.f at H;refine aF Tryz.func59 J J (λW=>rc T 11 (k [] J Cw H (oE.c ·) (λv1 H=>ro T 3 (cb J H (λH=>?_) (λH=>?_)))))
 ·refine rc T 8 ?_
  cases H;exact p0 T J [0] J
 refine rc T 17 ?_
 cases H;exact p0 T J [0] J
def Ay.f (w:Int) (h:Int) (bB:Int):Option (Int×Int×Bool):=(qT.f w h).bind λv1=>if((decide (bB<0))||(decide (bB≥(af (v1.1*v1.2)))))=true then(some (0,0,false)) else(if(¬v1.1=0) then(if(¬v1.1=0) then(some ((af ((fC bB v1.1)*16)),(af ((af (di bB v1.1))*16)),true)) else none) else none)
theorem Ay.c (H:Ay.f w h bB=some r):
 QU 201 [(ii w),(ii h),(ii bB)] [] F (.tuple #[(ii r.1),(ii r.2.1),(bb r.2.2)]):=by
 unfold Ay.f at H;refine aF Tryz.func201 J J (λW=>rc T 11 (k [] J GA H (qT.c ·) (λv1 H=>ro T 13 (go T [3,4,5,6,7,8] 19 [2,9] 25 J J J J J J J (ro T 2 (cb J H (λH=>?_) (λH=>?_)))))))
 ·refine rc T 9 ?_
  cases H;exact p0 T J [0] J
 refine rc T 3 (dw mix aB (au T J (au T J ?_)));obtain⟨c3,H⟩:=az H;refine bf J J J (va J J J c3) (au T J (au T J (au T J ?_)));obtain⟨c4,H⟩:=az H;refine bf J J J (u' J J J c4) ?_
 iterate 4 refine au T J ?_
 refine cO (rx T 2 ?_)
 cases H;exact p0 T J [0] J
def rS.f (w:Int) (h:Int) (bB:Int):Option (Int×Int):=(Ay.f w h bB).bind λv1=>if(!v1.2.2)=true then(some (0,0)) else(some ((if(af (w-v1.1))<16 then(af (w-v1.1)) else 16),(if(af (h-v1.2.1))<16 then(af (h-v1.2.1)) else 16)))
theorem rS.c (H:rS.f w h bB=some r):
 QU 172 [(ii w),(ii h),(ii bB)] [] F (.tuple #[(ii r.1),(ii r.2)]):=by
 unfold rS.f at H;refine aF Tryz.func172 J J (λW=>rc T 11 (k [] J S9 H (Ay.c ·) (λv1 H=>ro T 16 (cb J H (λH=>?_) (λH=>?_)))))
 ·refine rc T 8 ?_
  cases H;exact p0 T J [0] J
 refine rc T 17 ?_
 cases H;exact p0 T J [0] J
def Ax.f (w:Int) (h:Int) (x:Int) (y:Int):Option Int:=(oE.f w h).bind λv1=>if(((((!v1)||(decide (x<0)))||(decide (x≥w)))||(decide (y<0)))||(decide (y≥h)))=true then(some (-1)) else(some (af ((af (y*w))+x)))
theorem Ax.c (H:Ax.f w h x y=some r):
 QU 202 [(ii w),(ii h),(ii x),(ii y)] [] F (ii r):=by
 unfold Ax.f at H;refine aF Tryz.func202 J J (λW=>rc T 10 (k [] J Cw H (oE.c ·) (λv1 H=>ro T 2 (go T [5,6,7] 13 [0,1,2,3] 16 J J J J J J J (ro T 1 (go T [9,10,11,12] 17 [0,1,2,3] 21 J J J J J J J (ro T 1 (go T [14,15,16] 22 [0,1,2,3] 25 J J J J J J J (ro T 1 (go T [18,19,20,21] 26 [0,2,3] 30 J J J J J J J (ro T 2 (cb J H (λH=>?_) (λH=>?_)))))))))))))
 ·refine rc T 7 ?_
  cases H;exact p0 T J [0] J
 refine rc T 13 ?_
 cases H;exact p0 T J [0] J
def uL.f (w:Int) (h:Int) (bB:Int) (p3:Int):Option Int:=(Ay.f w h bB).bind λv1=>(rS.f w h bB).bind λv2=>if(((!v1.2.2)||(decide (p3<0)))||(decide (p3≥(af (v2.1*v2.2)))))=true then(some (-1)) else(if(¬v2.1=0) then(if(¬v2.1=0) then((Ax.f w h (af (v1.1+(fC p3 v2.1))) (af (v1.2.1+(af (di p3 v2.1))))).bind λv3=>some v3) else none) else none)
theorem uL.c (H:uL.f w h bB p3=some r):
 QU 173 [(ii w),(ii h),(ii bB),(ii p3)] [] F (ii r):=by
 unfold uL.f at H;refine aF Tryz.func173 J J (λW=>rc T 10 (k [] J S9 H (Ay.c ·) (λv1 H=>ro T 14 (k [] J Gw H (rS.c ·) (λv2 H=>ro T 13 (go T [3,4,5] 31 [0,1,3,9,10,12,13] 34 J J J J J J J (ro T 1 (go T [7,8,9,10,11,12] 35 [0,1,3,9,10,12] 41 J J J J J J J (ro T 2 (cb J H (λH=>?_) (λH=>?_)))))))))))
 ·refine rc T 7 ?_
  cases H;exact p0 T J [0] J
 refine rc T 3 (dw mix aB ?_)
 iterate 5 refine au T J ?_
 obtain⟨c4,H⟩:=az H;refine bf J J J (va J J J c4) ?_
 iterate 4 refine au T J ?_
 obtain⟨c5,H⟩:=az H;refine bf J J J (u' J J J c5) (au T J ?_);obtain⟨v3,V6,H⟩:=gx H;refine uU J J J J J J S_ J (Ax.c V6) (au T J (cO (rx T 2 ?_)))
 cases H;exact p0 T J [0] J
def xi.f (w:Int) (h:Int) (cell:Int):Option Bool:=(oE.f w h).bind λv1=>some ((v1&&(decide (cell≥0)))&&(decide (cell<(af (w*h)))))
theorem xi.c (H:xi.f w h cell=some r):
 QU 95 [(ii w),(ii h),(ii cell)] [] F (bb r):=by
 unfold xi.f at H;refine aF Tryz.func95 J J (λW=>rc T 9 (k [] J Cw H (oE.c ·) (λv1 H=>ro T 1 (ga T [4,5,6] 10 [0,1,2] 13 J J J J J J J (ro T 1 (ga T [8,9,10,11,12,13] 14 [] 20 J J J J J J J (ro T 4 ?_)))))))
 cases H;exact p0 T J [0] J
def xh.f (w:Int) (h:Int) (cell:Int):Option (Int×Int):=(xi.f w h cell).bind λv1=>if(!v1)=true then(some ((-1),(-1))) else(if(¬w=0) then(if(¬w=0) then(some ((fC cell w),(af (di cell w)))) else none) else none)
theorem xh.c (H:xh.f w h cell=some r):
 QU 58 [(ii w),(ii h),(ii cell)] [] F (.tuple #[(ii r.1),(ii r.2)]):=by
 unfold xh.f at H;refine aF Tryz.func58 J J (λW=>rc T 12 (k [] J NM H (xi.c ·) (λv1 H=>ro T 3 (cb J H (λH=>?_) (λH=>?_)))))
 ·refine rc T 8 ?_
  cases H;exact p0 T J [0] J
 refine rc T 3 (dw mix aB (au T J (au T J ?_)));obtain⟨c3,H⟩:=az H;refine bf J J J (va J J J c3) (au T J (au T J ?_));obtain⟨c4,H⟩:=az H;refine bf J J J (u' J J J c4) (au T J (au T J (cO (rx T 2 ?_))))
 cases H;exact p0 T J [0] J
def gG.f (w:Int) (h:Int) (cell:Int):Option Int:=(xh.f w h cell).bind λv1=>if v1.1<0 then(some (-1)) else((qT.f w h).bind λv2=>some (af ((af ((af (di v1.2 16))*v2.1))+(af (di v1.1 16)))))
theorem gG.c (H:gG.f w h cell=some r):
 QU 26 [(ii w),(ii h),(ii cell)] [] F (ii r):=by
 unfold gG.f at H;refine aF Tryz.func26 J J (λW=>rc T 10 (k [] J NH H (xh.c ·) (λv1 H=>ro T 14 (cd J H (λH=>?_) (λH=>?_)))))
 ·refine rc T 7 ?_
  cases H;exact p0 T J [0] J
 refine rc T 6 (k [] J GA H (qT.c ·) (λv2 H=>ro T 20 ?_))
 cases H;exact p0 T J [0] J
def nf.f (w:Int) (h:Int) (cell:Int) (side:Int):Option Int:=(xh.f w h cell).bind λv1=>if v1.1<0 then(some (-1)) else((if(side==0)=true then(some (Sum.inr (v1.1,(af (v1.2+(-1)))))) else(if(side==2)=true then(some (Sum.inr (v1.1,(af (v1.2+1))))) else(if(side==3)=true then(some (Sum.inr ((af (v1.1+(-1))),v1.2))) else(if(side==1)=true then(some (Sum.inr ((af (v1.1+1)),v1.2))) else(if(side==4)=true then(some (Sum.inr (v1.1,v1.2))) else(some (Sum.inl (-1)))))))).bind λzz=>match zz with |Sum.inl q=>some q |Sum.inr (x2,x3)=>(Ax.f w h x2 x3).bind λv5=>some v5)
theorem nf.c (H:nf.f w h cell side=some r):
 QU 207 [(ii w),(ii h),(ii cell),(ii side)] [] F (ii r):=by
 unfold nf.f at H;refine aF Tryz.func207 J J (λW=>rc T 10 (k [] J NH H (xh.c ·) (λv1 H=>ro T 14 (cd J H (λH=>?_) (λH=>?_)))))
 ·refine rc T 7 ?_
  cases H;exact p0 T J [0] J
 refine rc T 7 (mq H [0,1] [0] (λz4 (⟨x2,x3⟩:Int×Int)=>((Sum.inr (x2,x3))=z4,[(9,(ii x2)),(10,(ii x3))],[])) J J (λz4 Z3 H=>?_) ?_)
 ·refine rc T 26 (cb J Z3 (λZ3=>?_) (λZ3=>?_))
  ·refine rc T 29 (am (_,_) [0] (oi Z3) J J)
  refine rc T 9 (cb J Z3 (λZ3=>?_) (λZ3=>?_))
  ·refine rc T 26 (am (_,_) [0] (oi Z3) J J)
  refine rc T 9 (cb J Z3 (λZ3=>?_) (λZ3=>?_))
  ·refine rc T 29 (am (_,_) [0] (oi Z3) J J)
  refine rc T 9 (cb J Z3 (λZ3=>?_) (λZ3=>?_))
  ·refine rc T 26 (am (_,_) [0] (oi Z3) J J)
  refine rc T 8 (cb J Z3 (λZ3=>?_) (λZ3=>?_))
  ·refine rc T 17 (am (_,_) [0] (oi Z3) J J)
  refine rc T 25 ?_;obtain rfl:=Option.some.inj Z3;obtain rfl:=Option.some.inj (show some (-1)=some r from H)
  exact p0 T J [0] J
 rintro _ ⟨x2,x3⟩ rfl H;refine rc T 6 (k [] J S_ H (Ax.c ·) (λv5 H=>ro T 4 ?_))
 cases H;exact p0 T J [0] J
def rR.f (w:Int) (h:Int) (cell:Int):Option Int:=(xh.f w h cell).bind λv1=>if v1.1<0 then(some (-1)) else((gG.f w h cell).bind λv2=>(rS.f w h v2).bind λv3=>some (af ((af ((fC v1.2 16)*v3.1))+(fC v1.1 16))))
theorem rR.c (H:rR.f w h cell=some r):
 QU 165 [(ii w),(ii h),(ii cell)] [] F (ii r):=by
 unfold rR.f at H;refine aF Tryz.func165 J J (λW=>rc T 10 (k [] J NH H (xh.c ·) (λv1 H=>ro T 14 (cd J H (λH=>?_) (λH=>?_)))))
 ·refine rc T 7 ?_
  cases H;exact p0 T J [0] J
 refine rc T 9 (k [] J sF H (gG.c ·) (λv2 H=>k [] J Gw H (rS.c ·) (λv3 H=>ro T 20 ?_)))
 cases H;exact p0 T J [0] J
def qU.l0:Nat->Int->Int->Int->Int->Int->Option Int
 |0,_,_,_,_,_=>none
 |k7+1,w,h,a,b,x6=>if x6<=4 then((nf.f w h a x6).bind λv8=>if(v8==b)=true then(some x6) else(qU.l0 k7 w h a b (af (x6+1)))) else(some 5)
def qU.f (w:Int) (h:Int) (a:Int) (b:Int):Option Int:=((xi.f w h a).bind λv3=>if(!v3)=true then(some true) else((xi.f w h b).bind λv4=>some (!v4))).bind λx1=>if x1=true then(some 5) else(qU.l0 fuel w h a b 0)
theorem qU.c (H:qU.f w h a b=some r):
 QU 178 [(ii w),(ii h),(ii a),(ii b)] [] F (ii r):=by
 unfold qU.f at H;refine aF Tryz.func178 J J (λW=>rc T 6 (mq H [0,1,2,3] [0] (λz2 (x1:Bool)=>(x1=z2,[(21,(bb x1))],[])) J J (λz2 Z1 _=>?_) ?_))
 ·refine rc T 4 (k [] J NM Z1 (xi.c ·) (λv3 Z1=>ro T 2 (ab 15 J Z1 (λZ1=>?_) (λZ1=>?_))))
  ·refine ro T 8 (am _ [0] (oi Z1) J J)
  refine ro T 3 (k [] J NM Z1 (xi.c ·) (λv4 Z1=>ro T 4 (am _ [0] (oi Z1) J J)))
 rintro _ x1 rfl H;refine cb J H (λH=>?_) (λH=>?_)
 ·refine rc T 7 ?_
  cases H;exact p0 T J [0] J
 refine rc T 9 (lq [0,1,2,3] [0] (λ(⟨k7,x6⟩:Nat×Int)=>(qU.l0 k7 w h a b x6=some r,[(9,(ii x6))],[])) J J (fuel,0) [0] H J J ?_);rintro k7 x6 Z6;replace Z6:qU.l0 (k7+1) w h a b x6=some r:=Z6;rw[qU.l0] at Z6;refine rc T 7 (cd J Z6 (λZ6=>?_) (λZ6=>?_))
 ·refine rc T 10 (k [] J A9 Z6 (nf.c ·) (λv8 Z6=>ro T 4 (cb J Z6 (λZ6=>?_) (λZ6=>?_))))
  ·refine rc T 12 ?_
   cases Z6;exact p0 T J [0] J
  refine rc T 9 (ar _ [0] Z6 J J)
 refine rc T 11 ?_
 cases Z6;exact p0 T J [0] J
end
noncomputable section
def AQ.f (w:Int) (h:Int):Option Int:=(qT.f w h).bind λv1=>some (af (v1.1*v1.2))
theorem AQ.c (H:AQ.f w h=some r):
 QU 191 [(ii w),(ii h)] [] F (ii r):=by
 unfold AQ.f at H;refine aF Tryz.func191 J J (λW=>rc T 9 (k [] J GA H (qT.c ·) (λv1 H=>ro T 16 ?_)))
 cases H;exact p0 T J [0] J
def oL.l0:Nat->aG->aG->Int->List Int->Int->Option (List Int)
 |0,_,_,_,_,_=>none
 |k6+1,m,t,v1,x4,x5=>if x5<t.H then(if(0<=(af (v1+(af (x5*m.W))))/\(af (v1+(af (x5*m.W))))<=(aa x4:Int)/\(aa x4:Int)<=(aa x4:Int)) then(if(0<=(af (x5*t.W))/\(af (x5*t.W))<=(af ((af (x5+1))*t.W))/\(af ((af (x5+1))*t.W))<=(aa t.C:Int)) then(oL.l0 k6 m t v1 (cB x4 (ax (af (v1+(af (x5*m.W))))) (min (aa (aA t.C (af (x5*t.W)) (af ((af (x5+1))*t.W)))) (aa (aA x4 (af (v1+(af (x5*m.W)))) (aa x4:Int)))) (aA t.C (af (x5*t.W)) (af ((af (x5+1))*t.W)))) (af (x5+1))) else none) else none) else(some x4)
def oL.f (m:aG) (bB:Int) (t:aG):Option (List Int):=(uL.f m.W m.H bB 0).bind λv1=>oL.l0 fuel m t v1 m.C 0
def oL.R (aiJ:Option Addr) (ai7:Nat) (ai3:Nat) (r:(List Int)):bj:=λu G=> ∃(H0:Hp),aj (Fl.int .u8) 5 r aiJ ai7 H0/\aa r=ai3/\u=(.tuple #[])/\G=[H0]
theorem oL.c (H:oL.f m bB t=some r) (ahK:aj (Fl.int .u8) 5 m.C jY jN Qg) (d_:aO (Fl.int .u8) t.C iD F) (fy:aa t.C<=iE):
 QR 193 [(.agg #[(ii m.W),(ii m.H),(ll jY m.C jN)]),(ii bB),(.agg #[(ii t.W),(ii t.H),(ll iD t.C iE)])] [Qg] [] F (oL.R jY jN (aa m.C) r):=by
 unfold oL.f at H;refine aF Tryz.func193 J J (λW=>rc T 2 (nc T J (λb2=>nc T J (λb3=>ro T 5 (lf T 2 J (ro T 1 (lf T 2 J (ro T 1 (k [] J JS H (uL.c ·) (λv1 H=>ro T 6 (lf T 3 J (ro T 4 (lq [3,5,6,15] [1,2] (λ(⟨k6,x4,x5,H5⟩:Nat×List Int×Int×Hp)=>(oL.l0 k6 m t v1 x4 x5=some r/\aj (Fl.int .u8) 5 x4 jY jN H5/\aa x4=aa m.C,[(16,(ii x5))],[(cl b2 30 [(ii m.W),(ii m.H),(ll jY x4 jN)]),H5])) J J (fuel,m.C,0,Qg) [1,2,1,0] ⟨H,ahK,J⟩ J J ?_)))))))))))));rintro k6 ⟨x4,x5,H5⟩ ⟨Z2,s5,l5⟩;rw[oL.l0] at Z2;refine rc T 6 (cd J Z2 (λZ2=>?_) (λZ2=>?_))
 ·refine rc T 10 (fz J (rz [21] mix (bH bG) (λhg pf=>ha T 21 [0] sz hg pf J (al T 1 2 sz hg pf J J J (ha T 17 [2,3,4] sz hg pf J (al T 5 2 sz hg pf J J J (ha T 14 [6,7] sz hg pf J ?_)))))));obtain⟨c4,Z2⟩:=az Z2;refine av 8 sz hg pf J (kS T J J J J J J c4 s5.bZ) (ha T 12 [9] sz hg pf J (al T 10 1 sz hg pf J J J (ha T 9 [11,12] sz hg pf J (al T 13 1 sz hg pf J J J (ha T 4 [14,15,16,17] sz hg pf J (al T 18 1 sz hg pf J J J (ha T 2 [19] sz hg pf J ?_)))))));obtain⟨c5,Z2⟩:=az Z2;refine av 20 sz hg pf J (kS T J J J J J J c5 fy) (ao 21 ?_);have L6:(ax (af (v1+(af (x5*m.W)))))+(aa (aA x4 (af (v1+(af (x5*m.W)))) (aa x4:Int)))<=aa x4:=(Ih c4);refine B_ (k:=(Fl.int .u8)) (xs:=x4) (ys:=(aA t.C (af (x5*t.W)) (af ((af (x5+1))*t.W)))) (lo:=(ax (af (v1+(af (x5*m.W)))))) (g:=3) T J J J J J J J J s5 (nC (rO d_ 0) c5 fy) (.inr J) L6 (λH6 s6=>?_);have V7:(0<=(af (v1+(af (x5*m.W))))/\(af (v1+(af (x5*m.W))))<=(aa x4:Int)/\(aa x4:Int)<=(aa (cB x4 (ax (af (v1+(af (x5*m.W))))) (min (aa (aA t.C (af (x5*t.W)) (af ((af (x5+1))*t.W)))) (aa (aA x4 (af (v1+(af (x5*m.W)))) (aa x4:Int)))) (aA t.C (af (x5*t.W)) (af ((af (x5+1))*t.W)))):Int)):=by simp only[mf L6];exact c4
  refine kg [3,5,6,7,15,16,19,21,22,23,24,25,26,28,29,30,31,32,33,34,35,36,37,38,39,40] [0,0,1] [0,0,1,0] [(20,(ll jY (cB x4 (ax (af (v1+(af (x5*m.W))))) (min (aa (aA t.C (af (x5*t.W)) (af ((af (x5+1))*t.W)))) (aa (aA x4 (af (v1+(af (x5*m.W)))) (aa x4:Int)))) (aA t.C (af (x5*t.W)) (af ((af (x5+1))*t.W)))) jN)),(27,(ll (gp jY jN (ax (af (v1+(af (x5*m.W))))) 1) (aA (cB x4 (ax (af (v1+(af (x5*m.W))))) (min (aa (aA t.C (af (x5*t.W)) (af ((af (x5+1))*t.W)))) (aa (aA x4 (af (v1+(af (x5*m.W)))) (aa x4:Int)))) (aA t.C (af (x5*t.W)) (af ((af (x5+1))*t.W)))) (af (v1+(af (x5*m.W)))) (aa x4:Int)) (jN-ax (af (v1+(af (x5*m.W)))))))] [(cl b2 30 [(ii m.W),(ii m.H),(ll jY (cB x4 (ax (af (v1+(af (x5*m.W))))) (min (aa (aA t.C (af (x5*t.W)) (af ((af (x5+1))*t.W)))) (aa (aA x4 (af (v1+(af (x5*m.W)))) (aa x4:Int)))) (aA t.C (af (x5*t.W)) (af ((af (x5+1))*t.W)))) jN)])] J J ⟨(by first |rfl |(simp only[ll,mf L6];rfl)),(by simp only[ll];rw[iV V7,<-iV c4];rfl),trivial⟩ (by first |rfl |(simp only[ll,mf L6];rfl)) (an sl (ae (rx T 7 ?_)))
  exact ar (_,_,_) [0,0,1,0] ⟨Z2,s6,(Eq.trans (mf L6) l5)⟩ J J
 refine rc T 4 (jm ?_)
 cases Z2;exact p1 T J [3,0] ⟨H5,s5,l5,J,J⟩ J
def mL.l0:Nat->(List Int)->Int->List Int->List Int->Int->Option (aG×Er)
 |0,_,_,_,_,_=>none
 |k9+1,b,v2,x6,x7,x8=>if x8<v2 then((rS.f (af (gf (cj (IntKind.bits .i64) (af (rd b 0))|||cj (IntKind.bits .i64) (af ((af (rd b 1))*2^8))))) (af (gf (cj (IntKind.bits .i64) (af (rd b 2))|||cj (IntKind.bits .i64) (af ((af (rd b 3))*2^8))))) x8).bind λv10=>(pT.f x6 v10.1 v10.2).bind λv11=>if(v11.2.2 !=0)=true then(some ((aG.mk 0 0 []),(Er.wrap 301 [x8] (Er.num 243 v11.2.2)))) else((oL.f (aG.mk (af (gf (cj (IntKind.bits .i64) (af (rd b 0))|||cj (IntKind.bits .i64) (af ((af (rd b 1))*2^8))))) (af (gf (cj (IntKind.bits .i64) (af (rd b 2))|||cj (IntKind.bits .i64) (af ((af (rd b 3))*2^8))))) x7) x8 v11.1).bind λv12=>if(0<=v11.2.1/\v11.2.1<=(aa x6:Int)/\(aa x6:Int)<=(aa x6:Int)) then(mL.l0 k9 b v2 (aA x6 v11.2.1 (aa x6:Int)) v12 (af (x8+1))) else none)) else(if(aa x6:Int)>0 then(some ((aG.mk 0 0 []),(Er.num 243 3))) else(some ((aG.mk (af (gf (cj (IntKind.bits .i64) (af (rd b 0))|||cj (IntKind.bits .i64) (af ((af (rd b 1))*2^8))))) (af (gf (cj (IntKind.bits .i64) (af (rd b 2))|||cj (IntKind.bits .i64) (af ((af (rd b 3))*2^8))))) x7),Er.nil)))
def mL.f (b:(List Int)):Option (aG×Er):=if(aa b:Int)<4 then(some ((aG.mk 0 0 []),(Er.num 243 2))) else(if(0<=(0:Int)/\(0:Int)<(aa b:Int)) then(if(0<=(1:Int)/\(1:Int)<(aa b:Int)) then(if(0<=(2:Int)/\(2:Int)<(aa b:Int)) then(if(0<=(3:Int)/\(3:Int)<(aa b:Int)) then((oE.f (af (gf (cj (IntKind.bits .i64) (af (rd b 0))|||cj (IntKind.bits .i64) (af ((af (rd b 1))*2^8))))) (af (gf (cj (IntKind.bits .i64) (af (rd b 2))|||cj (IntKind.bits .i64) (af ((af (rd b 3))*2^8)))))).bind λv1=>if(!v1)=true then(some ((aG.mk 0 0 []),(Er.num 243 3))) else(if(0<=(4:Int)/\(4:Int)<=(aa b:Int)/\(aa b:Int)<=(aa b:Int)) then(if(0<=(af ((af (gf (cj (IntKind.bits .i64) (af (rd b 0))|||cj (IntKind.bits .i64) (af ((af (rd b 1))*2^8)))))*(af (gf (cj (IntKind.bits .i64) (af (rd b 2))|||cj (IntKind.bits .i64) (af ((af (rd b 3))*2^8)))))))/\(af ((af (gf (cj (IntKind.bits .i64) (af (rd b 0))|||cj (IntKind.bits .i64) (af ((af (rd b 1))*2^8)))))*(af (gf (cj (IntKind.bits .i64) (af (rd b 2))|||cj (IntKind.bits .i64) (af ((af (rd b 3))*2^8)))))))<=1099511627776) then((AQ.f (af (gf (cj (IntKind.bits .i64) (af (rd b 0))|||cj (IntKind.bits .i64) (af ((af (rd b 1))*2^8))))) (af (gf (cj (IntKind.bits .i64) (af (rd b 2))|||cj (IntKind.bits .i64) (af ((af (rd b 3))*2^8)))))).bind λv2=>mL.l0 fuel b v2 (aA b 4 (aa b:Int)) (cy (ax (af ((af (gf (cj (IntKind.bits .i64) (af (rd b 0))|||cj (IntKind.bits .i64) (af ((af (rd b 1))*2^8)))))*(af (gf (cj (IntKind.bits .i64) (af (rd b 2))|||cj (IntKind.bits .i64) (af ((af (rd b 3))*2^8)))))))) (0:Int)) 0) else none) else none)) else none) else none) else none) else none)
def mL.R (el:Nat->Addr) (r:(aG×Er)):bj:=λu G=> ∃(a0 n0 H0:_) (v1:Value) (H1:Hp),aj (Fl.int .u8) 5 r.1.C a0 n0 H0/\gr 414 el r.2 v1 H1/\u=(.tuple #[(.agg #[(ii r.1.W),(ii r.1.H),(ll a0 r.1.C n0)]),v1])/\G=[H0,H1]
theorem mL.c (H:mL.f b=some r) (hG:fP 414 fc gW el F) (gM:aO (Fl.int .u8) b jG F) (gz:aa b<=jy):
 QR 147 [(ll jG b jy)] [] [] F (mL.R el r):=by
 unfold mL.f at H;refine aF Tryz.func147 J J (λW=>rc T 2 (nc T J (λb1=>ro T 11 (cd J H (λH=>?_) (λH=>?_)))))
 ·refine rc T 3 (bA J (iw T J J J J) (sg T 1 J (ro T 5 ?_)))
  cases H;refine bz (bz (pb T J (.cS (j:=1) [(ii 0),(ii 0),nl] J J J J J J J (.tmp J .nil)) [2,2,0] ⟨(_,_),none,0,[],(.iface 243 (ii 2)),[],aj.nil,sx,J,J⟩ J J))
 refine rc T 3 (ks [0,2] J (fz J (rg [] [0,0] mix (bH bG) (λhg pf=>ha T 22 [0] sz hg pf J ?_))));obtain⟨c2,H⟩:=az H;obtain⟨q4,o4,e4⟩:=gM.addr c2.1 c2.2;refine av 1 sz hg pf J (cu T J J J J J e4 c2.1 c2.2) (av 2 sz hg pf J (cw T J J J J (eH (k:=(Fl.int .u8)) (rO gM 0) e4 c2 0 J)) (ha T 18 [3,4] sz hg pf J ?_));obtain⟨c3,H⟩:=az H;refine av 5 sz hg pf J (cu T J J J J J e4 c3.1 c3.2) (av 6 sz hg pf J (cw T J J J J (eH (k:=(Fl.int .u8)) (rO gM 0) e4 c3 0 J)) (ha T 12 [7,8,9,10] sz hg pf J ?_));obtain⟨c4,H⟩:=az H;refine av 11 sz hg pf J (cu T J J J J J e4 c4.1 c4.2) (av 12 sz hg pf J (cw T J J J J (eH (k:=(Fl.int .u8)) (rO gM 0) e4 c4 0 J)) (ha T 8 [13,14] sz hg pf J ?_));obtain⟨c5,H⟩:=az H;refine av 15 sz hg pf J (cu T J J J J J e4 c5.1 c5.2) (av 16 sz hg pf J (cw T J J J J (eH (k:=(Fl.int .u8)) (rO gM 0) e4 c5 0 J)) (ha T 2 [17,18,19,20] sz hg pf J (ao 21 (nw T J (λb5=>an (so [0,0]) (ao 22 (sf T 2 J (an (so [0,0]) (ae (rx T 5 (lf T 2 J (ro T 1 (lf T 2 J (k [] J Cw H (oE.c ·) (λv1 H=>ro T 3 (cb J H (λH=>?_) (λH=>?_)))))))))))))))))
 ·refine rc T 3 (bA J (iw T J J J J) (sg T 1 J (ro T 5 ?_)))
  cases H;refine bz (bz (pb T J (.cS (j:=1) [(ii 0),(ii 0),nl] J J J J J J J (.tmp J .nil)) [3,3,0] ⟨(_,_),none,0,[],(.iface 243 (ii 3)),[],aj.nil,sx,J,J⟩ J J))
 refine rc T 5 ?_;obtain⟨c8,H⟩:=az H;refine bA J (kS T J J J J J J c8 gz) (ro T 6 (lf T 2 J (ro T 1 (lf T 2 J (ro T 1 ?_)))));obtain⟨c9,H⟩:=az H;refine aV (xy (k:=(Fl.int .u8)) T (0:Int) J J J J J J J J c9 J (λa8 n8 H8 s8=>ro T 1 (sg T 2 J (ro T 6 (lf T 2 J (ro T 1 (lf T 2 J (k [] J acJ H (AQ.c ·) (λv2 H=>ro T 4 (lq [2,4,58] [0,0] (λ(⟨k9,x6,x7,x8,dj,n11,a12,n12,dq⟩:Nat×List Int×List Int×Int×Option Addr×Nat×Option Addr×Nat×Hp)=>(mL.l0 k9 b v2 x6 x7 x8=some r/\dH (Fl.int .u8) b jG jy x6 dj n11/\aa x6<=n11/\aj (Fl.int .u8) 5 x7 a12 n12 dq,[(0,(ll dj x6 n11)),(59,(ii x8))],[(cl b5 30 [(ii (af (gf (cj (IntKind.bits .i64) (af (rd b 0))|||cj (IntKind.bits .i64) (af ((af (rd b 1))*2^8)))))),(ii (af (gf (cj (IntKind.bits .i64) (af (rd b 2))|||cj (IntKind.bits .i64) (af ((af (rd b 3))*2^8)))))),(ll a12 x7 n12)]),dq])) J J (fuel,(aA b 4 (aa b:Int)),(cy (ax (af ((af (gf (cj (IntKind.bits .i64) (af (rd b 0))|||cj (IntKind.bits .i64) (af ((af (rd b 1))*2^8)))))*(af (gf (cj (IntKind.bits .i64) (af (rd b 2))|||cj (IntKind.bits .i64) (af ((af (rd b 3))*2^8)))))))) (0:Int)),0,(gp jG jy (ax 4) 1),(jy-ax 4),a8,n8,H8) [0,0,0,0] ⟨H,(dH.sub dH.self gz c8),(mW c8 gz),s8⟩ J J ?_))))))))))
 rintro k9 ⟨x6,x7,x8,dj,n11,a12,n12,dq⟩ ⟨aY,zm,AW,dE⟩;rw[mL.l0] at aY;refine rc T 6 (cd J aY (λaY=>?_) (λaY=>?_))
 ·refine rc T 13 (lf T 2 J (ro T 1 (lf T 2 J (ro T 1 (k [] J Gw aY (rS.c ·) (λv10 aY=>ro T 12 (kr (pT.R el) [] [] J acK aY (pT.c · (dF hG (j:=0) J) (oQ zm (rO gM 0) gz) AW) (λv11 aY=>?_))))))));rintro _ _ ⟨dh,n13,dI,cY,rfl,rfl⟩;refine fz J (ro T 4 (nc T J (λJf=>sg T 5 J (ro T 11 (cb J aY (λaY=>?_) (λaY=>?_))))))
  ·refine rc T 5 (bA J (iw T J J J J) (ro T 1 (nc T J (λoP=>bz (gL [6,6] J (bA J (iw T J J J J) (sg T 1 J (ro T 10 ?_))))))))
   cases aY;refine bz (pb T J (.cS (j:=1) [(ii 0),(ii 0),nl] J J J J J J J (.tmp J .nil)) [7,6,0] ⟨(_,_),none,0,[],(.iface 301 (pp oP)),(List.flatten [(cl oP 303 [(ii x8),(.iface 243 (ii v11.2.2))]),[]]),aj.nil,(qo sx),J,J⟩ J J)
  refine rc T 4 (lm T 2 J (ro T 1 (lm T 5 J (kr (oL.R a12 n12 (aa x7)) [] [3] J acL aY (oL.c (m:=(aG.mk (af (gf (cj (IntKind.bits .i64) (af (rd b 0))|||cj (IntKind.bits .i64) (af ((af (rd b 1))*2^8))))) (af (gf (cj (IntKind.bits .i64) (af (rd b 2))|||cj (IntKind.bits .i64) (af ((af (rd b 3))*2^8))))) x7)) · dE (oO cY 3) cY.bZ) (λv12 aY=>?_)))))
  rintro _ _ ⟨kH,gP,l19,rfl,rfl⟩;refine fz J (kg [0,2,4,9,58,59] [0,0,3] [0,0,3,0] [] [(cl b5 30 [(ii (af (gf (cj (IntKind.bits .i64) (af (rd b 0))|||cj (IntKind.bits .i64) (af ((af (rd b 1))*2^8)))))),(ii (af (gf (cj (IntKind.bits .i64) (af (rd b 2))|||cj (IntKind.bits .i64) (af ((af (rd b 3))*2^8)))))),(ll a12 v12 n12)])] J J trivial (by first |rfl |(simp only[ll,l19];rfl)) (ro T 5 ?_))
  obtain⟨lU,aY⟩:=az aY;refine bA J (kS T J J J J J J lU AW) (ro T 9 (ar (_,_,_,_,_,_,_,_) [0,0,1,0] ⟨aY,(dH.sub zm gz lU),(mW lU AW),gP⟩ J J))
 refine rc T 13 (cd J aY (λaY=>?_) (λaY=>?_))
 ·refine rc T 3 (bA J (iw T J J J J) (sg T 1 J (ro T 5 ?_)))
  cases aY;refine bz (bz (pb T J (.cS (j:=1) [(ii 0),(ii 0),nl] J J J J J J J (.tmp J .nil)) [4,4,0] ⟨(_,_),none,0,[],(.iface 243 (ii 3)),[],aj.nil,sx,J,J⟩ J J))
 refine rc T 4 (lm T 2 J (sg T 1 J (ro T 4 ?_)))
 cases aY;refine bz (pb T J (.cS (j:=1) [(ii (af (gf (cj (IntKind.bits .i64) (af (rd b 0))|||cj (IntKind.bits .i64) (af ((af (rd b 1))*2^8)))))),(ii (af (gf (cj (IntKind.bits .i64) (af (rd b 2))|||cj (IntKind.bits .i64) (af ((af (rd b 3))*2^8)))))),(ll a12 x7 n12)] J J J J J J J (.tmp J .nil)) [3,3,0] ⟨(_,_),a12,n12,dq,.nilIface,[],dE,u9,J,J⟩ J J)
def tJ.f (b:(List Int)):Option (aG×Int):=(mL.f b).bind λv1=>(zv.f v1.2).bind λv2=>if(Option.isSome v2)=true then(some ((aG.mk 0 0 []),(Option.getD v2 0))) else(some (v1.1,0))
def tJ.R (el:Nat->Addr) (r:(aG×Int)):bj:=λu G=> ∃a0 n0 H0,aj (Fl.int .u8) 5 r.1.C a0 n0 H0/\u=(.tuple #[(.agg #[(ii r.1.W),(ii r.1.H),(ll a0 r.1.C n0)]),(ii r.2)])/\G=[H0]
theorem tJ.c (H:tJ.f b=some r) (hG:fP 414 fc gW el F) (gM:aO (Fl.int .u8) b jG F) (gz:aa b<=jy):
 QR 114 [(ll jG b jy)] [] [] F (tJ.R el r):=by
 unfold tJ.f at H;refine aF Tryz.func114 J J (λW=>rc T 2 (nc T J (λb1=>ro T 6 (kr (mL.R el) [] [] J ack H (mL.c · (dF hG (j:=0) J) (rO gM 0) gz) (λv1 H=>?_)))));rintro _ _ ⟨a2,n2,H2,v3,H3,s2,s3,rfl,rfl⟩;refine fz J (ro T 3 (nc T J (λb4=>sg T 4 J (ro T 6 (nc T J (λb5=>sg T 5 J (ro T 1 (ks [2,4,5,6] J (rx T 4 (bA J (iw T J J J J) ?_))))))))));obtain⟨v2,V2,H⟩:=gx H;refine aV (tI (As:=[(cl b5 243 [(ii 0)])]) (R:=[F,(cl b1 30 [(ii 0),(ii 0),nl]),H2,H3,(cl b4 30 [(ii v1.1.W),(ii v1.1.H),(ll a2 v1.1.C n2)])]) (B:=λ_=>[(cl b5 243 [(ii (Option.getD v2 0))])]) [5] J J J J J2 J J (zv.c v1.2 v2 _ V2 (dF hG (j:=0) J) (sB s3 (j:=3) J)) (λ_=>ro T 2 (cb J H (λH=>?_) (λH=>?_))))
 ·refine rc T 1 (ke [2,6] [0,0,3] J J (fz J (rz [] mix (bH bG) (λhg pf=>ha T 3 [0] sz hg pf J (al T 1 2 sz hg pf J J J (ao 2 (sf T 1 J (an sz (ha T 0 [3] sz hg pf J (ae (rx T 1 (rc T 2 ?_))))))))))))
  cases H;refine bz (pb T J (.cS (j:=1) [(ii 0),(ii 0),nl] J J J J J J J (.tmp J .nil)) [3,0] ⟨(_,_),none,0,[],aj.nil,J,J⟩ J J)
 refine rc T 4 (lm T 4 J (sg T 1 J (ro T 4 ?_)))
 cases H;exact pb T J (.cS (j:=1) [(ii v1.1.W),(ii v1.1.H),(ll a2 v1.1.C n2)] J J J J J J J (.tmp J .nil)) [2,0] ⟨(_,_),a2,n2,H2,s2,J,J⟩ J J
def zl.f (m:aG):Option Bool:=((oE.f m.W m.H).bind λv3=>if v3=true then(if((aa m.C:Int)==(af (m.W*m.H)))=true then((xa.f m.C 0).bind λv4=>some (!v4)) else(some false)) else(some false)).bind λx1=>some x1
theorem zl.c (H:zl.f m=some r) (hZ:aO (Fl.int .u8) m.C jY F) (nk:aa m.C<=jN):
 QU 148 [(.agg #[(ii m.W),(ii m.H),(ll jY m.C jN)])] [] F (bb r):=by
 unfold zl.f at H;refine aF Tryz.func148 J J (λW=>rc T 2 (nc T J (λb1=>ro T 3 (mq H [] [0] (λz2 (x1:Bool)=>(x1=z2,[(2,(bb x1))],[])) J J (λz2 Z1 _=>?_) ?_))))
 ·refine rc T 2 (lf T 1 J (ro T 1 (lf T 1 J (k [] J Cw Z1 (oE.c ·) (λv3 Z1=>ro T 1 (ab 8 J Z1 (λZ1=>?_) (λZ1=>?_)))))))
  ·refine ro T 1 (lf T 1 J (ro T 2 (lf T 1 J (ro T 1 (lf T 1 J (ro T 4 (ab 19 J Z1 (λZ1=>?_) (λZ1=>?_))))))))
   ·refine ro T 1 (lf T 1 J (k [] J Ns Z1 (xa.c · (rO hZ 0) nk) (λv4 Z1=>ro T 5 (am _ [0] (oi Z1) J J))))
   refine ro T 8 (am _ [0] (oi Z1) J J)
  refine ro T 19 (am _ [0] (oi Z1) J J)
 rintro _ x1 rfl H;refine rc T 1 ?_
 cases H;exact p0 T J [0] J
end
noncomputable section
def u_.f (cells:Int):Option (Option kq):=if((decide (cells<1))||(decide (cells>1048576)))=true then(some none) else(if(0<=cells/\cells<=1099511627776) then(some (some (kq.mk (cy (ax cells) (0:Int)) 0))) else none)
def u_.R (r:(Option kq)):bj:=λu G=> ∃(u0:Value) (G0:List Hp),X6 r u0 G0/\u=u0/\G=G0
theorem u_.c (H:u_.f cells=some r):
 QR 153 [(ii cells)] [] [] F (u_.R r):=by
 unfold u_.f at H;refine aF Tryz.func153 J J (λW=>rc T 11 (go T [3,4,5] 5 [0] 8 J J J J J J J (ro T 2 (cb J H (λH=>?_) (λH=>?_)))))
 ·refine rc T 7 ?_
  cases H;exact p1 T J [0] ⟨_,_,⟨J,J⟩,J,J⟩ J
 refine rc T 5 ?_;obtain⟨c2,H⟩:=az H;refine aV (xy (k:=(Fl.int .u32)) T (0:Int) J J J J J J J J c2 J (λa1 n1 H1 s1=>ro T 1 (nc T J (λb2=>ro T 4 ?_))))
 cases H;exact p1 T J [2,1,0] ⟨_,_,⟨b2,a1,n1,H1,s1,J,J⟩,J,J⟩ J
def zx.f (ag:kq) (cell:Int):Option Bool:=(if cell≥0 then(some (decide (cell<(aa ag.words:Int)))) else(some false)).bind λx1=>some x1
theorem zx.c (H:zx.f ag cell=some r) (l7:aj (Fl.int .u32) 65 ag.words oJ pa r_):
 QU 195 [(pp aW),(ii cell)] [(cl aW 221 [(ll oJ ag.words pa),(ii ag.count)]),r_] F (bb r):=by
 unfold zx.f at H;refine aF Tryz.func195 J J (λW=>rc T 5 (mq H [] [2,0,0] (λz2 (x1:Bool)=>(x1=z2,[(4,(bb x1))],[])) J J (λz2 Z1 _=>?_) ?_))
 ·refine rc T 8 (ad 11 J Z1 (λZ1=>?_) (λZ1=>?_))
  ·refine ro T 4 (lf T 0 J (ro T 6 (am _ [2,0,0] (oi Z1) J J)))
  refine ro T 11 (am _ [2,0,0] (oi Z1) J J)
 rintro _ x1 rfl H;refine rc T 1 ?_
 cases H;exact p0 T J [1,1,0] J
def rm.f (ag:kq) (cell:Int):Option Int:=(zx.f ag cell).bind λv1=>if(!v1)=true then(some (-1)) else(if(0<=cell/\cell<(aa ag.words:Int)) then(some (af ((af (rd ag.words cell))-1))) else none)
theorem rm.c (H:rm.f ag cell=some r) (l7:aj (Fl.int .u32) 65 ag.words oJ pa r_):
 QU 154 [(pp aW),(ii cell)] [(cl aW 221 [(ll oJ ag.words pa),(ii ag.count)]),r_] F (ii r):=by
 unfold rm.f at H;refine aF Tryz.func154 J J (λW=>rc T 10 (k [0,0] J S7 H (zx.c · l7) (λv1 H=>ro T 3 (cb J H (λH=>?_) (λH=>?_)))))
 ·refine rc T 7 ?_
  cases H;exact p0 T J [0,0,0] J
 refine rc T 7 (lf T 0 J (ro T 1 ?_));obtain⟨c3,H⟩:=az H;obtain⟨q3,o3,e3⟩:=l7.r.addr c3.1 c3.2;refine ix T J e3 c3 (le T 0 (oO l7 1) e3 c3 J J (ro T 6 ?_))
 cases H;exact p0 T J [0,0,0] J
def zw.f (ag:kq) (cell:Int):Option Bool:=((zx.f ag cell).bind λv3=>if v3=true then(if(0<=cell/\cell<(aa ag.words:Int)) then(some ((rd ag.words cell)==0)) else none) else(some false)).bind λx1=>some x1
theorem zw.c (H:zw.f ag cell=some r) (l7:aj (Fl.int .u32) 65 ag.words oJ pa r_):
 QU 196 [(pp aW),(ii cell)] [(cl aW 221 [(ll oJ ag.words pa),(ii ag.count)]),r_] F (bb r):=by
 unfold zw.f at H;refine aF Tryz.func196 J J (λW=>rc T 5 (mq H [] [2,0,0] (λz2 (x1:Bool)=>(x1=z2,[(4,(bb x1))],[])) J J (λz2 Z1 _=>?_) ?_))
 ·refine rc T 3 (k [0,0] J S7 Z1 (zx.c · l7) (λv3 Z1=>ro T 1 (ab 8 J Z1 (λZ1=>?_) (λZ1=>?_))))
  ·refine ro T 3 (lf T 0 J (ro T 1 ?_));obtain⟨c4,Z1⟩:=az Z1;obtain⟨q3,o3,e3⟩:=l7.r.addr c4.1 c4.2;refine ix T J e3 c4 (le T 0 (oO l7 1) e3 c4 J J (ro T 5 (am _ [2,0,0] (oi Z1) J J)))
  refine ro T 12 (am _ [2,0,0] (oi Z1) J J)
 rintro _ x1 rfl H;refine rc T 1 ?_
 cases H;exact p0 T J [1,1,0] J
def tS.f (ag:kq) (cell:Int) (p2:Int):Option (Bool×kq):=(zw.f ag cell).bind λv1=>if(((!v1)||(decide (p2<0)))||(decide (p2≥4294967295)))=true then(some (false,ag)) else(if(0<=cell/\cell<(aa ag.words:Int)) then(some (true,(kq.mk (aD ag.words (ax cell) (P_ (af (p2+1)))) (af (ag.count+1))))) else none)
def tS.R (aW:Nat) (r:(Bool×kq)):bj:=λu G=> ∃a0 n0 H0,aj (Fl.int .u32) 65 r.2.words a0 n0 H0/\u=(bb r.1)/\G=[(cl aW 221 [(ll a0 r.2.words n0),(ii r.2.count)]),H0]
theorem tS.c (H:tS.f ag cell p2=some r) (l7:aj (Fl.int .u32) 65 ag.words oJ pa r_):
 QR 157 [(pp aW),(ii cell),(ii p2)] [(cl aW 221 [(ll oJ ag.words pa),(ii ag.count)]),r_] [] F (tS.R aW r):=by
 unfold tS.f at H;refine aF Tryz.func157 J J (λW=>rc T 10 (k [0,0] J S8 H (zw.c · l7) (λv1 H=>ro T 2 (go T [5,6,7] 11 [0,1,2] 14 J J J J J J J (ro T 1 (go T [9,10,11] 15 [0,1,2] 18 J J J J J J J (ro T 2 (cb J H (λH=>?_) (λH=>?_)))))))))
 ·refine rc T 7 ?_
  cases H;exact p1 T J [0,0,0] ⟨oJ,pa,r_,l7,J,J⟩ J
 refine rc T 7 (lf T 0 J (ro T 4 ?_));obtain⟨c3,H⟩:=az H;obtain⟨q3,o3,e3⟩:=l7.r.addr c3.1 c3.2;refine ix T J e3 c3 (aV (jZ (k:=(Fl.int .u32)) T 1 0 (P_ (af (p2+1))) J J J J J J l7 e3 c3 J J J (λH4 s4=>kg [0] [1,1] [1,1,0] [] [(cl aW 221 [(ll oJ (aD ag.words (ax cell) (P_ (af (p2+1)))) pa),(ii ag.count)])] J J trivial dB (ro T 7 (lf T 2 J (ro T 3 (sg T 2 J (ro T 8 ?_))))))))
 cases H;exact p1 T J [2,0,0] ⟨oJ,pa,H4,s4,J,J⟩ J
def tU.f (ag:kq) (cell:Int):Option (Int×kq):=(rm.f ag cell).bind λv1=>if(v1 !=(-1))=true then(if(0<=cell/\cell<(aa ag.words:Int)) then(some (v1,(kq.mk (aD ag.words (ax cell) 0) (af (ag.count-1))))) else none) else(some (v1,ag))
def tU.R (aW:Nat) (r:(Int×kq)):bj:=λu G=> ∃a0 n0 H0,aj (Fl.int .u32) 65 r.2.words a0 n0 H0/\u=(ii r.1)/\G=[(cl aW 221 [(ll a0 r.2.words n0),(ii r.2.count)]),H0]
theorem tU.c (H:tU.f ag cell=some r) (l7:aj (Fl.int .u32) 65 ag.words oJ pa r_):
 QR 160 [(pp aW),(ii cell)] [(cl aW 221 [(ll oJ ag.words pa),(ii ag.count)]),r_] [] F (tU.R aW r):=by
 unfold tU.f at H;refine aF Tryz.func160 J J (λW=>rc T 9 (k [0,0] J Gu H (rm.c · l7) (λv1 H=>ro T 10 (cb J H (λH=>?_) (λH=>?_)))))
 ·refine rc T 5 (lf T 0 J (ro T 1 ?_));obtain⟨c3,H⟩:=az H;obtain⟨q3,o3,e3⟩:=l7.r.addr c3.1 c3.2;refine ix T J e3 c3 (aV (jZ (k:=(Fl.int .u32)) T 1 0 0 J J J J J J l7 e3 c3 J J J (λH4 s4=>kg [0,5] [1,1] [1,1,0] [] [(cl aW 221 [(ll oJ (aD ag.words (ax cell) 0) pa),(ii ag.count)])] J J trivial dB (ro T 6 (lf T 2 J (ro T 3 (sg T 2 J (ro T 9 ?_))))))))
  cases H;exact p1 T J [2,0,0] ⟨oJ,pa,H4,s4,J,J⟩ J
 refine rc T 9 ?_
 cases H;exact p1 T J [0,0,0] ⟨oJ,pa,r_,l7,J,J⟩ J
def xJ.f (ag:kq) (ai:Int) (p2:Int):Option (Bool×kq):=((rm.f ag ai).bind λv3=>if(v3==(-1))=true then(some true) else((zw.f ag p2).bind λv4=>some (!v4))).bind λx1=>if x1=true then(some (false,ag)) else((tU.f ag ai).bind λv5=>(tS.f v5.2 p2 v5.1).bind λv6=>some (v6.1,v6.2))
def xJ.R (aW:Nat) (r:(Bool×kq)):bj:=λu G=> ∃a0 n0 H0,aj (Fl.int .u32) 65 r.2.words a0 n0 H0/\u=(bb r.1)/\G=[(cl aW 221 [(ll a0 r.2.words n0),(ii r.2.count)]),H0]
theorem xJ.c (H:xJ.f ag ai p2=some r) (l7:aj (Fl.int .u32) 65 ag.words oJ pa r_):
 QR 167 [(pp aW),(ii ai),(ii p2)] [(cl aW 221 [(ll oJ ag.words pa),(ii ag.count)]),r_] [] F (xJ.R aW r):=by
 unfold xJ.f at H;refine aF Tryz.func167 J J (λW=>rc T 6 (mq H [0,1,2] [2,0,0] (λz2 (x1:Bool)=>(x1=z2,[(16,(bb x1))],[])) J J (λz2 Z1 _=>?_) ?_))
 ·refine rc T 3 (k [0,0] J Gu Z1 (rm.c · l7) (λv3 Z1=>ro T 2 (ab 11 J Z1 (λZ1=>?_) (λZ1=>?_))))
  ·refine ro T 7 (am _ [2,0,0] (oi Z1) J J)
  refine ro T 2 (k [0,0] J S8 Z1 (zw.c · l7) (λv4 Z1=>ro T 4 (am _ [2,0,0] (oi Z1) J J)))
 rintro _ x1 rfl H;refine cb J H (λH=>?_) (λH=>?_)
 ·refine rc T 7 ?_
  cases H;exact p1 T J [1,1,0] ⟨oJ,pa,r_,l7,J,J⟩ J
 refine rc T 8 (kr (tU.R aW) [] [1,1] J SY H (tU.c · l7) (λv5 H=>?_));rintro _ _ ⟨a3,n3,H3,s3,rfl,rfl⟩;refine fz J (kr (tS.R aW) [] [1,1] J SX H (tS.c · s3) (λv6 H=>?_));rintro _ _ ⟨a4,n4,H4,s4,rfl,rfl⟩;refine fz J (ro T 4 ?_)
 cases H;exact p1 T J [1,1,0] ⟨a4,n4,H4,s4,J,J⟩ J
end
noncomputable section
def pU.l0:Nat->Int->Int->(List bD)->Int->(List (Int×Bool))->Int->Option Bool
 |0,_,_,_,_,_,_=>none
 |k8+1,w,h,l,x5,x6,x7=>if x7<(aa l:Int) then(if(0<=x7/\x7<(aa l:Int)) then((if(rd l x7).Id<=x5 then(some true) else((gG.f w h ((rd l x7).Cell)).bind λv11=>if v11<0 then(some true) else((gG.f w h ((rd l x7).Goal)).bind λv12=>if v12<0 then(some true) else(some (aT x6 ((rd l x7).Cell)))))).bind λx9=>if x9=true then(some false) else(pU.l0 k8 w h l ((rd l x7).Id) (cQ x6 ((rd l x7).Cell) true) (af (x7+1)))) else none) else(some true)
def pU.f (w:Int) (h:Int) (l:(List bD)):Option Bool:=(oE.f w h).bind λv1=>if(!v1)=true then(some false) else(pU.l0 fuel w h l (-1) ([]:(List (Int×Bool))) 0)
theorem pU.c (H:pU.f w h l=some r) (dm:aO l6 l gZ F) (gj:aa l<=gX):
 QU 61 [(ii w),(ii h),(ll gZ l gX)] [] F (bb r):=by
 unfold pU.f at H;refine aF Tryz.func61 J J (λW=>rc T 10 (k [] J Cw H (oE.c ·) (λv1 H=>ro T 3 (cb J H (λH=>?_) (λH=>?_)))))
 ·refine rc T 7 ?_
  cases H;exact p0 T J [0] J
 refine rc T 11 (aV (vW T (Ky.int .i64 u3) (λx:Bool=>Value.bool x) J J J ⟨_,_,J⟩ (λa1 H1 s1=>ro T 12 (lq [0,1,18,19] [0] (λ(⟨k8,x5,x6,x7,a3,H3⟩:Nat×Int×(List (Int×Bool))×Int×Nat×Hp)=>(pU.l0 k8 w h l x5 x6 x7=some r/\db (Ky.int .i64 u3) (λx:Bool=>Value.bool x) x6 a3 H3,[(7,(ii x5)),(8,(.map (some a3))),(20,(ii x7))],[H3])) J J (fuel,(-1),([]:(List (Int×Bool))),0,a1,H1) [0,0] ⟨H,s1⟩ J J ?_))));rintro k8 ⟨x5,x6,x7,a3,H3⟩ ⟨Z3,s3⟩;rw[pU.l0] at Z3;refine rc T 6 (cd J Z3 (λZ3=>?_) (λZ3=>?_))
 ·refine rc T 6 ?_;obtain⟨c5,Z3⟩:=az Z3;obtain⟨q4,o4,e4⟩:=dm.addr c5.1 c5.2;refine ix T J e4 c5 (bA J (fY T (cs:=[(ii (rd l x7).Id),(ii (rd l x7).Cell),(ii (rd l x7).Goal)]) J J J J J J (iy (k:=l6) (rO dm 0) e4 c5 J)) (nc T J (λb5=>sg T 2 J (ro T 3 (mq Z3 [0,1,8,10,18,19,20] [0,0,0] (λmy (x9:Bool)=>(x9=my,[(49,(bb x9))],[])) J J (λmy Z6 _=>?_) ?_)))))
  ·refine rc T 2 (lf T 2 J (ro T 3 (ad 28 J Z6 (λZ6=>?_) (λZ6=>?_))))
   ·refine ro T 23 (am _ [0,0,0] (oi Z6) J J)
   refine ro T 3 (lf T 2 J (k [] J sF Z6 (gG.c ·) (λv11 Z6=>ro T 3 (ad 36 J Z6 (λZ6=>?_) (λZ6=>?_)))))
   ·refine ro T 15 (am _ [0,0,0] (oi Z6) J J)
   refine ro T 3 (lf T 2 J (k [] J sF Z6 (gG.c ·) (λv12 Z6=>ro T 3 (ad 44 J Z6 (λZ6=>?_) (λZ6=>?_)))))
   ·refine ro T 7 (am _ [0,0,0] (oi Z6) J J)
   refine ro T 2 (lf T 2 J (bA J (qu (k:=(rd l x7).Cell) T (Ky.int .i64 u3) (λx:Bool=>Value.bool x) J J J J J (o_ s3 (j:=1) J)) (ro T 3 (am _ [0,0,0] (oi Z6) J J))))
  rintro _ x9 rfl Z3;refine cb J Z3 (λZ3=>?_) (λZ3=>?_)
  ·refine rc T 12 ?_
   cases Z3;exact p0 T J [0] J
  refine rc T 2 (fz J (rz [6] mix (bH bG) (λhg pf=>ha T 5 [0,1] sz hg pf J (al T 2 2 sz hg pf J J J (ha T 3 [3] sz hg pf J (al T 4 2 sz hg pf J J J (ha T 1 [5] sz hg pf J (ao 6 (qh (g:=1) (m:=x6) (k:=(rd l x7).Cell) (v:=true) T (Ky.int .i64 u3) (λx:Bool=>Value.bool x) J J J J J J J s3 (λH6 s6=>an sl (ae (rx T 7 (ar (_,_,_,_,_) [0,0] ⟨Z3,s6⟩ J J)))))))))))))
 refine rc T 11 ?_
 cases Z3;exact p0 T J [0] J
def pc.l0:Nat->(List bD)->List Int->(List (Int×Bool))->Int->Option (List Int)
 |0,_,_,_,_=>none
 |k7+1,l,x4,x5,x6=>if x6<(aa l:Int) then(if(0<=x6/\x6<(aa l:Int)) then(if(!(aT x5 ((rd l x6).Goal)))=true then(if(aa x4+1<=1099511627776) then(pc.l0 k7 l (x4++[(rd l x6).Goal]) (cQ x5 ((rd l x6).Goal) true) (af (x6+1))) else none) else(pc.l0 k7 l x4 x5 (af (x6+1)))) else none) else(some x4)
def pc.f (l:(List bD)):Option (List Int):=pc.l0 fuel l [] ([]:(List (Int×Bool))) 0
def pc.R (r:(List Int)):bj:=λu G=> ∃a0 n0 H0,aj (Fl.int .i64) 3 r a0 n0 H0/\u=(ll a0 r n0)/\G=[H0]
theorem pc.c (H:pc.f l=some r) (dm:aO l6 l gZ F) (gj:aa l<=gX):
 QR 29 [(ll gZ l gX)] [] [] F (pc.R r):=by
 unfold pc.f at H;refine aF Tryz.func29 J J (λW=>rc T 12 (aV (vW T (Ky.int .i64 u3) (λx:Bool=>Value.bool x) J J J trivial (λa1 H1 s1=>ro T 12 (bz (lq [8,9] [0] (λ(⟨k7,x4,x5,x6,a4,n4,H4,a5,H5⟩:Nat×List Int×(List (Int×Bool))×Int×Option Addr×Nat×Hp×Nat×Hp)=>(pc.l0 k7 l x4 x5 x6=some r/\aj (Fl.int .i64) 3 x4 a4 n4 H4/\db (Ky.int .i64 u3) (λx:Bool=>Value.bool x) x5 a5 H5,[(3,(ll a4 x4 n4)),(4,(.map (some a5))),(10,(ii x6))],[H4,H5])) J J (fuel,[],([]:(List (Int×Bool))),0,none,0,[],a1,H1) [0,1,0] ⟨H,aj.nil,s1⟩ J J ?_))))));rintro k7 ⟨x4,x5,x6,a4,n4,H4,a5,H5⟩ ⟨Z1,s4,s5⟩;rw[pc.l0] at Z1;refine rc T 6 (cd J Z1 (λZ1=>?_) (λZ1=>?_))
 ·refine rc T 6 ?_;obtain⟨c3,Z1⟩:=az Z1;obtain⟨q6,o6,e6⟩:=dm.addr c3.1 c3.2;refine ix T J e6 c3 (bA J (fY T (cs:=[(ii (rd l x6).Id),(ii (rd l x6).Cell),(ii (rd l x6).Goal)]) J J J J J J (iy (k:=l6) (rO dm 0) e6 c3 J)) (nc T J (λb7=>sg T 3 J (ro T 6 (lf T 3 J (bA J (qu (k:=(rd l x6).Goal) T (Ky.int .i64 u3) (λx:Bool=>Value.bool x) J J J J J (o_ s5 (j:=2) J)) (ro T 3 (cb J Z1 (λZ1=>?_) (λZ1=>?_)))))))))
  ·refine rc T 4 (lf T 3 J (aV (qh (g:=2) (m:=x5) (k:=(rd l x6).Goal) (v:=true) T (Ky.int .i64 u3) (λx:Bool=>Value.bool x) J J J J J J J s5 (λH8 s8=>ro T 5 (lf T 3 J (aV (cW (k:=(Fl.int .i64)) T [(rd l x6).Goal] J J J J J J J J J (λa9 H9 s9=>?_))))))));obtain⟨c5,Z1⟩:=az Z1;refine aV (dQ (k:=(Fl.int .i64)) (xs:=x4) T (g:=1) J J J J J J J J J J s4 (oO s9 4) c5 J (λcC n10 bT bL=>ro T 2 (ke [3,4,8,9,10] [0,0,0] J J (rx T 7 (ar (_,_,_,_,_,_,_,_) [0,0,0] ⟨Z1,bL,s8⟩ J J)))))
  refine rc T 8 (ar (_,_,_,_,_,_,_,_) [0,0,0] ⟨Z1,s4,s5⟩ J J)
 refine rc T 12 ?_
 cases Z1;exact p1 T J [1,0] ⟨a4,n4,H4,s4,J,J⟩ J
def kA.l1:Nat->(List Int)->(List (Int×(List gw)))->List Int->List gw->Int->Option (List gw)
 |0,_,_,_,_,_=>none
 |KH+1,v17,bI,dL,qV,fb=>if fb<(aa v17:Int) then(if(0<=fb/\fb<(aa v17:Int)) then(if(¬(rd v17 fb)∈dL) then(if(aa qV+aa (aT bI (rd v17 fb))<=1099511627776) then(kA.l1 KH v17 bI ((rd v17 fb)::dL) (qV++(aT bI (rd v17 fb))) (af (fb+1))) else none) else none) else none) else(some qV)
def kA.l0:Nat->Int->Int->(List bD)->(List (Int×(List gw)))->(List ((Int×Int)×Int))->Int->Option (List gw)
 |0,_,_,_,_,_,_=>none
 |k8+1,w,h,l,x5,x6,x7=>if x7<(aa l:Int) then((if(0<=x7/\x7<(aa l:Int)) then((gG.f w h ((rd l x7).Cell)).bind λv12=>(if(!(ck x6 ((rd l x7).Goal,v12)))=true then(if(aa (aT x5 ((rd l x7).Goal))+1<=1099511627776) then(some ((cQ x5 ((rd l x7).Goal) ((aT x5 ((rd l x7).Goal))++[(gw.mk ((rd l x7).Goal) v12 [])])),(cQ x6 ((rd l x7).Goal,v12) (aa (aT x5 ((rd l x7).Goal)):Int)),(aa (aT x5 ((rd l x7).Goal)):Int))) else none) else(some (x5,x6,(aT x6 ((rd l x7).Goal,v12))))).bind λ(aP,bh,cn)=>if(0<=cn/\cn<(aa (aT aP ((rd l x7).Goal)):Int)) then(if(aa ((rd (aT aP ((rd l x7).Goal)) cn).kn)+1<=1099511627776) then(some ((ue aP ((rd l x7).Goal) (aD (aT aP ((rd l x7).Goal)) (ax cn) (gw.mk ((rd (aT aP ((rd l x7).Goal)) cn).Goal) ((rd (aT aP ((rd l x7).Goal)) cn).tA) ((rd (aT aP ((rd l x7).Goal)) cn).kn++[(rd l x7).Id])))),bh)) else none) else none) else none).bind λ(x9,aL)=>kA.l0 k8 w h l x9 aL (af (x7+1))) else((pc.f l).bind λv17=>kA.l1 fuel v17 x5 [] [] 0)
def kA.f (w:Int) (h:Int) (l:(List bD)):Option (List gw):=(pU.f w h l).bind λv1=>if(!v1)=true then(some []) else(kA.l0 fuel w h l ([]:(List (Int×(List gw)))) ([]:(List ((Int×Int)×Int))) 0)
def kA.R (r:(List gw)):bj:=λu G=> ∃a0 n0 H0,gT pV 120 r a0 n0 H0/\u=(ll a0 r n0)/\G=[H0]
theorem kA.c (H:kA.f w h l=some r) (dm:aO l6 l gZ F) (gj:aa l<=gX):
 QR 28 [(ii w),(ii h),(ll gZ l gX)] [] [] F (kA.R r):=by
 unfold kA.f at H;refine aF Tryz.func28 J J (λW=>rc T 11 (k [] J Tz H (pU.c · (rO dm 0) gj) (λv1 H=>ro T 3 (cb J H (λH=>?_) (λH=>?_)))))
 ·refine rc T 7 ?_
  cases H;refine bz (p1 T J [1,0] ⟨none,0,[],gT.nil,J,J⟩ J)
 refine rc T 4 (aV (vW T (Ky.int .i64 u3) vh J J J trivial (λa2 H2 s2=>ro T 5 (aV (vW T (Ky.pair T .i64 J J J lO u3) (λx:Int=>Value.int .i64 x) J J J trivial (λa3 H3 s3=>ro T 12 (lq [0,1,2,26,27] [0] (λ(⟨k8,x5,x6,x7,a6,H6,a7,H7⟩:Nat×(List (Int×(List gw)))×(List ((Int×Int)×Int))×Int×Nat×Hp×Nat×Hp)=>(kA.l0 k8 w h l x5 x6 x7=some r/\xt (gT pV 120) (Ky.int .i64 u3) [] x5 a6 H6/\db (Ky.pair T .i64 J J J lO u3) (λx:Int=>Value.int .i64 x) x6 a7 H7,[(7,(.map (some a6))),(8,(.map (some a7))),(28,(ii x7))],[H6,H7])) J J (fuel,([]:(List (Int×(List gw)))),([]:(List ((Int×Int)×Int))),0,a2,H2,a3,H3) [0,0,0] ⟨H,(afK (S:=(gT pV 120)) s2),s3⟩ J J ?_)))))));rintro k8 ⟨x5,x6,x7,a6,H6,a7,H7⟩ ⟨Z3,s6,s7⟩;rw[kA.l0] at Z3;refine rc T 6 (cd J Z3 (λZ3=>?_) (λZ3=>?_))
 ·refine rc T 2 (mq Z3 [0,1,2,26,27,28] [0] (λl8 (⟨x9,aL,a8,H8,a9,H9⟩:(List (Int×(List gw)))×(List ((Int×Int)×Int))×Nat×Hp×Nat×Hp)=>((x9,aL)=l8/\xt (gT pV 120) (Ky.int .i64 u3) [] x9 a8 H8/\db (Ky.pair T .i64 J J J lO u3) (λx:Int=>Value.int .i64 x) aL a9 H9,[(7,(.map (some a8))),(8,(.map (some a9)))],[H8,H9])) J J (λl8 Z5 _=>?_) ?_)
  ·refine rc T 3 ?_;obtain⟨c6,Z5⟩:=az Z5;obtain⟨K4,KY,qn⟩:=dm.addr c6.1 c6.2;refine ix T J qn c6 (bA J (fY T (cs:=[(ii (rd l x7).Id),(ii (rd l x7).Cell),(ii (rd l x7).Goal)]) J J J J J J (iy (k:=l6) (rO dm 0) qn c6 J)) (nc T J (λiN=>sg T 3 J (ro T 7 (lf T 3 J (k [] J sF Z5 (gG.c ·) (λv12 Z5=>ro T 6 (lf T 3 J (ro T 1 (bA J (Gf T J J J J J J) (nc T J (λlv=>sg T 4 J (ro T 5 (lm T 4 J (bA J (qu (k:=((rd l x7).Goal,v12)) T (Ky.pair T .i64 J J J lO u3) (λx:Int=>Value.int .i64 x) J J J J J (o_ s7 (j:=2) J)) (ro T 7 (mq Z5 [0,1,2,10,26,27,28] [0,2] (λIE (⟨aP,bh,cn,dh,dI,gU,fp⟩:(List (Int×(List gw)))×(List ((Int×Int)×Int))×Int×Nat×Hp×Nat×Hp)=>((aP,bh,cn)=IE/\xt (gT pV 120) (Ky.int .i64 u3) [] aP dh dI/\db (Ky.pair T .i64 J J J lO u3) (λx:Int=>Value.int .i64 x) bh gU fp,[(7,(.map (some dh))),(8,(.map (some gU))),(13,(ii cn))],[dI,fp])) J J (λIE Z8 _=>?_) ?_)))))))))))))))))
   ·refine rc T 6 (cb J Z8 (λZ8=>?_) (λZ8=>?_))
    ·refine rc T 4 (lf T 3 J (FT (j:=1) (gT.nil (kd:=pV) (E:=120)) ((rd l x7).Goal) bp J s6 (λjX n15 dP ft dS eB=>bA J (Gh (kx:=(rd l x7).Goal) (v:=(jX,aa (aT x5 ((rd l x7).Goal)),n15)) T (Ky.int .i64 u3) J J J J J (GY (j:=1) J eB)) (ro T 3 (Zj (j:=1) (q:=5) J eB J J dS J (λeU fL=>ke [0,1,2,7,8,10,11,12,13,26,27,28] [0,0,0,0,0] J J (rx T 4 (lm T 4 J (ro T 1 (aV (qh (g:=2) (m:=x6) (k:=((rd l x7).Goal,v12)) (v:=(aa (aT x5 ((rd l x7).Goal)):Int)) T (Ky.pair T .i64 J J J lO u3) (λx:Int=>Value.int .i64 x) J J J J J J J s7 (λfv fM=>ro T 2 (ke [0,1,2,7,8,10,11,13,26,27,28] [0,0,0,0] J J (fz J (rg [13] [0,1,1] mix (bH bG) (λhg pf=>ha T 12 [0,1] (so [0,1,1]) hg pf J (al T 2 2 (so [0,1,1]) hg pf J J J (ha T 9 [3,4] (so [0,1,1]) hg pf J (al T 5 2 (so [0,1,1]) hg pf J J J (ha T 7 [7] (so [0,1,1]) hg pf J (al T 8 2 (so [0,1,1]) hg pf J J J (ha T 4 [9,10] (so [0,1,1]) hg pf J (gK 6 11 ?_ ?_)))))))))))))))))))))))
     ·refine FT (j:=1) (gT.nil (kd:=pV) (E:=120)) ((rd l x7).Goal) bp J fL (λma n19 kH nI gP lL=>lT J (Gh (kx:=(rd l x7).Goal) (v:=(ma,aa (aT x5 ((rd l x7).Goal)),n19)) T (Ky.int .i64 u3) J J J J J (GY (j:=1) J lL)) (an (so [0,1,1]) (ao 11 (bz (gL [5] J (FR (kd:=pV) (E:=120) (q:=5) (c:=[(ii (rd l x7).Goal),(ii v12),nl]) T (gw.mk ((rd l x7).Goal) v12 []) J J J J J J J J J J ⟨none,0,[],(aj.nil (k:=(Fl.int .i64)) (E:=3)),J,J⟩ (λa23 jC gD=>an (so [0,1,1]) (ao 12 ?_))))))));obtain⟨iP,Z8⟩:=az Z8;refine FQ (kd:=pV) (xs:=(aT x5 ((rd l x7).Goal))) (ys:=[(gw.mk ((rd l x7).Goal) v12 [])]) T (g:=4) (q:=6) J J J J J J J J J J gP J J gD iP J (λa24 n24 qZ kZ=>an (so [0,1,1]) (ao 13 (QJ (q:=4) (kx:=(rd l x7).Goal) (ys:=((aT x5 ((rd l x7).Goal))++[(gw.mk ((rd l x7).Goal) v12 [])])) T (Ky.int .i64 u3) 1 J J J J J J J lL J J kZ (λir jQ=>an sl (ae (rx T 1 (am (_,_,_,_,_,_,_) [0,2,0,0] ⟨oi Z8,jQ,fM⟩ J J)))))))
     refine bz (gL [4] J (FR (kd:=pV) (E:=120) (q:=4) (c:=[(ii (rd l x7).Goal),(ii v12),nl]) T (gw.mk ((rd l x7).Goal) v12 []) J J J J J J J J J J ⟨none,0,[],(aj.nil (k:=(Fl.int .i64)) (E:=3)),J,J⟩ (λa28 vH kB=>an (so [0,1,1]) (ao 6 (FT (j:=1) (gT.nil (kd:=pV) (E:=120)) ((rd l x7).Goal) bp J fL (λzi n29 rY rZ rJ pW=>lT J (Gh (kx:=(rd l x7).Goal) (v:=(zi,aa (aT x5 ((rd l x7).Goal)),n29)) T (Ky.int .i64 u3) J J J J J (GY (j:=1) J pW)) (an (so [0,1,1]) (ao 12 ?_))))))));obtain⟨dK,Z8⟩:=az Z8;refine FQ (kd:=pV) (xs:=(aT x5 ((rd l x7).Goal))) (ys:=[(gw.mk ((rd l x7).Goal) v12 [])]) T (g:=6) (q:=5) J J J J J J J J J J rJ J J kB dK J (λa31 n31 BT Ae=>an (so [0,1,1]) (ao 13 (QJ (q:=6) (kx:=(rd l x7).Goal) (ys:=((aT x5 ((rd l x7).Goal))++[(gw.mk ((rd l x7).Goal) v12 [])])) T (Ky.int .i64 u3) 1 J J J J J J J pW J J Ae (λII Af=>an sl (ae (rx T 1 (am (_,_,_,_,_,_,_) [0,2,0,0] ⟨oi Z8,Af,fM⟩ J J)))))))
    refine rc T 2 (am (_,_,_,_,_,_,_) [0,2,0,0] ⟨oi Z8,s6,s7⟩ J J)
   rintro _ ⟨aP,bh,cn,dh,dI,gU,fp⟩ ⟨rfl,cY,fT⟩ Z5;refine rc T 4 (lf T 1 J (FT (j:=2) (gT.nil (kd:=pV) (E:=120)) ((rd l x7).Goal) bp J cY (λa33 n33 IJ vI wW yH=>bA J (Gh (kx:=(rd l x7).Goal) (v:=(a33,aa (aT aP ((rd l x7).Goal)),n33)) T (Ky.int .i64 u3) J J J J J (GY (j:=2) J yH)) (ro T 1 ?_))));obtain⟨gy,Z5⟩:=az Z5;obtain⟨q35,o35,MG⟩:=wW.r.addr gy.1 gy.2;refine ix T J MG gy (ro T 3 (Mc (j:=4) J wW gy (λ_ _ Fs o37 Dp=>?_)));obtain⟨AP,n36,AG,Dn,rfl,rfl⟩:=o37;refine Mf (ks [0,1,2,7,8,10,15,26,27,28] J (fz J (rg [8,11] [0,0,0,0,0,0] mix (bH bG) (λhg pf=>ha T 8 [0,1,2,3] sz hg pf J (av 4 sz hg pf J (cw T J J J J (CJ (j:=4) J (vS.cells Dp) MG 2 J)) (ha T 6 [5] sz hg pf J (al T 6 1 sz hg pf J J J (ao 7 (cW (k:=(Fl.int .i64)) T [(rd l x7).Id] J J J J J J J J J (λI3 AH Bq=>an (so [0,0,0,0,0,0]) (ao 8 ?_)))))))))));obtain⟨jn,Z5⟩:=az Z5;refine dQ (k:=(Fl.int .i64)) (xs:=(rd (aT aP ((rd l x7).Goal)) cn).kn) T (g:=5) J J J J J J J J J J Dn (oO Bq 6) jn J (λa39 n39 LL Br=>an sl (hb T 9 sl hg pf J (hb T 10 sl hg pf J (ao 11 (Md T 4 2 [(ii (rd (aT aP ((rd l x7).Goal)) cn).Goal),(ii (rd (aT aP ((rd l x7).Goal)) cn).tA),(ll a39 ((rd (aT aP ((rd l x7).Goal)) cn).kn++[(rd l x7).Id]) n39)] J J J J J J Dp MG J J J J (λLM ES=>an sl (ae (gL [5] J (Mb (j:=4) (q:=6) (gw.mk ((rd (aT aP ((rd l x7).Goal)) cn).Goal) ((rd (aT aP ((rd l x7).Goal)) cn).tA) ((rd (aT aP ((rd l x7).Goal)) cn).kn++[(rd l x7).Id])) J ES J J ⟨a39,n39,LL,Br,J,J⟩ (λgR uo=>QK (j:=2) (q:=4) (aD (aT aP ((rd l x7).Goal)) (ax cn) (gw.mk ((rd (aT aP ((rd l x7).Goal)) cn).Goal) ((rd (aT aP ((rd l x7).Goal)) cn).tA) ((rd (aT aP ((rd l x7).Goal)) cn).kn++[(rd l x7).Id]))) J yH J J uo (by simp only[nO]) (λFt Ag=>rx T 2 (am (_,_,_,_,_,_) [0,1,1] ⟨oi Z5,Ag,fT⟩ J J))))))))))))
  rintro _ ⟨x9,aL,a8,H8,a9,H9⟩ ⟨rfl,s8,s9⟩ Z3;refine rc T 5 (ar (_,_,_,_,_,_,_) [0,0,0] ⟨Z3,s8,s9⟩ J J)
 refine rc T 14 (kr pc.R [] [] J adC Z3 (pc.c · (rO dm 0) gj) (λv17 Z3=>?_));rintro _ _ ⟨a44,n44,XR,Dq,rfl,rfl⟩;refine fz J (ro T 5 (bz (lq [89,90] [0,2] (λ(⟨KH,bI,dL,qV,fb,I5,Fu,FE,n48,Fv⟩:Nat×(List (Int×(List gw)))×List Int×List gw×Int×Nat×Hp×Option Addr×Nat×Hp)=>(kA.l1 KH v17 bI dL qV fb=some r/\xt (gT pV 120) (Ky.int .i64 u3) dL bI I5 Fu/\gT pV 120 qV FE n48 Fv,[(7,(.map (some I5))),(16,(ll FE qV n48)),(91,(ii fb))],[Fu,Fv])) J J (fuel,x5,[],[],0,a6,H6,none,0,[]) [0,2,0,1] ⟨Z3,s6,gT.nil⟩ J J ?_)));rintro KH ⟨bI,dL,qV,fb,I5,Fu,FE,n48,Fv⟩ ⟨dC,HU,K_⟩;rw[kA.l1] at dC;refine rc T 6 (cd J dC (λdC=>?_) (λdC=>?_))
 ·refine rc T 6 ?_;obtain⟨lU,dC⟩:=az dC;obtain⟨q49,o49,RO⟩:=Dq.r.addr lU.1 lU.2;refine ix T J RO lU (le T 0 (oO Dq 1) RO lU J J (ro T 7 ?_));obtain⟨lV,dC⟩:=az dC;refine FT (j:=2) (gT.nil (kd:=pV) (E:=120)) (rd v17 fb) lV J HU (λa50 n50 XU XV Pw La=>bA J (Gh (kx:=(rd v17 fb)) (v:=(a50,aa (aT bI (rd v17 fb)),n50)) T (Ky.int .i64 u3) J J J J J (GY (j:=2) J La)) ?_);obtain⟨tK,dC⟩:=az dC;refine aV (FQ (kd:=pV) (xs:=qV) (ys:=(aT bI (rd v17 fb))) T (g:=3) (q:=4) J J J J J J J J J J K_ J J Pw tK J (λLW n52 LN ET=>ro T 2 (Zk (j:=2) J La (λXW Px=>rx T 7 (ar (_,_,_,_,_,_,_,_,_) [0,0,0,0] ⟨dC,Px,ET⟩ J J)))))
 refine rc T 12 ?_
 cases dC;exact p1 T J [3,0] ⟨FE,n48,Fv,K_,J,J⟩ J
end
noncomputable section
def Hg.f (dir:Int):Option Bool:=some ((decide (dir<0))||(decide (dir>5)))
theorem Hg.c (H:Hg.f dir=some r):
 QU 197 [(ii dir)] [] F (bb r):=by
 unfold Hg.f at H;refine aF Tryz.func197 J J (λW=>rc T 10 (go T [3,4,5] 5 [] 8 J J J J J J J (ro T 4 ?_)))
 cases H;exact p0 T J [0] J
def rP.l0:Nat->(List Int)->Int->Option Int
 |0,_,_=>none
 |k3+1,s,x2=>if x2<(aa s:Int) then(if(0<=x2/\x2<(aa s:Int)) then((Hg.f (rd s x2)).bind λv4=>if v4=true then(some x2) else(rP.l0 k3 s (af (x2+1)))) else none) else(some (-1))
def rP.f (s:(List Int)):Option Int:=rP.l0 fuel s 0
theorem rP.c (H:rP.f s=some r) (jJ:aO (Fl.int .i64) s ja F) (ss:aa s<=jg):
 QU 232 [(ll ja s jg),(.func (.func 197) #[] #[])] [] F (ii r):=by
 unfold rP.f at H;refine aF Tryz.func232 J J (λW=>rc T 14 (lq [0,1,7] [0] (λ(⟨k3,x2⟩:Nat×Int)=>(rP.l0 k3 s x2=some r,[(8,(ii x2))],[])) J J (fuel,0) [0] H J J ?_));rintro k3 x2 Z1;replace Z1:rP.l0 (k3+1) s x2=some r:=Z1;rw[rP.l0] at Z1;refine rc T 6 (cd J Z1 (λZ1=>?_) (λZ1=>?_))
 ·refine rc T 15 ?_;obtain⟨c3,Z1⟩:=az Z1;obtain⟨q1,o1,e1⟩:=jJ.addr c3.1 c3.2;refine ix T J e1 c3 (le T 0 (rO jJ 0) e1 c3 J J (k [] J acM Z1 (Hg.c ·) (λv4 Z1=>ro T 2 (cb J Z1 (λZ1=>?_) (λZ1=>?_)))))
  ·refine rc T 12 ?_
   cases Z1;exact p0 T J [0] J
  refine rc T 8 (ar _ [0] Z1 J J)
 refine rc T 11 ?_
 cases Z1;exact p0 T J [0] J
def Dz.f (s:(List Int)):Option Bool:=(rP.f s).bind λv1=>some (decide (v1≥0))
theorem Dz.c (H:Dz.f s=some r) (jJ:aO (Fl.int .i64) s ja F) (ss:aa s<=jg):
 QU 198 [(ll ja s jg),(.func (.func 197) #[] #[])] [] F (bb r):=by
 unfold Dz.f at H;refine aF Tryz.func198 J J (λW=>rc T 9 (k [] J ac8 H (rP.c · (rO jJ 0) ss) (λv1 H=>ro T 5 ?_)))
 cases H;exact p0 T J [0] J
def yh.f (ag:rD) (u:bD) (dir:Int):Option (Bool×rD×bD):=if(dir==0)=true then((nf.f ag.w ag.h u.Cell dir).bind λv1=>(if v1<0 then(some true) else(some (aT ag.kE v1))).bind λx2=>if x2=true then(some (true,ag,u)) else(if(aa ag.j8+1<=1099511627776) then(if(v1==u.Goal)=true then(if(aa ag.gone+1<=1099511627776) then(some (false,(rD.mk ag.w ag.h (f_ ag.kE u.Cell) (ag.j8++[(gv.mk u.Id v1)]) (ag.gone++[u.Id])),(bD.mk u.Id v1 u.Goal))) else none) else(some (true,(rD.mk ag.w ag.h (cQ (f_ ag.kE u.Cell) v1 true) (ag.j8++[(gv.mk u.Id v1)]) ag.gone),(bD.mk u.Id v1 u.Goal)))) else none)) else(if(dir==1)=true then((nf.f ag.w ag.h u.Cell dir).bind λv4=>(if v4<0 then(some true) else(some (aT ag.kE v4))).bind λx5=>if x5=true then(some (true,ag,u)) else(if(aa ag.j8+1<=1099511627776) then(if(v4==u.Goal)=true then(if(aa ag.gone+1<=1099511627776) then(some (false,(rD.mk ag.w ag.h (f_ ag.kE u.Cell) (ag.j8++[(gv.mk u.Id v4)]) (ag.gone++[u.Id])),(bD.mk u.Id v4 u.Goal))) else none) else(some (true,(rD.mk ag.w ag.h (cQ (f_ ag.kE u.Cell) v4 true) (ag.j8++[(gv.mk u.Id v4)]) ag.gone),(bD.mk u.Id v4 u.Goal)))) else none)) else(if(dir==2)=true then((nf.f ag.w ag.h u.Cell dir).bind λv7=>(if v7<0 then(some true) else(some (aT ag.kE v7))).bind λx8=>if x8=true then(some (true,ag,u)) else(if(aa ag.j8+1<=1099511627776) then(if(v7==u.Goal)=true then(if(aa ag.gone+1<=1099511627776) then(some (false,(rD.mk ag.w ag.h (f_ ag.kE u.Cell) (ag.j8++[(gv.mk u.Id v7)]) (ag.gone++[u.Id])),(bD.mk u.Id v7 u.Goal))) else none) else(some (true,(rD.mk ag.w ag.h (cQ (f_ ag.kE u.Cell) v7 true) (ag.j8++[(gv.mk u.Id v7)]) ag.gone),(bD.mk u.Id v7 u.Goal)))) else none)) else(if(dir==3)=true then((nf.f ag.w ag.h u.Cell dir).bind λv10=>(if v10<0 then(some true) else(some (aT ag.kE v10))).bind λa_=>if a_=true then(some (true,ag,u)) else(if(aa ag.j8+1<=1099511627776) then(if(v10==u.Goal)=true then(if(aa ag.gone+1<=1099511627776) then(some (false,(rD.mk ag.w ag.h (f_ ag.kE u.Cell) (ag.j8++[(gv.mk u.Id v10)]) (ag.gone++[u.Id])),(bD.mk u.Id v10 u.Goal))) else none) else(some (true,(rD.mk ag.w ag.h (cQ (f_ ag.kE u.Cell) v10 true) (ag.j8++[(gv.mk u.Id v10)]) ag.gone),(bD.mk u.Id v10 u.Goal)))) else none)) else(some (true,ag,u)))))
def yh.R (aW:Nat) (e_:Nat) (r:(Bool×rD×bD)):bj:=λu G=> ∃(a0:Nat) (H0:Hp) (a1 n1 H1:_) (a2 n2 H2:_),db (Ky.int .i64 u3) (λx:Bool=>Value.bool x) r.2.1.kE a0 H0/\aj jM 94 r.2.1.j8 a1 n1 H1/\aj (Fl.int .i64) 3 r.2.1.gone a2 n2 H2/\u=(bb r.1)/\G=[(cl aW 309 [(ii r.2.1.w),(ii r.2.1.h),(.map (some a0)),(ll a1 r.2.1.j8 n1),(ll a2 r.2.1.gone n2)]),H0,H1,H2,(cl e_ 67 [(ii r.2.2.Id),(ii r.2.2.Cell),(ii r.2.2.Goal)])]
theorem yh.c (H:yh.f ag u dir=some r) (uw:db (Ky.int .i64 u3) (λx:Bool=>Value.bool x) ag.kE sk DP) (Aj:aj jM 94 ag.j8 DW EF DO) (uv:aj (Fl.int .i64) 3 ag.gone xx ym xp):
 QR 199 [(pp aW),(pp e_),(ii dir)] [(cl aW 309 [(ii ag.w),(ii ag.h),(.map (some sk)),(ll DW ag.j8 EF),(ll xx ag.gone ym)]),DP,DO,xp,(cl e_ 67 [(ii u.Id),(ii u.Cell),(ii u.Goal)])] [] F (yh.R aW e_ r):=by
 unfold yh.f at H;refine aF Tryz.func199 J J (λW=>rc T 25 (cb J H (λH=>?_) (λH=>?_)))
 ·refine rc T 10 (dw mix aB (au T J (au T J (au T J (cD T 0 J J J (au T J (au T J (au T J (cD T 0 J J J (au T J (au T J (au T J (cD T 4 J J J (au T J ?_))))))))))))));obtain⟨v1,V2,H⟩:=gx H;refine uU J J J J J J A9 J (nf.c V2) (au T J (cO (rx T 2 (mq H [0,1,7] [5,0,0,0,0,0] (λz3 (x2:Bool)=>(x2=z3,[(40,(bb x2))],[])) J J (λz3 Z3 _=>?_) ?_))))
  ·refine rc T 4 (ad 33 J Z3 (λZ3=>?_) (λZ3=>?_))
   ·refine ro T 9 (am _ [5,0,0,0,0,0] (oi Z3) J J)
   refine ro T 3 (lf T 0 J (ro T 1 (bA J (qu (k:=v1) T (Ky.int .i64 u3) (λx:Bool=>Value.bool x) J J J J J (o_ uw (j:=1) J)) (ro T 3 (am _ [5,0,0,0,0,0] (oi Z3) J J)))))
  rintro _ x2 rfl H;refine cb J H (λH=>?_) (λH=>?_)
  ·refine rc T 10 ?_
   cases H;exact p1 T J [1,1,1,1,1,0] ⟨sk,DP,DW,EF,DO,xx,ym,xp,uw,Aj,uv,J,J⟩ J
  refine rc T 3 (fz J (rz [8] mix (bH bG) (λhg pf=>ha T 6 [0,1,2] sz hg pf J (al T 3 1 sz hg pf J J J (ha T 2 [4,5,6] sz hg pf J (al T 7 5 sz hg pf J J J (ao 8 (DZ (g:=2) (m:=ag.kE) (k:=u.Cell) T (Ky.int .i64 u3) (λx:Bool=>Value.bool x) J J J J J J J J uw (λH6 s6=>an sl (ae (rx T 7 (sg T 5 J (ro T 3 (ks [0,1,7] J (fz J (rg [12,15] [0,0,0,0,0,0] mix (bH bG) (λhg pf=>ha T 12 [0,1,2,3] sz hg pf J (al T 4 1 sz hg pf J J J (ha T 8 [5,6,7] sz hg pf J (al T 8 5 sz hg pf J J J (ha T 5 [9,10] sz hg pf J (ao 11 (cW (k:=jM) T [(gv.mk u.Id v1)] J J J J J J J J J (λa7 H7 s7=>an (so [0,0,0,0,0,0]) (ao 12 ?_)))))))))))))))))))))))));obtain⟨c6,H⟩:=az H;refine dQ (k:=jM) (xs:=ag.j8) T (g:=3) J J J J J J J J J J Aj (oO s7 6) c6 J (λa8 n8 H8 s8=>an sl (hb T 13 sl hg pf J (hb T 14 sl hg pf J (ao 15 (sf T 1 J (an sl (ae (rx T 1 (rc T 7 (lf T 5 J (ro T 3 (cb J H (λH=>?_) (λH=>?_)))))))))))))
  ·refine rc T 1 (ke [0,1] [0,0,0,0,0,0] J J (fz J (rg [10,13] [0,0,0,0,0,0] mix (bH bG) (λhg pf=>ha T 10 [0,1,2,3] sz hg pf J (al T 4 1 sz hg pf J J J (ha T 6 [5,6,7] sz hg pf J (al T 8 5 sz hg pf J J J (ao 9 (cW (k:=(Fl.int .i64)) T [u.Id] J J J J J J J J J (λa9 H9 s9=>an (so [0,0,0,0,0,0]) (ao 10 ?_)))))))))));obtain⟨c8,H⟩:=az H;refine dQ (k:=(Fl.int .i64)) (xs:=ag.gone) T (g:=4) J J J J J J J J J J uv (oO s9 6) c8 J (λcC n10 bT bL=>an sl (hb T 11 sl hg pf J (hb T 12 sl hg pf J (ao 13 (sf T 1 J (an sl (ae (rx T 1 (rc T 10 ?_)))))))))
   cases H;exact p1 T J [1,1,1,1,1,0] ⟨sk,H6,a8,n8,H8,cC,n10,bT,s6,s8,bL,J,J⟩ J
  refine rc T 6 (lf T 1 J (ro T 1 (aV (qh (g:=2) (m:=(f_ ag.kE u.Cell)) (k:=v1) (v:=true) T (Ky.int .i64 u3) (λx:Bool=>Value.bool x) J J J J J J J s6 (λcH cX=>ro T 11 ?_)))))
  cases H;exact p1 T J [1,1,1,1,1,0] ⟨sk,cH,a8,n8,H8,xx,ym,xp,cX,s8,uv,J,J⟩ J
 refine rc T 9 (cb J H (λH=>?_) (λH=>?_))
 ·refine rc T 10 (dw mix aB (au T J (au T J (au T J (cD T 0 J J J (au T J (au T J (au T J (cD T 0 J J J (au T J (au T J (au T J (cD T 4 J J J (au T J ?_))))))))))))));obtain⟨v4,Ym,H⟩:=gx H;refine uU J J J J J J A9 J (nf.c Ym) (au T J (cO (rx T 2 (mq H [0,1,7] [5,0,0,0,0,0] (λz6 (x5:Bool)=>(x5=z6,[(40,(bb x5))],[])) J J (λz6 aY _=>?_) ?_))))
  ·refine rc T 4 (ad 33 J aY (λaY=>?_) (λaY=>?_))
   ·refine ro T 9 (am _ [5,0,0,0,0,0] (oi aY) J J)
   refine ro T 3 (lf T 0 J (ro T 1 (bA J (qu (k:=v4) T (Ky.int .i64 u3) (λx:Bool=>Value.bool x) J J J J J (o_ uw (j:=1) J)) (ro T 3 (am _ [5,0,0,0,0,0] (oi aY) J J)))))
  rintro _ x5 rfl H;refine cb J H (λH=>?_) (λH=>?_)
  ·refine rc T 10 ?_
   cases H;exact p1 T J [1,1,1,1,1,0] ⟨sk,DP,DW,EF,DO,xx,ym,xp,uw,Aj,uv,J,J⟩ J
  refine rc T 3 (fz J (rz [8] mix (bH bG) (λhg pf=>ha T 6 [0,1,2] sz hg pf J (al T 3 1 sz hg pf J J J (ha T 2 [4,5,6] sz hg pf J (al T 7 5 sz hg pf J J J (ao 8 (DZ (g:=2) (m:=ag.kE) (k:=u.Cell) T (Ky.int .i64 u3) (λx:Bool=>Value.bool x) J J J J J J J J uw (λdq dE=>an sl (ae (rx T 7 (sg T 5 J (ro T 3 (ks [0,1,7] J (fz J (rg [12,15] [0,0,0,0,0,0] mix (bH bG) (λhg pf=>ha T 12 [0,1,2,3] sz hg pf J (al T 4 1 sz hg pf J J J (ha T 8 [5,6,7] sz hg pf J (al T 8 5 sz hg pf J J J (ha T 5 [9,10] sz hg pf J (ao 11 (cW (k:=jM) T [(gv.mk u.Id v4)] J J J J J J J J J (λdh dI cY=>an (so [0,0,0,0,0,0]) (ao 12 ?_)))))))))))))))))))))))));obtain⟨jo,H⟩:=az H;refine dQ (k:=jM) (xs:=ag.j8) T (g:=3) J J J J J J J J J J Aj (oO cY 6) jo J (λgU n14 fp fT=>an sl (hb T 13 sl hg pf J (hb T 14 sl hg pf J (ao 15 (sf T 1 J (an sl (ae (rx T 1 (rc T 7 (lf T 5 J (ro T 3 (cb J H (λH=>?_) (λH=>?_)))))))))))))
  ·refine rc T 1 (ke [0,1] [0,0,0,0,0,0] J J (fz J (rg [10,13] [0,0,0,0,0,0] mix (bH bG) (λhg pf=>ha T 10 [0,1,2,3] sz hg pf J (al T 4 1 sz hg pf J J J (ha T 6 [5,6,7] sz hg pf J (al T 8 5 sz hg pf J J J (ao 9 (cW (k:=(Fl.int .i64)) T [u.Id] J J J J J J J J J (λjX dP dS=>an (so [0,0,0,0,0,0]) (ao 10 ?_)))))))))));obtain⟨qj,H⟩:=az H;refine dQ (k:=(Fl.int .i64)) (xs:=ag.gone) T (g:=4) J J J J J J J J J J uv (oO dS 6) qj J (λiu n16 ft eB=>an sl (hb T 11 sl hg pf J (hb T 12 sl hg pf J (ao 13 (sf T 1 J (an sl (ae (rx T 1 (rc T 10 ?_)))))))))
   cases H;exact p1 T J [1,1,1,1,1,0] ⟨sk,dq,gU,n14,fp,iu,n16,ft,dE,fT,eB,J,J⟩ J
  refine rc T 6 (lf T 1 J (ro T 1 (aV (qh (g:=2) (m:=(f_ ag.kE u.Cell)) (k:=v4) (v:=true) T (Ky.int .i64 u3) (λx:Bool=>Value.bool x) J J J J J J J dE (λeU fL=>ro T 11 ?_)))))
  cases H;exact p1 T J [1,1,1,1,1,0] ⟨sk,eU,gU,n14,fp,xx,ym,xp,fL,fT,uv,J,J⟩ J
 refine rc T 9 (cb J H (λH=>?_) (λH=>?_))
 ·refine rc T 10 (dw mix aB (au T J (au T J (au T J (cD T 0 J J J (au T J (au T J (au T J (cD T 0 J J J (au T J (au T J (au T J (cD T 4 J J J (au T J ?_))))))))))))));obtain⟨v7,Qp,H⟩:=gx H;refine uU J J J J J J A9 J (nf.c Qp) (au T J (cO (rx T 2 (mq H [0,1,7] [5,0,0,0,0,0] (λz9 (x8:Bool)=>(x8=z9,[(40,(bb x8))],[])) J J (λz9 fh _=>?_) ?_))))
  ·refine rc T 4 (ad 33 J fh (λfh=>?_) (λfh=>?_))
   ·refine ro T 9 (am _ [5,0,0,0,0,0] (oi fh) J J)
   refine ro T 3 (lf T 0 J (ro T 1 (bA J (qu (k:=v7) T (Ky.int .i64 u3) (λx:Bool=>Value.bool x) J J J J J (o_ uw (j:=1) J)) (ro T 3 (am _ [5,0,0,0,0,0] (oi fh) J J)))))
  rintro _ x8 rfl H;refine cb J H (λH=>?_) (λH=>?_)
  ·refine rc T 10 ?_
   cases H;exact p1 T J [1,1,1,1,1,0] ⟨sk,DP,DW,EF,DO,xx,ym,xp,uw,Aj,uv,J,J⟩ J
  refine rc T 3 (fz J (rz [8] mix (bH bG) (λhg pf=>ha T 6 [0,1,2] sz hg pf J (al T 3 1 sz hg pf J J J (ha T 2 [4,5,6] sz hg pf J (al T 7 5 sz hg pf J J J (ao 8 (DZ (g:=2) (m:=ag.kE) (k:=u.Cell) T (Ky.int .i64 u3) (λx:Bool=>Value.bool x) J J J J J J J J uw (λfv fM=>an sl (ae (rx T 7 (sg T 5 J (ro T 3 (ks [0,1,7] J (fz J (rg [12,15] [0,0,0,0,0,0] mix (bH bG) (λhg pf=>ha T 12 [0,1,2,3] sz hg pf J (al T 4 1 sz hg pf J J J (ha T 8 [5,6,7] sz hg pf J (al T 8 5 sz hg pf J J J (ha T 5 [9,10] sz hg pf J (ao 11 (cW (k:=jM) T [(gv.mk u.Id v7)] J J J J J J J J J (λma kH gP=>an (so [0,0,0,0,0,0]) (ao 12 ?_)))))))))))))))))))))))));obtain⟨pC,H⟩:=az H;refine dQ (k:=jM) (xs:=ag.j8) T (g:=3) J J J J J J J J J J Aj (oO gP 6) pC J (λa20 n20 nI lL=>an sl (hb T 13 sl hg pf J (hb T 14 sl hg pf J (ao 15 (sf T 1 J (an sl (ae (rx T 1 (rc T 7 (lf T 5 J (ro T 3 (cb J H (λH=>?_) (λH=>?_)))))))))))))
  ·refine rc T 1 (ke [0,1] [0,0,0,0,0,0] J J (fz J (rg [10,13] [0,0,0,0,0,0] mix (bH bG) (λhg pf=>ha T 10 [0,1,2,3] sz hg pf J (al T 4 1 sz hg pf J J J (ha T 6 [5,6,7] sz hg pf J (al T 8 5 sz hg pf J J J (ao 9 (cW (k:=(Fl.int .i64)) T [u.Id] J J J J J J J J J (λa21 ln jA=>an (so [0,0,0,0,0,0]) (ao 10 ?_)))))))))));obtain⟨uZ,H⟩:=az H;refine dQ (k:=(Fl.int .i64)) (xs:=ag.gone) T (g:=4) J J J J J J J J J J uv (oO jA 6) uZ J (λa22 n22 mz iz=>an sl (hb T 11 sl hg pf J (hb T 12 sl hg pf J (ao 13 (sf T 1 J (an sl (ae (rx T 1 (rc T 10 ?_)))))))))
   cases H;exact p1 T J [1,1,1,1,1,0] ⟨sk,fv,a20,n20,nI,a22,n22,mz,fM,lL,iz,J,J⟩ J
  refine rc T 6 (lf T 1 J (ro T 1 (aV (qh (g:=2) (m:=(f_ ag.kE u.Cell)) (k:=v7) (v:=true) T (Ky.int .i64 u3) (λx:Bool=>Value.bool x) J J J J J J J fM (λjC gD=>ro T 11 ?_)))))
  cases H;exact p1 T J [1,1,1,1,1,0] ⟨sk,jC,a20,n20,nI,xx,ym,xp,gD,lL,uv,J,J⟩ J
 refine rc T 8 (cb J H (λH=>?_) (λH=>?_))
 ·refine rc T 9 (dw mix aB (au T J (au T J (au T J (cD T 0 J J J (au T J (au T J (au T J (cD T 0 J J J (au T J (au T J (au T J (cD T 4 J J J (au T J ?_))))))))))))));obtain⟨v10,Yo,H⟩:=gx H;refine uU J J J J J J A9 J (nf.c Yo) (au T J (cO (rx T 2 (mq H [0,1,7] [5,0,0,0,0,0] (λz12 (a_:Bool)=>(a_=z12,[(40,(bb a_))],[])) J J (λz12 FC _=>?_) ?_))))
  ·refine rc T 4 (ad 33 J FC (λFC=>?_) (λFC=>?_))
   ·refine ro T 9 (am _ [5,0,0,0,0,0] (oi FC) J J)
   refine ro T 3 (lf T 0 J (ro T 1 (bA J (qu (k:=v10) T (Ky.int .i64 u3) (λx:Bool=>Value.bool x) J J J J J (o_ uw (j:=1) J)) (ro T 3 (am _ [5,0,0,0,0,0] (oi FC) J J)))))
  rintro _ a_ rfl H;refine cb J H (λH=>?_) (λH=>?_)
  ·refine rc T 10 ?_
   cases H;exact p1 T J [1,1,1,1,1,0] ⟨sk,DP,DW,EF,DO,xx,ym,xp,uw,Aj,uv,J,J⟩ J
  refine rc T 3 (fz J (rz [8] mix (bH bG) (λhg pf=>ha T 6 [0,1,2] sz hg pf J (al T 3 1 sz hg pf J J J (ha T 2 [4,5,6] sz hg pf J (al T 7 5 sz hg pf J J J (ao 8 (DZ (g:=2) (m:=ag.kE) (k:=u.Cell) T (Ky.int .i64 u3) (λx:Bool=>Value.bool x) J J J J J J J J uw (λqZ kZ=>an sl (ae (rx T 7 (sg T 5 J (ro T 3 (ks [0,1,7] J (fz J (rg [12,15] [0,0,0,0,0,0] mix (bH bG) (λhg pf=>ha T 12 [0,1,2,3] sz hg pf J (al T 4 1 sz hg pf J J J (ha T 8 [5,6,7] sz hg pf J (al T 8 5 sz hg pf J J J (ha T 5 [9,10] sz hg pf J (ao 11 (cW (k:=jM) T [(gv.mk u.Id v10)] J J J J J J J J J (λa25 ir jQ=>an (so [0,0,0,0,0,0]) (ao 12 ?_)))))))))))))))))))))))));obtain⟨Ch,H⟩:=az H;refine dQ (k:=jM) (xs:=ag.j8) T (g:=3) J J J J J J J J J J Aj (oO jQ 6) Ch J (λa26 n26 po ot=>an sl (hb T 13 sl hg pf J (hb T 14 sl hg pf J (ao 15 (sf T 1 J (an sl (ae (rx T 1 (rc T 7 (lf T 5 J (ro T 3 (cb J H (λH=>?_) (λH=>?_)))))))))))))
  ·refine rc T 1 (ke [0,1] [0,0,0,0,0,0] J J (fz J (rg [10,13] [0,0,0,0,0,0] mix (bH bG) (λhg pf=>ha T 10 [0,1,2,3] sz hg pf J (al T 4 1 sz hg pf J J J (ha T 6 [5,6,7] sz hg pf J (al T 8 5 sz hg pf J J J (ao 9 (cW (k:=(Fl.int .i64)) T [u.Id] J J J J J J J J J (λI2 Fq wV=>an (so [0,0,0,0,0,0]) (ao 10 ?_)))))))))));obtain⟨F3,H⟩:=az H;refine dQ (k:=(Fl.int .i64)) (xs:=ag.gone) T (g:=4) J J J J J J J J J J uv (oO wV 6) F3 J (λa28 n28 vH kB=>an sl (hb T 11 sl hg pf J (hb T 12 sl hg pf J (ao 13 (sf T 1 J (an sl (ae (rx T 1 (rc T 10 ?_)))))))))
   cases H;exact p1 T J [1,1,1,1,1,0] ⟨sk,qZ,a26,n26,po,a28,n28,vH,kZ,ot,kB,J,J⟩ J
  refine rc T 6 (lf T 1 J (ro T 1 (aV (qh (g:=2) (m:=(f_ ag.kE u.Cell)) (k:=v10) (v:=true) T (Ky.int .i64 u3) (λx:Bool=>Value.bool x) J J J J J J J kZ (λrY rJ=>ro T 11 ?_)))))
  cases H;exact p1 T J [1,1,1,1,1,0] ⟨sk,rY,a26,n26,po,xx,ym,xp,rJ,ot,uv,J,J⟩ J
 refine rc T 16 ?_
 cases H;exact p1 T J [0,0,0,0,0,0] ⟨sk,DP,DW,EF,DO,xx,ym,xp,uw,Aj,uv,J,J⟩ J
def j7.l1:Nat->Int->Int->(List bD)->(List Int)->List bD->Int->Int->(List (Int×Bool))->List gv->List Int->Int->Option ((List bD)×(List gv)×(List Int)×Int)
 |0,_,_,_,_,_,_,_,_,_,_,_=>none
 |pM+1,w,h,l,hJ,cM,c_,dA,il,eQ,bI,dL=>if dL<(aa l:Int) then(if(0<=dL/\dL<(aa l:Int)) then(if(0<=dL/\dL<(aa hJ:Int)) then((yh.f (rD.mk c_ dA il eQ bI) (rd l dL) (rd hJ dL)).bind λv25=>if v25.1=true then(if(aa cM+1<=1099511627776) then(j7.l1 pM w h l hJ (cM++[v25.2.2]) v25.2.1.w v25.2.1.h v25.2.1.kE v25.2.1.j8 v25.2.1.gone (af (dL+1))) else none) else(j7.l1 pM w h l hJ cM v25.2.1.w v25.2.1.h v25.2.1.kE v25.2.1.j8 v25.2.1.gone (af (dL+1)))) else none) else none) else(some (cM,eQ,bI,0))
def j7.l0:Nat->Int->Int->(List bD)->(List Int)->(List (Int×Bool))->Int->Option ((List bD)×(List gv)×(List Int)×Int)
 |0,_,_,_,_,_,_=>none
 |k9+1,w,h,l,hJ,x7,x8=>if x8<(aa l:Int) then(if(0<=x8/\x8<(aa l:Int)) then(j7.l0 k9 w h l hJ (cQ x7 ((rd l x8).Cell) true) (af (x8+1))) else none) else(j7.l1 fuel w h l hJ [] w h x7 [] [] 0)
def j7.f (w:Int) (h:Int) (l:(List bD)) (hJ:(List Int)):Option ((List bD)×(List gv)×(List Int)×Int):=((pU.f w h l).bind λv3=>if((!v3)||((aa hJ:Int)!=(aa l:Int)))=true then(some true) else((Dz.f hJ).bind λv4=>some v4)).bind λx1=>if x1=true then(some ([],[],[],1)) else(j7.l0 fuel w h l hJ ([]:(List (Int×Bool))) 0)
def j7.R (r:((List bD)×(List gv)×(List Int)×Int)):bj:=λu G=> ∃a0 n0 H0 a1 n1 H1 a2 n2 H2,aj l6 67 r.1 a0 n0 H0/\aj jM 94 r.2.1 a1 n1 H1/\aj (Fl.int .i64) 3 r.2.2.1 a2 n2 H2/\u=(.tuple #[(ll a0 r.1 n0),(ll a1 r.2.1 n1),(ll a2 r.2.2.1 n2),(ii r.2.2.2)])/\G=[H0,H1,H2]
theorem j7.c (H:j7.f w h l hJ=some r) (dm:aO l6 l gZ F) (gj:aa l<=gX) (Gs:aO (Fl.int .i64) hJ LY F) (Mr:aa hJ<=OQ):
 QR 166 [(ii w),(ii h),(ll gZ l gX),(ll LY hJ OQ)] [] [] F (j7.R r):=by
 unfold j7.f at H;refine aF Tryz.func166 J J (λW=>rc T 14 (mq H [0,1,2,3,8] [0] (λz2 (x1:Bool)=>(x1=z2,[(34,(bb x1))],[])) J J (λz2 Z1 _=>?_) ?_))
 ·refine rc T 4 (k [] J Tz Z1 (pU.c · (rO dm 0) gj) (λv3 Z1=>ro T 2 (go T [6,7,8,9,10,11] 23 [0,1,2,3,8,12] 29 J J J J J J J (ro T 1 (ab 30 J Z1 (λZ1=>?_) (λZ1=>?_))))))
  ·refine ro T 6 (am _ [0] (oi Z1) J J)
  refine ro T 2 (k [] J acN Z1 (Dz.c · (rO Gs 0) Mr) (λv4 Z1=>ro T 3 (am _ [0] (oi Z1) J J)))
 rintro _ x1 rfl H;refine cb J H (λH=>?_) (λH=>?_)
 ·refine rc T 10 ?_
  cases H;refine bz (bz (bz (p1 T J [1,1,1,0] ⟨none,0,[],none,0,[],none,0,[],aj.nil,aj.nil,aj.nil,J,J⟩ J)))
 refine rc T 8 (aV (vW T (Ky.int .i64 u3) (λx:Bool=>Value.bool x) J J J ⟨_,_,J⟩ (λa4 H4 s4=>ro T 1 (nc T J (λb5=>ro T 12 (lq [2,3,8,13,42,43] [0] (λ(⟨k9,x7,x8,a7,H7⟩:Nat×(List (Int×Bool))×Int×Nat×Hp)=>(j7.l0 k9 w h l hJ x7 x8=some r/\db (Ky.int .i64 u3) (λx:Bool=>Value.bool x) x7 a7 H7,[(44,(ii x8))],[(cl b5 309 [(ii w),(ii h),(.map (some a7)),nl,nl]),H7])) J J (fuel,([]:(List (Int×Bool))),0,a4,H4) [0,1,0] ⟨H,s4⟩ J J ?_))))));rintro k9 ⟨x7,x8,a7,H7⟩ ⟨Z6,s7⟩;rw[j7.l0] at Z6;refine rc T 6 (cd J Z6 (λZ6=>?_) (λZ6=>?_))
 ·refine rc T 6 ?_;obtain⟨c8,Z6⟩:=az Z6;obtain⟨q8,o8,e8⟩:=dm.addr c8.1 c8.2;refine ix T J e8 c8 (bA J (fY T (cs:=[(ii (rd l x8).Id),(ii (rd l x8).Cell),(ii (rd l x8).Goal)]) J J J J J J (iy (k:=l6) (rO dm 0) e8 c8 J)) (nc T J (λb9=>sg T 3 J (ro T 2 (ks [2,3,8,13,15,42,43,44] J (fz J (rz [6] mix (bH bG) (λhg pf=>ha T 4 [0,1,2] sz hg pf J (al T 3 1 sz hg pf J J J (ha T 2 [4] sz hg pf J (al T 5 3 sz hg pf J J J (ao 6 (qh (g:=2) (m:=x7) (k:=(rd l x8).Cell) (v:=true) T (Ky.int .i64 u3) (λx:Bool=>Value.bool x) J J J J J J J s7 (λbT bL=>an sl (ae (rx T 7 (ar (_,_,_,_) [0,0,0] ⟨Z6,bL⟩ J J)))))))))))))))))
 refine rc T 14 (bz (bz (bz (lq [3,13,55,56] [0] (λ(⟨pM,cM,c_,dA,il,eQ,bI,dL,jX,n15,dP,iu,ft,a17,n17,eU,jl,n18,fv⟩:Nat×List bD×Int×Int×(List (Int×Bool))×List gv×List Int×Int×Option Addr×Nat×Hp×Nat×Hp×Option Addr×Nat×Hp×Option Addr×Nat×Hp)=>(j7.l1 pM w h l hJ cM c_ dA il eQ bI dL=some r/\aj l6 67 cM jX n15 dP/\db (Ky.int .i64 u3) (λx:Bool=>Value.bool x) il iu ft/\aj jM 94 eQ a17 n17 eU/\aj (Fl.int .i64) 3 bI jl n18 fv,[(8,(ll jX cM n15)),(57,(ii dL))],[dP,(cl b5 309 [(ii c_),(ii dA),(.map (some iu)),(ll a17 eQ n17),(ll jl bI n18)]),ft,eU,fv])) J J (fuel,[],w,h,x7,[],[],0,none,0,[],a7,H7,none,0,[],none,0,[]) [0,2,0,0,0,0] ⟨Z6,aj.nil,s7,aj.nil,aj.nil⟩ J J ?_))));rintro pM ⟨cM,c_,dA,il,eQ,bI,dL,jX,n15,dP,iu,ft,a17,n17,eU,jl,n18,fv⟩ ⟨Z9,dS,eB,fL,fM⟩;rw[j7.l1] at Z9;refine rc T 6 (cd J Z9 (λZ9=>?_) (λZ9=>?_))
 ·refine rc T 7 ?_;obtain⟨dK,Z9⟩:=az Z9;obtain⟨Wb,Vt,u7⟩:=dm.addr dK.1 dK.2;refine ix T J u7 dK (bA J (fY T (cs:=[(ii (rd l dL).Id),(ii (rd l dL).Cell),(ii (rd l dL).Goal)]) J J J J J J (iy (k:=l6) (rO dm 0) u7 dK J)) (nc T J (λJg=>ro T 1 (sg T 6 J (ro T 7 ?_)))));obtain⟨gy,Z9⟩:=az Z9;obtain⟨Dg,Vv,A5⟩:=Gs.addr gy.1 gy.2;refine ix T J A5 gy (le T 0 (rO Gs 0) A5 gy J J (kr (yh.R b5 Jg) [] [2,2,2,2,2] J acO Z9 (yh.c (ag:=(rD.mk c_ dA il eQ bI)) · eB fL fM) (λv25 Z9=>?_)));rintro _ _ ⟨a22,mz,a23,n23,jC,a24,n24,qZ,iz,gD,kZ,rfl,rfl⟩;refine fz J (ro T 2 (cb J Z9 (λZ9=>?_) (λZ9=>?_)))
  ·refine rc T 2 (lm T 6 J (aV (cW (k:=l6) T [v25.2.2] J J J J J J J J J (λa25 ir jQ=>?_))));obtain⟨zs,Z9⟩:=az Z9;refine aV (dQ (k:=l6) (xs:=cM) T (g:=1) J J J J J J J J J J dS (oO jQ 7) zs J (λa26 n26 po ot=>ro T 2 (ke [3,8,13,55,56,57] [0,0,0,0,0,0] J J (rx T 7 (ar (_,_,_,_,_,_,_,_,_,_,_,_,_,_,_,_,_,_) [0,0,0,0,0,0] ⟨Z9,ot,iz,gD,kZ⟩ J J)))))
  refine rc T 8 (ar (_,_,_,_,_,_,_,_,_,_,_,_,_,_,_,_,_,_) [0,0,0,0,0,0] ⟨Z9,dS,iz,gD,kZ⟩ J J)
 refine rc T 6 (dw mix aB ?_)
 iterate 4 refine au T J ?_
 refine cD T 2 J J J (au T J (au T J (au T J (cD T 2 J J J ?_))))
 iterate 4 refine au T J ?_
 refine cO (rx T 2 ?_)
 cases Z9;exact p1 T J [1,3,3,0] ⟨jX,n15,dP,a17,n17,eU,jl,n18,fv,dS,fL,fM,J,J⟩ J
end
end Go.Proofs.YthodkonhneebbaaGreatDoor
