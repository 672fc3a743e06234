/- What the functions of some packages compute, each as a function of plain Lean, with its contract. No condition. -/
import Derived.Test.YthodkonhneebbaaGreatDoorKDT
import Derived.Test.YthodkonhneebbaaGreatDoorKD5
namespace Go.Proofs.YthodkonhneebbaaGreatDoor
open Go.Hx
set_option maxRecDepth 100000
set_option linter.unusedSimpArgs false
set_option linter.unusedVariables false
set_option maxHeartbeats 4000000
set_option autoImplicit true
set_option relaxedAutoImplicit true
noncomputable section
def mS.f (ag:eQ) (n:Int):Option ((List Int)×Er×eQ):=if(aa ((List.length ag.b:Int)-ag.ba))<n then(some ([],(Er.eh 6),ag)) else(if(0<=(aa ((aa (ag.ba+n))-n))/\(aa ((aa (ag.ba+n))-n))<=(aa (ag.ba+n))/\(aa (ag.ba+n))<=(List.length ag.b:Int)) then(some ((aA ag.b (aa ((aa (ag.ba+n))-n)) (aa (ag.ba+n))),Er.nil,(eQ.mk ag.b (aa (ag.ba+n))))) else none)
def mS.R (el:Nat->Addr) (aY:Nat) (y0:Value) (xr:List Int) (ar:Option Addr) (nr:Nat) (r:((List Int)×Er×eQ)) (u:Value) (G:List Hp):Prop:= ∃(a0:Option Addr) (n0:Nat) (v1:Value) (H1:Hp),dr (Fl.int .u8) xr ar nr r.1 a0 n0/\List.length r.1<=n0/\fX 414 el r.2.1 v1 H1/\u=(.tuple #[(ll a0 r.1 n0),v1])/\G=[H1,(cl aY 340 [y0,(ii r.2.2.ba)])]
theorem mS.c (H:mS.f ag n=some r) (hG:fM 414 fc gY el F) (mN:aT (Fl.int .u8) ag.b gT F) (km:List.length ag.b<=gQ):
 QR 278 [(pp aY),(ii n)] [(cl aY 340 [(ll gT ag.b gQ),(ii ag.ba)])] [] F (mS.R el aY (ll gT ag.b gQ) ag.b gT gQ r):=by
 unfold mS.f at H;refine aD Tryz.func278 J J (λW=>rc T 8 (du mix ay (au T J (au T J (au T J (aO J J J (aw T J J J J (aH (j:=0) J J)) ?_))))))
 iterate 4 refine au T J ?_
 refine aO J J J (aw T J J J J (aH (j:=0) J J)) (au T J (au T J (au T J (cZ (rx T 1 (cd J H (λH=>?_) (λH=>?_)))))))
 ·refine rc T 1 (du mix ay (aO J J J (aw T J J J J (rI (j:=1) J hG (g:=6) (by decide))) (au T J (au T J (cZ (rx T 3 ?_))))))
  cases H;refine bw (p1 T J [2,0,0] ⟨none,0,(.iface 414 (.pointer (some (el 6)))),[],dr.nil,(Nat.zero_le _),ot,J,J⟩ J)
 refine rc T 7 (lf T 0 J (ro T 4 (sg T 0 J (ro T 3 (du mix ay (au T J (au T J (au T J (aO J J J (aw T J J J J (aH (j:=0) J J)) (au T J (au T J (au T J (aO J J J (aw T J J J J (aH (j:=0) J J)) ?_)))))))))))))
 iterate 5 refine au T J ?_
 refine aO J J J (aw T J J J J (aH (j:=0) J J)) ?_;obtain⟨c2,H⟩:=az H;refine aO J J J (ko T J J J J J J c2 km) (au T J (au T J (cZ (rx T 2 ?_))))
 cases H;refine bw (p1 T J [2,0,0] ⟨(fW gT gQ (Int.toNat (aa ((aa (ag.ba+n))-n))) 1),(gQ-Int.toNat (aa ((aa (ag.ba+n))-n))),.nilIface,[],(dr.sub dr.self km c2),(mz c2 km),tY,J,J⟩ J)
def p8.f (ag:eQ) (n:Int):Option ((List Int)×Er×eQ):=(mS.f ag n).bind λv1=>(if(Er.isNil v1.2.1)=true then((wq.f v1.1 0).bind λv4=>some v4) else(some false)).bind λx2=>if x2=true then(some (v1.1,(Er.eh 5),(eQ.mk ag.b v1.2.2.ba))) else(some (v1.1,v1.2.1,(eQ.mk ag.b v1.2.2.ba)))
def p8.R (el:Nat->Addr) (aY:Nat) (y0:Value) (xr:List Int) (ar:Option Addr) (nr:Nat) (r:((List Int)×Er×eQ)) (u:Value) (G:List Hp):Prop:= ∃(a0:Option Addr) (n0:Nat) (v1:Value) (H1:Hp),dr (Fl.int .u8) xr ar nr r.1 a0 n0/\List.length r.1<=n0/\fX 414 el r.2.1 v1 H1/\u=(.tuple #[(ll a0 r.1 n0),v1])/\G=[H1,(cl aY 340 [y0,(ii r.2.2.ba)])]
theorem p8.c (H:p8.f ag n=some r) (hG:fM 414 fc gY el F) (mN:aT (Fl.int .u8) ag.b gT F) (km:List.length ag.b<=gQ):
 QR 279 [(pp aY),(ii n)] [(cl aY 340 [(ll gT ag.b gQ),(ii ag.ba)])] [] F (p8.R el aY (ll gT ag.b gQ) ag.b gT gQ r):=by
 unfold p8.f at H;refine aD Tryz.func279 J J (λW=>rc T 10 (kr (mS.R el aY (ll gT ag.b gQ) ag.b gT gQ) [] [0] J Nt H (mS.c · (dH hG (j:=0) J) (rO mN 0) km) (λv1 H=>?_)));rintro _ _ ⟨a2,n2,v3,H3,DD,I4,s3,rfl,rfl⟩;refine fz J (ro T 8 (mq H [6,7] [0,0,0] (λz3 (x2:Bool)=>(x2=z3,[(19,(bb x2))],[])) J J (λz3 Z2 _=>?_) ?_))
 ·refine rc T 2 (br J (Jo T J J J (rB s3 (j:=1) J)) (ro T 1 (ab 16 J Z2 (λZ2=>?_) (λZ2=>?_))))
  ·refine ro T 1 (k [] J Ng Z2 (wq.c · (oo DD (rO mN 0) km) I4) (λv4 Z2=>ro T 3 (am _ [0,0,0] (oi Z2) J J)))
  refine ro T 5 (am _ [0,0,0] (oi Z2) J J)
 rintro _ x2 rfl H;refine cb J H (λH=>?_) (λH=>?_)
 ·refine rc T 1 (lg T J (rI (j:=0) J hG (g:=5) (by decide)) (ro T 12 ?_))
  cases H;refine bw (p1 T J [3,2,0] ⟨a2,n2,(.iface 414 (.pointer (some (el 5)))),[],DD,I4,ot,J,J⟩ J)
 refine rc T 11 ?_
 cases H;exact p1 T J [1,1,0] ⟨a2,n2,v3,H3,DD,I4,s3,J,J⟩ J
def pA.l0:Nat->eQ->Int->Int->List Int->Option (Sum ((List Int)×Er×eQ) ((List Int)×Int))
 |0,_,_,_,_=>none
 |k8+1,ag,n,x6,x7=>if(List.length x7:Int)<n then((mS.f (eQ.mk ag.b x6) 2).bind λv9=>if(!(Er.isNil v9.2.1))=true then(some (Sum.inl ([],v9.2.1,(eQ.mk ag.b v9.2.2.ba)))) else(if(0<=(0:Int)/\(0:Int)<(List.length v9.1:Int)) then(if(0<=(1:Int)/\(1:Int)<(List.length v9.1:Int)) then((if(((rd v9.1 1)==0)||(decide ((aa ((aa (rd v9.1 0))+1))>(aa (n-(List.length x7:Int))))))=true then(some true) else(if(List.length x7:Int)>0 then(if(0<=(aa ((List.length x7:Int)-1))/\(aa ((List.length x7:Int)-1))<(List.length x7:Int)) then(some ((rd x7 (aa ((List.length x7:Int)-1)))==(rd v9.1 1))) else none) else(some false))).bind λaN=>if aN=true then(some (Sum.inl ([],(Er.eh 5),(eQ.mk ag.b v9.2.2.ba)))) else((lC.f [(rd v9.1 1)] (aa ((aa (rd v9.1 0))+1))).bind λv12=>if(List.length x7+List.length v12<=1099511627776) then(pA.l0 k8 ag n v9.2.2.ba (x7++v12)) else none)) else none) else none)) else(some (Sum.inr (x7,x6)))
def pA.f (ag:eQ) (n:Int):Option ((List Int)×Er×eQ):=(pA.l0 fuel ag n ag.ba []).bind λzz=>match zz with |Sum.inl q=>some q |Sum.inr (x1,x2)=>some (x1,Er.nil,(eQ.mk ag.b x2))
def pA.R (el:Nat->Addr) (aY:Nat) (y0:Value) (r:((List Int)×Er×eQ)) (u:Value) (G:List Hp):Prop:= ∃(a0:Option Addr) (n0:Nat) (H0:Hp) (v1:Value) (H1:Hp),aj (Fl.int .u8) 5 r.1 a0 n0 H0/\fX 414 el r.2.1 v1 H1/\u=(.tuple #[(ll a0 r.1 n0),v1])/\G=[H0,H1,(cl aY 340 [y0,(ii r.2.2.ba)])]
theorem pA.c (H:pA.f ag n=some r) (hG:fM 414 fc gY el F) (mN:aT (Fl.int .u8) ag.b gT F) (km:List.length ag.b<=gQ):
 QR 281 [(pp aY),(ii n)] [(cl aY 340 [(ll gT ag.b gQ),(ii ag.ba)])] [] F (pA.R el aY (ll gT ag.b gQ) r):=by
 unfold pA.f at H;refine aD Tryz.func281 J J (λW=>rc T 11 (mq H [] [1] (λz3 (⟨x1,x2,a2,n2,H2⟩:List Int×Int×Option Addr×Nat×Hp)=>((Sum.inr (x1,x2))=z3/\aj (Fl.int .u8) 5 x1 a2 n2 H2,[(6,(ll a2 x1 n2))],[H2,(cl aY 340 [(ll gT ag.b gQ),(ii x2)])])) J J (λz3 Z1 H=>?_) ?_))
 ·refine rc T 1 (bw (lq [0,1] [1] (λ(⟨k8,x6,x7,a4,n4,H4⟩:Nat×Int×List Int×Option Addr×Nat×Hp)=>(pA.l0 k8 ag n x6 x7=some z3/\aj (Fl.int .u8) 5 x7 a4 n4 H4,[(6,(ll a4 x7 n4))],[(cl aY 340 [(ll gT ag.b gQ),(ii x6)]),H4])) J J (fuel,ag.ba,[],none,0,[]) [1,0,0] ⟨Z1,aj.nil⟩ J J ?_));rintro k8 ⟨x6,x7,a4,n4,H4⟩ ⟨Z2,s4⟩;rw[pA.l0] at Z2;refine rc T 9 (cd J Z2 (λZ2=>?_) (λZ2=>?_))
  ·refine rc T 6 (kr (mS.R el aY (ll gT ag.b gQ) ag.b gT gQ) [] [1] J Nt Z2 (mS.c (ag:=(eQ.mk ag.b x6)) · (dH hG (j:=0) J) (rO mN 0) km) (λv9 Z2=>?_));rintro _ _ ⟨a5,n5,v6,H6,Fy,Q3,s6,rfl,rfl⟩;refine fz J (ro T 11 (br J (DL T J J J (rB s6 (j:=2) J)) (ro T 2 (cb J Z2 (λZ2=>?_) (λZ2=>?_)))))
   ·refine rc T 13 ?_;obtain rfl:=Option.some.inj Z2;obtain rfl:=Option.some.inj (show some ([],v9.2.1,(eQ.mk ag.b v9.2.2.ba))=some r from H)
    refine bw (p1 T J [4,2,2,0] ⟨none,0,[],v6,H6,aj.nil,s6,J,J⟩ J)
   refine rc T 3 (du mix ay (au T J ?_));obtain⟨c6,Z2⟩:=az Z2;obtain⟨q8,o8,e8⟩:=(dr.r Fy mN km).addr c6.1 c6.2;refine aO J J J (cO T J J J J J e8 c6.1 c6.2) (aO J J J (aw T J J J J (iU (k:=(Fl.int .u8)) (oo Fy (rO mN 0) km) e8 c6 0 J)) (au T J (au T J (au T J ?_))));obtain⟨c7,Z2⟩:=az Z2;refine aO J J J (cO T J J J J J e8 c7.1 c7.2) (aO J J J (aw T J J J J (iU (k:=(Fl.int .u8)) (oo Fy (rO mN 0) km) e8 c7 0 J)) (au T J (au T J (cZ (rx T 2 (mq Z2 [0,1,6,9,10] [0,2,0] (λlO (aN:Bool)=>(aN=lO,[(55,(bb aN))],[])) J J (λlO Z8 _=>?_) ?_))))))
   ·refine rc T 4 (go T [3,4,5,6,7,8,9] 33 [0,1,6,9,10] 40 J J J J J J J (ro T 1 (ab 41 J Z8 (λZ8=>?_) (λZ8=>?_))))
    ·refine ro T 16 (am _ [0,2,0] (oi Z8) J J)
    refine ro T 4 (ad 45 J Z8 (λZ8=>?_) (λZ8=>?_))
    ·refine ro T 4 ?_;obtain⟨dG,Z8⟩:=az Z8;obtain⟨q9,o9,e9⟩:=s4.r.addr dG.1 dG.2;refine ix T J e9 dG (le T 0 (oO s4 1) e9 dG J J (ro T 6 (am _ [0,2,0] (oi Z8) J J)))
    refine ro T 12 (am _ [0,2,0] (oi Z8) J J)
   rintro _ aN rfl Z2;refine cb J Z2 (λZ2=>?_) (λZ2=>?_)
   ·refine rc T 1 (du mix ay (aO J J J (aw T J J J J (rI (j:=0) J hG (g:=5) (by decide))) (au T J (au T J (cZ (rx T 7 ?_))))))
    obtain rfl:=Option.some.inj Z2;obtain rfl:=Option.some.inj (show some ([],(Er.eh 5),(eQ.mk ag.b v9.2.2.ba))=some r from H)
    refine bw (bw (p1 T J [3,3,1,0] ⟨none,0,[],(.iface 414 (.pointer (some (el 5)))),[],aj.nil,ot,J,J⟩ J))
   refine rc T 5 (aX (cU (k:=(Fl.int .u8)) T [(rd v9.1 1)] J J J J J J J J J (λa12 dz dJ=>ro T 1 (kr lC.R [] [] J Tx Z2 (lC.c · (oO dJ 3) dJ.bY) (λv12 Z2=>?_)))));rintro _ _ ⟨dF,n13,eI,dn,rfl,rfl⟩;refine fz J ?_;obtain⟨pa,Z2⟩:=az Z2;refine aX (d_ (k:=(Fl.int .u8)) (xs:=x7) T (g:=2) J J J J J J J J J J s4 (oO dn 4) pa J (λiE n14 fI gh=>ro T 4 (ar (_,_,_,_,_) [0,0,0] ⟨Z2,gh⟩ J J)))
  refine rc T 5 (am (_,_,_,_,_) [0,1,0] ⟨oi Z2,s4⟩ J J)
 rintro _ ⟨x1,x2,a2,n2,H2⟩ ⟨rfl,s2⟩ H;refine rc T 8 ?_
 cases H;refine bw (p1 T J [1,2,1,0] ⟨a2,n2,H2,.nilIface,[],s2,tY,J,J⟩ J)
def sV.f (ag:eQ) (n:Int):Option ((List Int)×Er×eQ):=(mS.f ag 1).bind λv1=>if(!(Er.isNil v1.2.1))=true then(some ([],v1.2.1,(eQ.mk ag.b v1.2.2.ba))) else(if(0<=(0:Int)/\(0:Int)<(List.length v1.1:Int)) then(if((rd v1.1 0)==0)=true then((p8.f (eQ.mk ag.b v1.2.2.ba) 1).bind λv2=>(lC.f v2.1 n).bind λv3=>some (v3,v2.2.1,(eQ.mk ag.b v2.2.2.ba))) else(if((rd v1.1 0)==1)=true then((p8.f (eQ.mk ag.b v1.2.2.ba) n).bind λv4=>some (v4.1,v4.2.1,(eQ.mk ag.b v4.2.2.ba))) else(if((rd v1.1 0)==2)=true then((pA.f (eQ.mk ag.b v1.2.2.ba) n).bind λv5=>some (v5.1,v5.2.1,(eQ.mk ag.b v5.2.2.ba))) else(some ([],(Er.eh 5),(eQ.mk ag.b v1.2.2.ba)))))) else none)
def sV.R (el:Nat->Addr) (aY:Nat) (y0:Value) (xr:List Int) (ar:Option Addr) (nr:Nat) (r:((List Int)×Er×eQ)) (u:Value) (G:List Hp):Prop:= ∃(a0:Option Addr) (n0:Nat) (H0:Hp) (v1:Value) (H1:Hp),Ir (Fl.int .u8) 5 xr ar nr r.1 a0 n0 H0/\fX 414 el r.2.1 v1 H1/\u=(.tuple #[(ll a0 r.1 n0),v1])/\G=[H0,H1,(cl aY 340 [y0,(ii r.2.2.ba)])]
theorem sV.c (H:sV.f ag n=some r) (hG:fM 414 fc gY el F) (mN:aT (Fl.int .u8) ag.b gT F) (km:List.length ag.b<=gQ):
 QR 252 [(pp aY),(ii n)] [(cl aY 340 [(ll gT ag.b gQ),(ii ag.ba)])] [] F (sV.R el aY (ll gT ag.b gQ) ag.b gT gQ r):=by
 unfold sV.f at H;refine aD Tryz.func252 J J (λW=>rc T 9 (kr (mS.R el aY (ll gT ag.b gQ) ag.b gT gQ) [] [0] J Nt H (mS.c · (dH hG (j:=0) J) (rO mN 0) km) (λv1 H=>?_)));rintro _ _ ⟨a2,n2,v3,H3,DD,I4,s3,rfl,rfl⟩;refine fz J (ro T 11 (br J (DL T J J J (rB s3 (j:=1) J)) (ro T 2 (cb J H (λH=>?_) (λH=>?_)))))
 ·refine rc T 9 ?_
  cases H;refine bw (p1 T J [3,1,1,0] ⟨none,0,[],v3,H3,(.inl ⟨dr.nil,Nat.zero_le _,J⟩),s3,J,J⟩ J)
 refine rc T 6 ?_;obtain⟨c3,H⟩:=az H;obtain⟨q5,o5,e5⟩:=(dr.r DD mN km).addr c3.1 c3.2;refine ix T J e5 c3 (le T 0 (oo DD (rO mN 0) km) e5 c3 J J (ro T 9 (cb J H (λH=>?_) (λH=>?_))))
 ·refine rc T 3 (kr (p8.R el aY (ll gT ag.b gQ) ag.b gT gQ) [] [2] J Tw H (p8.c (ag:=(eQ.mk ag.b v1.2.2.ba)) · (dH hG (j:=0) J) (rO mN 0) km) (λv2 H=>?_));rintro _ _ ⟨a6,n6,v7,H7,ZW,c6_,s7,rfl,rfl⟩;refine fz J (ro T 11 (kr lC.R [] [] J Tx H (lC.c · (oo ZW (rO mN 0) km) c6_) (λv3 H=>?_)));rintro _ _ ⟨a8,n8,H8,s8,rfl,rfl⟩;refine fz J (ro T 4 (ke [4,5] [0,1,1,1] J J (rx T 4 ?_)))
  cases H;exact p1 T J [3,1,1,0] ⟨a8,n8,H8,v7,H7,(.inr s8),s7,J,J⟩ J
 refine rc T 6 (cb J H (λH=>?_) (λH=>?_))
 ·refine rc T 4 (kr (p8.R el aY (ll gT ag.b gQ) ag.b gT gQ) [] [2] J Tw H (p8.c (ag:=(eQ.mk ag.b v1.2.2.ba)) · (dH hG (j:=0) J) (rO mN 0) km) (λv4 H=>?_));rintro _ _ ⟨a9,n9,v10,bX,ZX,c9_,bT,rfl,rfl⟩;refine fz J (ro T 9 ?_)
  cases H;refine bw (p1 T J [4,2,2,0] ⟨a9,n9,[],v10,bX,(.inl ⟨ZX,c9_,J⟩),bT,J,J⟩ J)
 refine rc T 6 (cb J H (λH=>?_) (λH=>?_))
 ·refine rc T 4 (kr (pA.R el aY (ll gT ag.b gQ)) [] [2] J adH H (pA.c (ag:=(eQ.mk ag.b v1.2.2.ba)) · (dH hG (j:=0) J) (rO mN 0) km) (λv5 H=>?_));rintro _ _ ⟨a12,n12,dz,lp,eI,dJ,dn,rfl,rfl⟩;refine fz J (ro T 9 ?_)
  cases H;exact p1 T J [2,2,2,0] ⟨a12,n12,dz,lp,eI,(.inr dJ),dn,J,J⟩ J
 refine rc T 4 (du mix ay (aO J J J (aw T J J J J (rI (j:=0) J hG (g:=5) (by decide))) (au T J (au T J (cZ (rx T 2 ?_))))))
 cases H;refine bw (bw (p1 T J [3,3,2,0] ⟨none,0,[],(.iface 414 (.pointer (some (el 5)))),[],(.inl ⟨dr.nil,Nat.zero_le _,J⟩),ot,J,J⟩ J))
def CN.f (ag:Int) (ai:aL):Option Bool:=if(0<=(0:Int)/\(0:Int)<(List.length ai.C:Int)) then(some (ag !=(rd ai.C 0))) else none
theorem CN.c (H:CN.f ag ai=some r) (GV:(tR,Obj.cells #[(ii ai.W),(ii ai.H),(ll IK ai.C KB)] 139 (0,0))∈F) (DT:aT (Fl.int .u8) ai.C IK F) (Q5:List.length ai.C<=KB):
 QU 304 [(.int .u8 ag),(pp tR)] [] F (bb r):=by
 unfold CN.f at H;refine aD Tryz.func304 J J (λW=>rc T 9 (lg T J (nD (j:=0) GV J J) ?_));obtain⟨c1,H⟩:=az H;obtain⟨q1,o1,e1⟩:=DT.addr c1.1 c1.2;refine ix T J e1 c1 (le T 0 (rO DT 0) e1 c1 J J (ro T 5 ?_))
 cases H;exact p0 T J [0] J
def qT.l0:Nat->(List Int)->aL->Int->Option Int
 |0,_,_,_=>none
 |k3+1,s,fq,x2=>if x2<(List.length s:Int) then(if(0<=x2/\x2<(List.length s:Int)) then((CN.f (rd s x2) fq).bind λv4=>if v4=true then(some x2) else(qT.l0 k3 s fq (aa (x2+1)))) else none) else(some (-1))
def qT.f (s:(List Int)) (fq:aL):Option Int:=qT.l0 fuel s fq 0
theorem qT.c (H:qT.f s fq=some r) (jt:aT (Fl.int .u8) s iR F) (rp:List.length s<=iV) (Cu:(BQ,Obj.cells #[(ii fq.W),(ii fq.H),(ll BJ fq.C CD)] 139 (0,0))∈F) (B3:aT (Fl.int .u8) fq.C BJ F) (BU:List.length fq.C<=CD):
 QU 305 [(ll iR s iV),(.func (.func 304) #[] #[(pp BQ)])] [] F (ii r):=by
 unfold qT.f at H;refine aD Tryz.func305 J J (λW=>rc T 14 (lq [0,1,7] [0] (λ(⟨k3,x2⟩:Nat×Int)=>(qT.l0 k3 s fq x2=some r,[(8,(ii x2))],[])) J J (fuel,0) [0] H J J ?_));rintro k3 x2 Z1;replace Z1:qT.l0 (k3+1) s fq x2=some r:=Z1;rw[qT.l0] at Z1;refine rc T 6 (cd J Z1 (λZ1=>?_) (λZ1=>?_))
 ·refine rc T 15 ?_;obtain⟨c3,Z1⟩:=az Z1;obtain⟨q1,o1,e1⟩:=jt.addr c3.1 c3.2;refine ix T J e1 c3 (le T 0 (rO jt 0) e1 c3 J J (k [] J adT Z1 (CN.c · (p7 Cu (j:=0) J) (rO B3 0) BU) (λv4 Z1=>ro T 2 (cb J Z1 (λZ1=>?_) (λZ1=>?_)))))
  ·refine rc T 12 ?_
   cases Z1;exact p0 T J [0] J
  refine rc T 8 (ar _ [0] Z1 J J)
 refine rc T 11 ?_
 cases Z1;exact p0 T J [0] J
def C9.f (s:(List Int)) (fq:aL):Option Bool:=(qT.f s fq).bind λv1=>some (decide (v1≥0))
theorem C9.c (H:C9.f s fq=some r) (jt:aT (Fl.int .u8) s iR F) (rp:List.length s<=iV) (Cu:(BQ,Obj.cells #[(ii fq.W),(ii fq.H),(ll BJ fq.C CD)] 139 (0,0))∈F) (B3:aT (Fl.int .u8) fq.C BJ F) (BU:List.length fq.C<=CD):
 QU 303 [(ll iR s iV),(.func (.func 304) #[] #[(pp BQ)])] [] F (bb r):=by
 unfold C9.f at H;refine aD Tryz.func303 J J (λW=>rc T 9 (k [] J adU H (qT.c · (rO jt 0) rp (p7 Cu (j:=0) J) (rO B3 0) BU) (λv1 H=>ro T 5 ?_)))
 cases H;exact p0 T J [0] J
def ji.l1:Nat->aL->Int->Int->Option Int
 |0,_,_,_=>none
 |xo+1,t,x5,aU=>(if(aa (x5+aU))<(List.length t.C:Int) then(if(0<=(aa (x5+aU))/\(aa (x5+aU))<(List.length t.C:Int)) then(if(0<=x5/\x5<(List.length t.C:Int)) then(some ((rd t.C (aa (x5+aU)))==(rd t.C x5))) else none) else none) else(some false)).bind λct=>if ct=true then(ji.l1 xo t x5 (aa (aU+1))) else(some aU)
def ji.l0:Nat->aL->List Int->Int->Option (List Int)
 |0,_,_,_=>none
 |k6+1,t,x4,x5=>if x5<(List.length t.C:Int) then(((ji.l1 fuel t x5 1).bind λaN=>if(0<=x5/\x5<(List.length t.C:Int)) then(if(List.length x4+2<=1099511627776) then(some ((x4++[(bS (aa (aN-1))),(rd t.C x5)]),(aa (x5+aN)))) else none) else none).bind λ(x7,x8)=>ji.l0 k6 t x7 x8) else(some x4)
def ji.f (t:aL) (form:Int):Option (List Int):=if(form==0)=true then((C9.f t.C t).bind λv1=>if v1=true then(some []) else(if(0<=(0:Int)/\(0:Int)<(List.length t.C:Int)) then(if(List.length [(bS form)]+1<=1099511627776) then(some ([(bS form)]++[(rd t.C 0)])) else none) else none)) else(if(form==1)=true then(if(List.length [(bS form)]+List.length t.C<=1099511627776) then(some ([(bS form)]++t.C)) else none) else(ji.l0 fuel t [(bS form)] 0))
def ji.R (r:(List Int)) (u:Value) (G:List Hp):Prop:= ∃(a0:Option Addr) (n0:Nat) (H0:Hp),aj (Fl.int .u8) 5 r a0 n0 H0/\(r=[]->a0=none)/\u=(ll a0 r n0)/\G=[H0]
theorem ji.c (H:ji.f t form=some r) (dR:aT (Fl.int .u8) t.C il F) (fi:List.length t.C<=iv):
 QR 297 [(.agg #[(ii t.W),(ii t.H),(ll il t.C iv)]),(ii form)] [] [] F (ji.R r):=by
 unfold ji.f at H;refine aD Tryz.func297 J J (λW=>rc T 2 (nc T J (λb1=>ro T 7 (aX (cU (k:=(Fl.int .u8)) T [(bS form)] J J J J J J J J J (λa2 H2 s2=>ro T 16 (cb J H (λH=>?_) (λH=>?_))))))))
 ·refine rc T 4 (lf T 1 J (ro T 1 (k [] J adS H (C9.c · (rO dR 0) fi (AN (j:=1) J) (rO dR 0) fi) (λv1 H=>ro T 2 (cb J H (λH=>?_) (λH=>?_))))))
  ·refine rc T 9 ?_
   cases H;refine bw (p1 T J [3,0] ⟨none,0,[],aj.nil,(λ_=>rfl),J,J⟩ J)
  refine rc T 6 (lf T 1 J ?_);obtain⟨c4,H⟩:=az H;obtain⟨q4,o4,e4⟩:=dR.addr c4.1 c4.2;refine ix T J e4 c4 (le T 0 (rO dR 0) e4 c4 J J (aX (cU (k:=(Fl.int .u8)) T [(rd t.C 0)] J J J J J J J J J (λa5 H5 s5=>?_))));obtain⟨c5,H⟩:=az H;refine aX (d_ (k:=(Fl.int .u8)) (xs:=[(bS form)]) T (g:=2) J J J J J J J J J J s2 (oO s5 3) c5 J (λa6 n6 H6 s6=>ro T 2 (ke [4] [0,1] J J (rx T 4 ?_))))
  cases H;exact p1 T J [1,0] ⟨a6,n6,H6,s6,(OH (.inr J)),J,J⟩ J
 refine rc T 6 (cb J H (λH=>?_) (λH=>?_))
 ·refine rc T 4 (lf T 1 J ?_);obtain⟨c7,H⟩:=az H;refine aX (d_ (k:=(Fl.int .u8)) (xs:=[(bS form)]) T (g:=2) J J J J J J J J J J s2 (rO dR 0) c7 J (λa7 n7 H7 s7=>ro T 2 (ke [4] [0,1] J J (rx T 4 ?_))))
  cases H;exact p1 T J [1,0] ⟨a7,n7,H7,s7,(OH (.inl J)),J,J⟩ J
 refine rc T 10 (lq [2] [0,0] (λ(⟨k6,x4,x5,a9,n9,H9⟩:Nat×List Int×Int×Option Addr×Nat×Hp)=>(ji.l0 k6 t x4 x5=some r/\aj (Fl.int .u8) 5 x4 a9 n9 H9/\(x4=[]->a9=none),[(5,(ll a9 x4 n9)),(6,(ii x5))],[H9])) J J (fuel,[(bS form)],0,a2,(List.length [(bS form)]),H2) [0,0,0] ⟨H,s2,(λe=>by cases e)⟩ J J ?_)
 rintro k6 ⟨x4,x5,a9,n9,H9⟩ ⟨Z8,s9,r9⟩;rw[ji.l0] at Z8;refine rc T 5 (lf T 1 J (ro T 4 (cd J Z8 (λZ8=>?_) (λZ8=>?_))))
 ·refine rc T 2 (mn Z8 [2] [0,0] (λz9 (⟨x7,x8,cw,n10,bX⟩:List Int×Int×Option Addr×Nat×Hp)=>((x7,x8)=z9/\aj (Fl.int .u8) 5 x7 cw n10 bX/\(x7=[]->cw=none),[(5,(ll cw x7 n10)),(6,(ii x8))],[bX])) J J (λz9 lR _=>?_) ?_)
  ·refine rc T 6 (mq lR [2,5,6] [0,0,0] (λlO (aN:Int)=>(aN=lO,[(7,(ii aN))],[])) J J (λlO bc _=>?_) ?_)
   ·refine rc T 1 (lq [2,5,6] [0,0,0] (λ(⟨xo,aU⟩:Nat×Int)=>(ji.l1 xo t x5 aU=some lO,[(7,(ii aU))],[])) J J (fuel,1) [0,0,0] bc J J ?_);rintro xo aU bt;replace bt:ji.l1 (xo+1) t x5 aU=some lO:=bt;rw[ji.l1] at bt;refine rc T 1 (mq bt [2,5,6,7] [0,0,0] (λIo (ct:Bool)=>(ct=Io,[(57,(bb ct))],[])) J J (λIo ng _=>?_) ?_)
    ·refine du mix ay ?_
     iterate 4 refine au T J ?_
     refine aO J J J (aw T J J J J (aH (j:=1) J J)) (au T J (au T J (au T J (qd 43 J ng (λng=>?_) (λng=>?_)))))
     ·refine au T J (aO J J J (aw T J J J J (aH (j:=1) J J)) (au T J (au T J (au T J ?_))));obtain⟨yH,ng⟩:=az ng;obtain⟨VW,Vt,tV⟩:=dR.addr yH.1 yH.2;refine aO J J J (cO T J J J J J tV yH.1 yH.2) (aO J J J (aw T J J J J (iU (k:=(Fl.int .u8)) (rO dR 0) tV yH 0 J)) (au T J (aO J J J (aw T J J J J (aH (j:=1) J J)) (au T J ?_))));obtain⟨pQ,ng⟩:=az ng;refine aO J J J (cO T J J J J J tV pQ.1 pQ.2) (aO J J J (aw T J J J J (iU (k:=(Fl.int .u8)) (rO dR 0) tV pQ 0 J)) (au T J (au T J (cZ (rx T 1 (am _ [0,0,0] (oi ng) J J))))))
     iterate 14 refine au T J ?_
     refine cZ (rx T 1 (am _ [0,0,0] (oi ng) J J))
    rintro _ ct rfl bt;refine cb J bt (λbt=>?_) (λbt=>?_)
    ·refine rc T 10 (ar _ [0,0,0] bt J J)
    refine rc T 5 (am _ [0,0,0] (oi bt) J J)
   rintro _ aN rfl lR;refine rc T 7 (lf T 1 J (ro T 1 ?_));obtain⟨lD,lR⟩:=az lR;obtain⟨vV,OL,sD⟩:=dR.addr lD.1 lD.2;refine ix T J sD lD (le T 0 (rO dR 0) sD lD J J (aX (cU (k:=(Fl.int .u8)) T [(bS (aa (aN-1))),(rd t.C x5)] J J J J J J J J J (λdF eI dn=>?_))));obtain⟨Ac,lR⟩:=az lR;refine aX (d_ (k:=(Fl.int .u8)) (xs:=x4) T (g:=2) J J J J J J J J J J s9 (oO dn 3) Ac J (λiE n14 fI gh=>ro T 11 (am (_,_,_,_,_) [0,0,0] ⟨oi lR,gh,(OH (.inr J))⟩ J J)))
  rintro _ ⟨x7,x8,cw,n10,bX⟩ ⟨rfl,bT,OV⟩ Z8;refine rx T 1 (ar (_,_,_,_,_) [0,0,0] ⟨Z8,bT,OV⟩ J J)
 refine rc T 12 ?_
 cases Z8;exact p1 T J [2,0] ⟨a9,n9,H9,s9,r9,J,J⟩ J
def kY.l0:Nat->aL->Int->List Int->Int->Option (Int×(List Int))
 |0,_,_,_,_=>none
 |k7+1,t,x4,x5,x6=>if x6<3 then((ji.f t x6).bind λv8=>(if(!List.isEmpty v8)=true then(if(List.isEmpty x5)=true then(some true) else(some (decide ((List.length v8:Int)<(List.length x5:Int))))) else(some false)).bind λx9=>if x9=true then(kY.l0 k7 t x6 v8 (aa (x6+1))) else(kY.l0 k7 t x4 x5 (aa (x6+1)))) else(some (x4,x5))
def kY.f (t:aL):Option (Int×(List Int)):=kY.l0 fuel t (-1) [] 0
def kY.R (r:(Int×(List Int))) (u:Value) (G:List Hp):Prop:= ∃(a0:Option Addr) (n0:Nat) (H0:Hp),aj (Fl.int .u8) 5 r.2 a0 n0 H0/\(r.2=[]->a0=none)/\u=(.tuple #[(ii r.1),(ll a0 r.2 n0)])/\G=[H0]
theorem kY.c (H:kY.f t=some r) (dR:aT (Fl.int .u8) t.C il F) (fi:List.length t.C<=iv):
 QR 282 [(.agg #[(ii t.W),(ii t.H),(ll il t.C iv)])] [] [] F (kY.R r):=by
 unfold kY.f at H;refine aD Tryz.func282 J J (λW=>rc T 2 (nc T J (λb1=>ro T 17 (bw (lq [1] [0,0] (λ(⟨k7,x4,x5,x6,a3,n3,H3⟩:Nat×Int×List Int×Int×Option Addr×Nat×Hp)=>(kY.l0 k7 t x4 x5 x6=some r/\aj (Fl.int .u8) 5 x5 a3 n3 H3/\(x5=[]->a3=none),[(4,(ii x4)),(5,(ll a3 x5 n3)),(8,(ii x6))],[H3])) J J (fuel,(-1),[],0,none,0,[]) [0,0,0] ⟨H,aj.nil,(λ_=>rfl)⟩ J J ?_)))));rintro k7 ⟨x4,x5,x6,a3,n3,H3⟩ ⟨Z1,s3,r3⟩;rw[kY.l0] at Z1;refine rc T 6 (cd J Z1 (λZ1=>?_) (λZ1=>?_))
 ·refine rc T 12 (lm T 1 J (ro T 1 (kr ji.R [] [] J adO Z1 (ji.c · (rO dR 0) fi) (λv8 Z1=>?_))));rintro _ _ ⟨a4,n4,H4,s4,r4,rfl,rfl⟩;refine fz J (ro T 3 (mq Z1 [1,4,5,6,7,8] [0,0,0,0] (λnZ (x9:Bool)=>(x9=nZ,[(26,(bb x9))],[])) J J (λnZ Z4 _=>?_) ?_))
  ·refine rc T 2 (br J (abS T J J J J s4 r4) (ro T 1 (ab 16 J Z4 (λZ4=>?_) (λZ4=>?_))))
   ·refine ro T 1 (br J (abR T J J J J s3 r3) (ro T 1 (ab 19 J Z4 (λZ4=>?_) (λZ4=>?_))))
    ·refine ro T 9 (am _ [0,0,0,0] (oi Z4) J J)
    refine ro T 9 (am _ [0,0,0,0] (oi Z4) J J)
   refine ro T 12 (am _ [0,0,0,0] (oi Z4) J J)
  rintro _ x9 rfl Z1;refine cb J Z1 (λZ1=>?_) (λZ1=>?_)
  ·refine rc T 13 (ar (_,_,_,_,_,_) [0,0,1] ⟨Z1,s4,r4⟩ J J)
  refine rc T 8 (ar (_,_,_,_,_,_) [0,0,0] ⟨Z1,s3,r3⟩ J J)
 refine rc T 14 ?_
 cases Z1;exact p1 T J [2,0] ⟨a3,n3,H3,s3,r3,J,J⟩ J
def sU.f (t:aL):Option ((List Int)×Int):=(tz.f t).bind λv1=>if(!v1)=true then(some ([],1)) else((kY.f t).bind λv2=>some (v2.2,0))
def sU.R (r:((List Int)×Int)) (u:Value) (G:List Hp):Prop:= ∃(a0:Option Addr) (n0:Nat) (H0:Hp),aj (Fl.int .u8) 5 r.1 a0 n0 H0/\u=(.tuple #[(ll a0 r.1 n0),(ii r.2)])/\G=[H0]
theorem sU.c (H:sU.f t=some r) (dR:aT (Fl.int .u8) t.C il F) (fi:List.length t.C<=iv):
 QR 253 [(.agg #[(ii t.W),(ii t.H),(ll il t.C iv)])] [] [] F (sU.R r):=by
 unfold sU.f at H;refine aD Tryz.func253 J J (λW=>rc T 2 (nc T J (λb1=>ro T 7 (lm T 1 J (k [] J JH H (tz.c · (rO dR 0) fi) (λv1 H=>ro T 3 (cb J H (λH=>?_) (λH=>?_))))))))
 ·refine rc T 8 ?_
  cases H;refine bw (p1 T J [2,0] ⟨none,0,[],aj.nil,J,J⟩ J)
 refine rc T 4 (lm T 1 J (kr kY.R [] [] J adI H (kY.c · (rO dR 0) fi) (λv2 H=>?_)));rintro _ _ ⟨a3,n3,H3,s3,r3,rfl,rfl⟩;refine fz J (ro T 15 ?_)
 cases H;exact p1 T J [2,0] ⟨a3,n3,H3,s3,J,J⟩ J
def vT.f (ag:eQ) (w:Int) (h:Int):Option (aL×Er×eQ):=(sV.f ag (aa (w*h))).bind λv1=>(nQ.f v1.1).bind λv2=>(if(Er.isNil v1.2.1)=true then((sU.f (aL.mk w h v2)).bind λv5=>if(0<=(0:Int)/\(0:Int)<=v1.2.2.ba/\v1.2.2.ba<=(List.length ag.b:Int)) then((DF.f v5.1 (aA ag.b 0 v1.2.2.ba)).bind λv6=>if(!v6)=true then(some (Er.eh 5)) else(some v1.2.1)) else none) else(some v1.2.1)).bind λx3=>if(Er.isNil x3)=true then(some ((aL.mk w h v2),Er.nil,(eQ.mk ag.b v1.2.2.ba))) else((vi.f x3 (Er.eh 6)).bind λv7=>if v7=true then(some ((aL.mk 0 0 []),(Er.wrap 343 [v1.2.2.ba,2] x3),(eQ.mk ag.b v1.2.2.ba))) else(some ((aL.mk 0 0 []),(Er.wrap 343 [v1.2.2.ba,3] x3),(eQ.mk ag.b v1.2.2.ba))))
def vT.R (el:Nat->Addr) (aY:Nat) (y0:Value) (r:(aL×Er×eQ)) (u:Value) (G:List Hp):Prop:= ∃(a0:Option Addr) (n0:Nat) (H0:Hp) (v1:Value) (H1:Hp),aj (Fl.int .u8) 5 r.1.C a0 n0 H0/\fX 414 el r.2.1 v1 H1/\u=(.tuple #[(.agg #[(ii r.1.W),(ii r.1.H),(ll a0 r.1.C n0)]),v1])/\G=[H0,H1,(cl aY 340 [y0,(ii r.2.2.ba)])]
theorem vT.c (H:vT.f ag w h=some r) (hG:fM 414 fc gY el F) (mN:aT (Fl.int .u8) ag.b gT F) (km:List.length ag.b<=gQ):
 QR 230 [(pp aY),(ii w),(ii h)] [(cl aY 340 [(ll gT ag.b gQ),(ii ag.ba)])] [] F (vT.R el aY (ll gT ag.b gQ) r):=by
 unfold vT.f at H;refine aD Tryz.func230 J J (λW=>rc T 2 (nc T J (λb2=>ro T 9 (kr (sV.R el aY (ll gT ag.b gQ) ag.b gT gQ) [] [0] J adt H (sV.c · (dH hG (j:=0) J) (rO mN 0) km) (λv1 H=>?_)))));rintro _ _ ⟨a3,n3,H3,v4,H4,s3,s4,rfl,rfl⟩;refine fz J (ro T 12 (kr nQ.R [] [] J M8 H (nQ.c · (aaa s3 (j:=2) J (rO mN 0) km) s3.bY) (λv2 H=>?_)));rintro _ _ ⟨a5,n5,H5,s5,rfl,rfl⟩;refine fz J (ro T 1 (nc T J (λb6=>sg T 6 J (ro T 1 (ke [0,6,9,10] [0,0,1,1,1,1] J J (rx T 1 (mq H [0,6,10] [0,2,0,2,1] (λz4 (⟨x3,Di,H7⟩:Er×Value×Hp)=>(x3=z4/\fX 414 el x3 Di H7,[(9,Di)],[H7])) J J (λz4 Z3 _=>?_) ?_)))))))
 ·refine rc T 3 (br J (Jo T J J J (rB s4 (j:=2) J)) (ro T 2 (cb J Z3 (λZ3=>?_) (λZ3=>?_))))
  ·refine rc T 2 (lm T 5 J (kr sU.R [] [] J adu Z3 (sU.c (t:=(aL.mk w h v2)) · (oO s5 4) s5.bY) (λv5 Z3=>?_)));rintro _ _ ⟨a8,n8,H8,s8,rfl,rfl⟩;refine fz J (ro T 8 (du mix ay ?_))
   iterate 4 refine au T J ?_
   refine aO J J J (aw T J J J J (aH (j:=3) J J)) (au T J (au T J (au T J (aO J J J (aw T J J J J (aH (j:=3) J J)) ?_))));obtain⟨c6,Z3⟩:=az Z3;refine aO J J J (ko T J J J J J J c6 km) ?_;obtain⟨v6,V7,Z3⟩:=f_ Z3;refine tQ J J J J J J adv J (DF.c V7 (oO s8 6) s8.bY (mW (rO mN 0) c6 km) (mz c6 km)) (au T J (cZ (rx T 1 (cb J Z3 (λZ3=>?_) (λZ3=>?_)))))
   ·refine rc T 1 (lg T J (rI (j:=0) J hG (g:=5) (by decide)) (ro T 3 (bw (am (_,_,_) [0,2,0,2,1,2] ⟨oi Z3,ot⟩ J J))))
   refine rc T 2 (am (_,_,_) [0,2,0,2,1,0] ⟨oi Z3,s4⟩ J J)
  refine rc T 2 (am (_,_,_) [0,2,0,2,1,0] ⟨oi Z3,s4⟩ J J)
 rintro _ ⟨x3,Di,H7⟩ ⟨rfl,s7⟩ H;refine rc T 4 (br J (Jo T J J J (rB s7 (j:=5) J)) (ro T 2 (cb J H (λH=>?_) (λH=>?_))))
 ·refine rc T 2 (lm T 3 J (sg T 2 J (ro T 5 ?_)))
  cases H;refine bw (pb T J (.cK (j:=2) [(ii w),(ii h),(ll a5 v2 n5)] J J J J J J J (.tmp J .nil)) [4,5,1,0] ⟨(_,_),a5,n5,H5,.nilIface,[],s5,tY,J,J⟩ J J)
 refine rc T 7 (lf T 1 J (ro T 1 (br J (Sa (vs:=[(0,(ii v1.2.2.ba)),(1,(ii 3)),(2,Di)]) T [(0,[(ii v1.2.2.ba)]),(1,[(ii 3)]),(2,[Di])] J J J J J (by simp only[List.map,RP s7];rfl) J) ?_)))
 refine nc T J (λfJ=>ro T 7 (lg T J (rI (j:=0) J hG (g:=6) (by decide)) (k [] J JL H (vi.c x3 (Er.eh 6) _ _ · (dH hG (j:=0) J) (rB s7 (j:=5) J) Jd) (λv7 H=>ro T 2 (cb J H (λH=>?_) (λH=>?_))))))
 ·refine rc T 4 (sg T 6 J (ro T 6 (gn [6,5] J (br J (gV T J J J J) (sg T 2 J (ro T 2 (ke [6,7] [0,0,0,2] J J (rx T 2 ?_))))))))
  cases H;refine bw (pb T J (.cK (j:=2) [(ii 0),(ii 0),nl] J J J J J J J (.tmp J .nil)) [4,3,1,0] ⟨(_,_),none,0,[],(.iface 343 (pp fJ)),(List.flatten [(cl fJ 346 [(ii v1.2.2.ba),(ii 2),Di]),H7]),aj.nil,(pT s7),J,J⟩ J J)
 refine rc T 6 (gn [6,5] J (br J (gV T J J J J) (sg T 2 J (ro T 4 ?_))))
 cases H;refine bw (pb T J (.cK (j:=2) [(ii 0),(ii 0),nl] J J J J J J J (.tmp J .nil)) [6,5,1,0] ⟨(_,_),none,0,[],(.iface 343 (pp fJ)),(List.flatten [(cl fJ 346 [(ii v1.2.2.ba),(ii 3),Di]),H7]),aj.nil,(pT s7),J,J⟩ J J)
def qM.f (b:(List Int)) (w:Int) (h:Int):Option (aL×Int×Int):=if((((decide (w<1))||(decide (w>16)))||(decide (h<1)))||(decide (h>16)))=true then(some ((aL.mk 0 0 []),0,1)) else((vT.f (eQ.mk b 0) w h).bind λv1=>(Er.Fo 343 v1.2.1).bind λv2=>dm v2 (some (v1.1,v1.2.2.ba,0)) (λrZ=>some ((aL.mk 0 0 []),0,rZ.2.1)))
def qM.R (el:Nat->Addr) (r:(aL×Int×Int)) (u:Value) (G:List Hp):Prop:= ∃(a0:Option Addr) (n0:Nat) (H0:Hp),aj (Fl.int .u8) 5 r.1.C a0 n0 H0/\u=(.tuple #[(.agg #[(ii r.1.W),(ii r.1.H),(ll a0 r.1.C n0)]),(ii r.2.1),(ii r.2.2)])/\G=[H0]
theorem qM.c (H:qM.f b w h=some r) (hG:fM 414 fc gY el F) (gW:aT (Fl.int .u8) b jW F) (gp:List.length b<=jJ):
 QR 192 [(ll jW b jJ),(ii w),(ii h)] [] [] F (qM.R el r):=by
 unfold qM.f at H;refine aD Tryz.func192 J J (λW=>rc T 2 (nc T J (λb1=>ro T 10 (go T [3,4,5] 14 [0,1,2,6] 17 J J J J J J J (ro T 1 (go T [7,8,9] 18 [0,1,2,6] 21 J J J J J J J (ro T 1 (go T [11,12,13] 22 [0,1,2,6] 25 J J J J J J J (ro T 2 (cb J H (λH=>?_) (λH=>?_)))))))))))
 ·refine rc T 3 (sg T 1 J (ro T 6 ?_))
  cases H;refine bw (pb T J (.cK (j:=1) [(ii 0),(ii 0),nl] J J J J J J J (.tmp J (.tmp J .nil))) [2,0] ⟨(_,_),none,0,[],aj.nil,J,J⟩ J J)
 refine rc T 6 (nc T J (λb3=>ro T 8 (kr (vT.R el b3 (ll jW b jJ)) [] [2] J ade H (vT.c (ag:=(eQ.mk b 0)) · (dH hG (j:=0) J) (rO gW 0) gp) (λv1 H=>?_))));rintro _ _ ⟨a4,n4,H4,v5,H5,s4,s5,rfl,rfl⟩;refine fz J (ro T 3 (sg T 1 J (ro T 2 (ks [6,9,10] J (rx T 4 (nc T J (λb6=>sg T 5 J (ro T 5 (br J (gV T J J J J) ?_)))))))));obtain⟨v2,V3,H⟩:=f_ H;rcases v2 with _ |rZ
 ·replace H:=eV J H;obtain⟨MH,My⟩:=YO V3 s5;subst MH;subst My;refine aX (tP (As:=[(cl b6 343 [(.pointer none)])]) (R:=[F,(cl b1 139 [(ii v1.1.W),(ii v1.1.H),(ll a4 v1.1.C n4)]),H4,[],(cl b3 340 [(ll jW b jJ),(ii v1.2.2.ba)])]) (B:=λ_=>[(cl b6 343 [(.pointer none)])]) [5] J J J J JM J J (ME.n _ (dH hG (j:=0) J)) (λ_=>ro T 2 (eN J (rc T 3 (ke [6,9] [0,0,0,1] J J (fz J (rz [] mix (bP bO) (λhg pf=>av 0 sz hg pf J (gA T 1 J J J J J J J) (ha T 4 [1,2,3] sz hg pf J (av 4 sz hg pf J (aw T J J J J (aH (j:=3) J J)) (ao 5 (sf T 1 J (an sz (ha T 0 [6,7] sz hg pf J (ae (rx T 2 ?_))))))))))))))))
  cases H;exact pb T J (.cK (j:=1) [(ii v1.1.W),(ii v1.1.H),(ll a4 v1.1.C n4)] J J J J J J J (.tmp J (.tmp J .nil))) [2,0] ⟨(_,_),a4,n4,H4,s4,J,J⟩ J J
 replace H:=eW J H;obtain⟨b7,v8_,Yc,H8,MH,My,s8⟩:=YP V3 s5;subst MH;subst My;refine IX (j:=3) J (aX (tP (As:=[(cl b6 343 [(.pointer none)])]) (R:=[F,(cl b1 139 [(ii v1.1.W),(ii v1.1.H),(ll a4 v1.1.C n4)]),H4,[(b7,Obj.cells #[(ii rZ.1),(ii rZ.2.1),v8_] Yc (0,0))],(cl b3 340 [(ll jW b jJ),(ii v1.2.2.ba)]),H8]) (B:=λ_=>[(cl b6 343 [(pp b7)])]) [5] J J J J JM J J (ME.s _ _ (dH hG (j:=0) J)) (λ_=>ro T 2 (nh J (rc T 1 (ke [6,11] [0,0,0,0,1,1] J J (fz J (rg [] [0,1,1,1,1] mix (bP bO) (λhg pf=>ha T 7 [0] (so [0,1,1,1,1]) hg pf J (av 1 (so [0,1,1,1,1]) hg pf J (aw T J J J J (aH (j:=4) J J)) (ha T 4 [2,3] (so [0,1,1,1,1]) hg pf J (av 4 (so [0,1,1,1,1]) hg pf J (aw T J J J J (aH (j:=2) J J)) (ao 5 (sf T 1 J (an (so [0,1,1,1,1]) (ha T 1 [6] (so [0,1,1,1,1]) hg pf J (ha T 0 [7] (so [0,1,1,1,1]) hg pf J (ae (rx T 3 ?_)))))))))))))))))))
 cases H;refine bw (pb T J (.cK (j:=1) [(ii 0),(ii 0),nl] J J J J J J J (.tmp J (.tmp J .nil))) [6,0] ⟨(_,_),none,0,[],aj.nil,J,J⟩ J J)
end
noncomputable section
def nV.f (w:Int) (h:Int):Option Bool:=some ((((decide (w≥1))&&(decide (w<=1024)))&&(decide (h≥1)))&&(decide (h<=1024)))
theorem nV.c (H:nV.f w h=some r):
 QU 96 [(ii w),(ii h)] [] F (bb r):=by
 unfold nV.f at H;refine aD Tryz.func96 J J (λW=>rc T 10 (ga T [3,4,5] 7 [1] 10 J J J J J J J (ro T 1 (ga T [7,8,9] 11 [1] 14 J J J J J J J (ro T 1 (ga T [11,12,13] 15 [] 18 J J J J J J J (ro T 4 ?_)))))))
 cases H;exact p0 T J [0] J
def ql.f (w:Int) (h:Int):Option (Int×Int):=(nV.f w h).bind λv1=>if(!v1)=true then(some (0,0)) else(some ((aa (Int.tdiv (aa ((aa (w+16))-1)) 16)),(aa (Int.tdiv (aa ((aa (h+16))-1)) 16))))
theorem ql.c (H:ql.f w h=some r):
 QU 59 [(ii w),(ii h)] [] F (.tuple #[(ii r.1),(ii r.2)]):=by
 unfold ql.f at H;refine aD Tryz.func59 J J (λW=>rc T 11 (k [] J B8 H (nV.c ·) (λv1 H=>ro T 3 (cb J H (λH=>?_) (λH=>?_)))))
 ·refine rc T 8 ?_
  cases H;exact p0 T J [0] J
 refine rc T 17 ?_
 cases H;exact p0 T J [0] J
def zJ.f (w:Int) (h:Int) (bG:Int):Option (Int×Int×Bool):=(ql.f w h).bind λv1=>if((decide (bG<0))||(decide (bG≥(aa (v1.1*v1.2)))))=true then(some (0,0,false)) else(if(¬v1.1=0) then(if(¬v1.1=0) then(some ((aa ((Int.tmod bG v1.1)*16)),(aa ((aa (Int.tdiv bG v1.1))*16)),true)) else none) else none)
theorem zJ.c (H:zJ.f w h bG=some r):
 QU 201 [(ii w),(ii h),(ii bG)] [] F (.tuple #[(ii r.1),(ii r.2.1),(bb r.2.2)]):=by
 unfold zJ.f at H;refine aD Tryz.func201 J J (λW=>rc T 11 (k [] J F7 H (ql.c ·) (λv1 H=>ro T 13 (go T [3,4,5,6,7,8] 19 [2,9] 25 J J J J J J J (ro T 2 (cb J H (λH=>?_) (λH=>?_)))))))
 ·refine rc T 9 ?_
  cases H;exact p0 T J [0] J
 refine rc T 3 (du mix ay (au T J (au T J ?_)));obtain⟨c3,H⟩:=az H;refine aO J J J (vp J J J c3) (au T J (au T J (au T J ?_)));obtain⟨c4,H⟩:=az H;refine aO J J J (vn J J J c4) ?_
 iterate 4 refine au T J ?_
 refine cZ (rx T 2 ?_)
 cases H;exact p0 T J [0] J
def qZ.f (w:Int) (h:Int) (bG:Int):Option (Int×Int):=(zJ.f w h bG).bind λv1=>if(!v1.2.2)=true then(some (0,0)) else(some ((if(aa (w-v1.1))<16 then(aa (w-v1.1)) else 16),(if(aa (h-v1.2.1))<16 then(aa (h-v1.2.1)) else 16)))
theorem qZ.c (H:qZ.f w h bG=some r):
 QU 172 [(ii w),(ii h),(ii bG)] [] F (.tuple #[(ii r.1),(ii r.2)]):=by
 unfold qZ.f at H;refine aD Tryz.func172 J J (λW=>rc T 11 (k [] J Tf H (zJ.c ·) (λv1 H=>ro T 16 (cb J H (λH=>?_) (λH=>?_)))))
 ·refine rc T 8 ?_
  cases H;exact p0 T J [0] J
 refine rc T 17 ?_
 cases H;exact p0 T J [0] J
def zI.f (w:Int) (h:Int) (x:Int) (y:Int):Option Int:=(nV.f w h).bind λv1=>if(((((!v1)||(decide (x<0)))||(decide (x≥w)))||(decide (y<0)))||(decide (y≥h)))=true then(some (-1)) else(some (aa ((aa (y*w))+x)))
theorem zI.c (H:zI.f w h x y=some r):
 QU 202 [(ii w),(ii h),(ii x),(ii y)] [] F (ii r):=by
 unfold zI.f at H;refine aD Tryz.func202 J J (λW=>rc T 10 (k [] J B8 H (nV.c ·) (λv1 H=>ro T 2 (go T [5,6,7] 13 [0,1,2,3] 16 J J J J J J J (ro T 1 (go T [9,10,11,12] 17 [0,1,2,3] 21 J J J J J J J (ro T 1 (go T [14,15,16] 22 [0,1,2,3] 25 J J J J J J J (ro T 1 (go T [18,19,20,21] 26 [0,2,3] 30 J J J J J J J (ro T 2 (cb J H (λH=>?_) (λH=>?_)))))))))))))
 ·refine rc T 7 ?_
  cases H;exact p0 T J [0] J
 refine rc T 13 ?_
 cases H;exact p0 T J [0] J
def tF.f (w:Int) (h:Int) (bG:Int) (p3:Int):Option Int:=(zJ.f w h bG).bind λv1=>(qZ.f w h bG).bind λv2=>if(((!v1.2.2)||(decide (p3<0)))||(decide (p3≥(aa (v2.1*v2.2)))))=true then(some (-1)) else(if(¬v2.1=0) then(if(¬v2.1=0) then((zI.f w h (aa (v1.1+(Int.tmod p3 v2.1))) (aa (v1.2.1+(aa (Int.tdiv p3 v2.1))))).bind λv3=>some v3) else none) else none)
theorem tF.c (H:tF.f w h bG p3=some r):
 QU 173 [(ii w),(ii h),(ii bG),(ii p3)] [] F (ii r):=by
 unfold tF.f at H;refine aD Tryz.func173 J J (λW=>rc T 10 (k [] J Tf H (zJ.c ·) (λv1 H=>ro T 14 (k [] J F3 H (qZ.c ·) (λv2 H=>ro T 13 (go T [3,4,5] 31 [0,1,3,9,10,12,13] 34 J J J J J J J (ro T 1 (go T [7,8,9,10,11,12] 35 [0,1,3,9,10,12] 41 J J J J J J J (ro T 2 (cb J H (λH=>?_) (λH=>?_)))))))))))
 ·refine rc T 7 ?_
  cases H;exact p0 T J [0] J
 refine rc T 3 (du mix ay ?_)
 iterate 5 refine au T J ?_
 obtain⟨c4,H⟩:=az H;refine aO J J J (vp J J J c4) ?_
 iterate 4 refine au T J ?_
 obtain⟨c5,H⟩:=az H;refine aO J J J (vn J J J c5) (au T J ?_);obtain⟨v3,V6,H⟩:=f_ H;refine tQ J J J J J J Tg J (zI.c V6) (au T J (cZ (rx T 2 ?_)))
 cases H;exact p0 T J [0] J
def wC.f (w:Int) (h:Int) (cell:Int):Option Bool:=(nV.f w h).bind λv1=>some ((v1&&(decide (cell≥0)))&&(decide (cell<(aa (w*h)))))
theorem wC.c (H:wC.f w h cell=some r):
 QU 95 [(ii w),(ii h),(ii cell)] [] F (bb r):=by
 unfold wC.f at H;refine aD Tryz.func95 J J (λW=>rc T 9 (k [] J B8 H (nV.c ·) (λv1 H=>ro T 1 (ga T [4,5,6] 10 [0,1,2] 13 J J J J J J J (ro T 1 (ga T [8,9,10,11,12,13] 14 [] 20 J J J J J J J (ro T 4 ?_)))))))
 cases H;exact p0 T J [0] J
def wB.f (w:Int) (h:Int) (cell:Int):Option (Int×Int):=(wC.f w h cell).bind λv1=>if(!v1)=true then(some ((-1),(-1))) else(if(¬w=0) then(if(¬w=0) then(some ((Int.tmod cell w),(aa (Int.tdiv cell w)))) else none) else none)
theorem wB.c (H:wB.f w h cell=some r):
 QU 58 [(ii w),(ii h),(ii cell)] [] F (.tuple #[(ii r.1),(ii r.2)]):=by
 unfold wB.f at H;refine aD Tryz.func58 J J (λW=>rc T 12 (k [] J NB H (wC.c ·) (λv1 H=>ro T 3 (cb J H (λH=>?_) (λH=>?_)))))
 ·refine rc T 8 ?_
  cases H;exact p0 T J [0] J
 refine rc T 3 (du mix ay (au T J (au T J ?_)));obtain⟨c3,H⟩:=az H;refine aO J J J (vp J J J c3) (au T J (au T J ?_));obtain⟨c4,H⟩:=az H;refine aO J J J (vn J J J c4) (au T J (au T J (cZ (rx T 2 ?_))))
 cases H;exact p0 T J [0] J
def gi.f (w:Int) (h:Int) (cell:Int):Option Int:=(wB.f w h cell).bind λv1=>if v1.1<0 then(some (-1)) else((ql.f w h).bind λv2=>some (aa ((aa ((aa (Int.tdiv v1.2 16))*v2.1))+(aa (Int.tdiv v1.1 16)))))
theorem gi.c (H:gi.f w h cell=some r):
 QU 26 [(ii w),(ii h),(ii cell)] [] F (ii r):=by
 unfold gi.f at H;refine aD Tryz.func26 J J (λW=>rc T 10 (k [] J Nz H (wB.c ·) (λv1 H=>ro T 14 (cd J H (λH=>?_) (λH=>?_)))))
 ·refine rc T 7 ?_
  cases H;exact p0 T J [0] J
 refine rc T 6 (k [] J F7 H (ql.c ·) (λv2 H=>ro T 20 ?_))
 cases H;exact p0 T J [0] J
def mf.f (w:Int) (h:Int) (cell:Int) (side:Int):Option Int:=(wB.f w h cell).bind λv1=>if v1.1<0 then(some (-1)) else((if(side==0)=true then(some (Sum.inr (v1.1,(aa (v1.2+(-1)))))) else(if(side==2)=true then(some (Sum.inr (v1.1,(aa (v1.2+1))))) else(if(side==3)=true then(some (Sum.inr ((aa (v1.1+(-1))),v1.2))) else(if(side==1)=true then(some (Sum.inr ((aa (v1.1+1)),v1.2))) else(if(side==4)=true then(some (Sum.inr (v1.1,v1.2))) else(some (Sum.inl (-1)))))))).bind λzz=>match zz with |Sum.inl q=>some q |Sum.inr (x2,x3)=>(zI.f w h x2 x3).bind λv5=>some v5)
theorem mf.c (H:mf.f w h cell side=some r):
 QU 207 [(ii w),(ii h),(ii cell),(ii side)] [] F (ii r):=by
 unfold mf.f at H;refine aD Tryz.func207 J J (λW=>rc T 10 (k [] J Nz H (wB.c ·) (λv1 H=>ro T 14 (cd J H (λH=>?_) (λH=>?_)))))
 ·refine rc T 7 ?_
  cases H;exact p0 T J [0] J
 refine rc T 7 (mq H [0,1] [0] (λz4 (⟨x2,x3⟩:Int×Int)=>((Sum.inr (x2,x3))=z4,[(9,(ii x2)),(10,(ii x3))],[])) J J (λz4 Z3 H=>?_) ?_)
 ·refine rc T 26 (cb J Z3 (λZ3=>?_) (λZ3=>?_))
  ·refine rc T 29 (am (_,_) [0] (oi Z3) J J)
  refine rc T 9 (cb J Z3 (λZ3=>?_) (λZ3=>?_))
  ·refine rc T 26 (am (_,_) [0] (oi Z3) J J)
  refine rc T 9 (cb J Z3 (λZ3=>?_) (λZ3=>?_))
  ·refine rc T 29 (am (_,_) [0] (oi Z3) J J)
  refine rc T 9 (cb J Z3 (λZ3=>?_) (λZ3=>?_))
  ·refine rc T 26 (am (_,_) [0] (oi Z3) J J)
  refine rc T 8 (cb J Z3 (λZ3=>?_) (λZ3=>?_))
  ·refine rc T 17 (am (_,_) [0] (oi Z3) J J)
  refine rc T 25 ?_;obtain rfl:=Option.some.inj Z3;obtain rfl:=Option.some.inj (show some (-1)=some r from H)
  exact p0 T J [0] J
 rintro _ ⟨x2,x3⟩ rfl H;refine rc T 6 (k [] J Tg H (zI.c ·) (λv5 H=>ro T 4 ?_))
 cases H;exact p0 T J [0] J
def qY.f (w:Int) (h:Int) (cell:Int):Option Int:=(wB.f w h cell).bind λv1=>if v1.1<0 then(some (-1)) else((gi.f w h cell).bind λv2=>(qZ.f w h v2).bind λv3=>some (aa ((aa ((Int.tmod v1.2 16)*v3.1))+(Int.tmod v1.1 16))))
theorem qY.c (H:qY.f w h cell=some r):
 QU 165 [(ii w),(ii h),(ii cell)] [] F (ii r):=by
 unfold qY.f at H;refine aD Tryz.func165 J J (λW=>rc T 10 (k [] J Nz H (wB.c ·) (λv1 H=>ro T 14 (cd J H (λH=>?_) (λH=>?_)))))
 ·refine rc T 7 ?_
  cases H;exact p0 T J [0] J
 refine rc T 9 (k [] J qA H (gi.c ·) (λv2 H=>k [] J F3 H (qZ.c ·) (λv3 H=>ro T 20 ?_)))
 cases H;exact p0 T J [0] J
def qm.l0:Nat->Int->Int->Int->Int->Int->Option Int
 |0,_,_,_,_,_=>none
 |k7+1,w,h,a,b,x6=>if x6<=4 then((mf.f w h a x6).bind λv8=>if(v8==b)=true then(some x6) else(qm.l0 k7 w h a b (aa (x6+1)))) else(some 5)
def qm.f (w:Int) (h:Int) (a:Int) (b:Int):Option Int:=((wC.f w h a).bind λv3=>if(!v3)=true then(some true) else((wC.f w h b).bind λv4=>some (!v4))).bind λx1=>if x1=true then(some 5) else(qm.l0 fuel w h a b 0)
theorem qm.c (H:qm.f w h a b=some r):
 QU 178 [(ii w),(ii h),(ii a),(ii b)] [] F (ii r):=by
 unfold qm.f at H;refine aD Tryz.func178 J J (λW=>rc T 6 (mq H [0,1,2,3] [0] (λz2 (x1:Bool)=>(x1=z2,[(21,(bb x1))],[])) J J (λz2 Z1 _=>?_) ?_))
 ·refine rc T 4 (k [] J NB Z1 (wC.c ·) (λv3 Z1=>ro T 2 (ab 15 J Z1 (λZ1=>?_) (λZ1=>?_))))
  ·refine ro T 8 (am _ [0] (oi Z1) J J)
  refine ro T 3 (k [] J NB Z1 (wC.c ·) (λv4 Z1=>ro T 4 (am _ [0] (oi Z1) J J)))
 rintro _ x1 rfl H;refine cb J H (λH=>?_) (λH=>?_)
 ·refine rc T 7 ?_
  cases H;exact p0 T J [0] J
 refine rc T 9 (lq [0,1,2,3] [0] (λ(⟨k7,x6⟩:Nat×Int)=>(qm.l0 k7 w h a b x6=some r,[(9,(ii x6))],[])) J J (fuel,0) [0] H J J ?_);rintro k7 x6 Z6;replace Z6:qm.l0 (k7+1) w h a b x6=some r:=Z6;rw[qm.l0] at Z6;refine rc T 7 (cd J Z6 (λZ6=>?_) (λZ6=>?_))
 ·refine rc T 10 (k [] J Ao Z6 (mf.c ·) (λv8 Z6=>ro T 4 (cb J Z6 (λZ6=>?_) (λZ6=>?_))))
  ·refine rc T 12 ?_
   cases Z6;exact p0 T J [0] J
  refine rc T 9 (ar _ [0] Z6 J J)
 refine rc T 11 ?_
 cases Z6;exact p0 T J [0] J
end
noncomputable section
def BM.f (w:Int) (h:Int):Option Int:=(ql.f w h).bind λv1=>some (aa (v1.1*v1.2))
theorem BM.c (H:BM.f w h=some r):
 QU 191 [(ii w),(ii h)] [] F (ii r):=by
 unfold BM.f at H;refine aD Tryz.func191 J J (λW=>rc T 9 (k [] J F7 H (ql.c ·) (λv1 H=>ro T 16 ?_)))
 cases H;exact p0 T J [0] J
def og.l0:Nat->aL->aL->Int->List Int->Int->Option (List Int)
 |0,_,_,_,_,_=>none
 |k6+1,m,t,v1,x4,x5=>if x5<t.H then(if(0<=(aa (v1+(aa (x5*m.W))))/\(aa (v1+(aa (x5*m.W))))<=(List.length x4:Int)/\(List.length x4:Int)<=(List.length x4:Int)) then(if(0<=(aa (x5*t.W))/\(aa (x5*t.W))<=(aa ((aa (x5+1))*t.W))/\(aa ((aa (x5+1))*t.W))<=(List.length t.C:Int)) then(og.l0 k6 m t v1 (ck x4 (Int.toNat (aa (v1+(aa (x5*m.W))))) (min (List.length (aA t.C (aa (x5*t.W)) (aa ((aa (x5+1))*t.W)))) (List.length (aA x4 (aa (v1+(aa (x5*m.W)))) (List.length x4:Int)))) (aA t.C (aa (x5*t.W)) (aa ((aa (x5+1))*t.W)))) (aa (x5+1))) else none) else none) else(some x4)
def og.f (m:aL) (bG:Int) (t:aL):Option (List Int):=(tF.f m.W m.H bG 0).bind λv1=>og.l0 fuel m t v1 m.C 0
def og.R (ajf:Option Addr) (ajm:Nat) (ajk:Nat) (r:(List Int)) (u:Value) (G:List Hp):Prop:= ∃(H0:Hp),aj (Fl.int .u8) 5 r ajf ajm H0/\List.length r=ajk/\u=(.tuple #[])/\G=[H0]
theorem og.c (H:og.f m bG t=some r) (ahV:aj (Fl.int .u8) 5 m.C oW oC P3) (dR:aT (Fl.int .u8) t.C il F) (fi:List.length t.C<=iv):
 QR 193 [(.agg #[(ii m.W),(ii m.H),(ll oW m.C oC)]),(ii bG),(.agg #[(ii t.W),(ii t.H),(ll il t.C iv)])] [P3] [] F (og.R oW oC (List.length m.C) r):=by
 unfold og.f at H;refine aD Tryz.func193 J J (λW=>rc T 2 (nc T J (λb2=>nc T J (λb3=>ro T 5 (lf T 2 J (ro T 1 (lf T 2 J (ro T 1 (k [] J JC H (tF.c ·) (λv1 H=>ro T 6 (lf T 3 J (ro T 4 (lq [3,5,6,15] [1,2] (λ(⟨k6,x4,x5,H5⟩:Nat×List Int×Int×Hp)=>(og.l0 k6 m t v1 x4 x5=some r/\aj (Fl.int .u8) 5 x4 oW oC H5/\List.length x4=List.length m.C,[(16,(ii x5))],[(cl b2 30 [(ii m.W),(ii m.H),(ll oW x4 oC)]),H5])) J J (fuel,m.C,0,P3) [1,2,1,0] ⟨H,ahV,J⟩ J J ?_)))))))))))));rintro k6 ⟨x4,x5,H5⟩ ⟨Z2,s5,l5⟩;rw[og.l0] at Z2;refine rc T 6 (cd J Z2 (λZ2=>?_) (λZ2=>?_))
 ·refine rc T 10 (fz J (rz [21] mix (bP bO) (λhg pf=>ha T 21 [0] sz hg pf J (av 1 sz hg pf J (aw T J J J J (aH (j:=2) J J)) (ha T 17 [2,3,4] sz hg pf J (av 5 sz hg pf J (aw T J J J J (aH (j:=2) J J)) (ha T 14 [6,7] sz hg pf J ?_)))))));obtain⟨c4,Z2⟩:=az Z2;refine av 8 sz hg pf J (ko T J J J J J J c4 s5.bY) (ha T 12 [9] sz hg pf J (av 10 sz hg pf J (aw T J J J J (aH (j:=1) J J)) (ha T 9 [11,12] sz hg pf J (av 13 sz hg pf J (aw T J J J J (aH (j:=1) J J)) (ha T 4 [14,15,16,17] sz hg pf J (av 18 sz hg pf J (aw T J J J J (aH (j:=1) J J)) (ha T 2 [19] sz hg pf J ?_)))))));obtain⟨c5,Z2⟩:=az Z2;refine av 20 sz hg pf J (ko T J J J J J J c5 fi) (ao 21 ?_);have L6:(Int.toNat (aa (v1+(aa (x5*m.W)))))+(List.length (aA x4 (aa (v1+(aa (x5*m.W)))) (List.length x4:Int)))<=List.length x4:=(HQ c4);refine BL (k:=(Fl.int .u8)) (xs:=x4) (ys:=(aA t.C (aa (x5*t.W)) (aa ((aa (x5+1))*t.W)))) (lo:=(Int.toNat (aa (v1+(aa (x5*m.W)))))) (g:=3) T J J J J J J J J s5 (mW (rO dR 0) c5 fi) (.inr J) L6 (λH6 s6=>?_);have V7:(0<=(aa (v1+(aa (x5*m.W))))/\(aa (v1+(aa (x5*m.W))))<=(List.length x4:Int)/\(List.length x4:Int)<=(List.length (ck x4 (Int.toNat (aa (v1+(aa (x5*m.W))))) (min (List.length (aA t.C (aa (x5*t.W)) (aa ((aa (x5+1))*t.W)))) (List.length (aA x4 (aa (v1+(aa (x5*m.W)))) (List.length x4:Int)))) (aA t.C (aa (x5*t.W)) (aa ((aa (x5+1))*t.W)))):Int)):=by simp only[lU L6];exact c4
  refine kg [3,5,6,7,15,16,19,21,22,23,24,25,26,28,29,30,31,32,33,34,35,36,37,38,39,40] [0,0,1] [0,0,1,0] [(20,(ll oW (ck x4 (Int.toNat (aa (v1+(aa (x5*m.W))))) (min (List.length (aA t.C (aa (x5*t.W)) (aa ((aa (x5+1))*t.W)))) (List.length (aA x4 (aa (v1+(aa (x5*m.W)))) (List.length x4:Int)))) (aA t.C (aa (x5*t.W)) (aa ((aa (x5+1))*t.W)))) oC)),(27,(ll (fW oW oC (Int.toNat (aa (v1+(aa (x5*m.W))))) 1) (aA (ck x4 (Int.toNat (aa (v1+(aa (x5*m.W))))) (min (List.length (aA t.C (aa (x5*t.W)) (aa ((aa (x5+1))*t.W)))) (List.length (aA x4 (aa (v1+(aa (x5*m.W)))) (List.length x4:Int)))) (aA t.C (aa (x5*t.W)) (aa ((aa (x5+1))*t.W)))) (aa (v1+(aa (x5*m.W)))) (List.length x4:Int)) (oC-Int.toNat (aa (v1+(aa (x5*m.W)))))))] [(cl b2 30 [(ii m.W),(ii m.H),(ll oW (ck x4 (Int.toNat (aa (v1+(aa (x5*m.W))))) (min (List.length (aA t.C (aa (x5*t.W)) (aa ((aa (x5+1))*t.W)))) (List.length (aA x4 (aa (v1+(aa (x5*m.W)))) (List.length x4:Int)))) (aA t.C (aa (x5*t.W)) (aa ((aa (x5+1))*t.W)))) oC)])] J J ⟨(by first |rfl |(simp only[ll,lU L6];rfl)),(by simp only[ll];rw[iN V7,<-iN c4];rfl),trivial⟩ (by first |rfl |(simp only[ll,lU L6];rfl)) (an sl (ae (rx T 7 ?_)))
  exact ar (_,_,_) [0,0,1,0] ⟨Z2,s6,(Eq.trans (lU L6) l5)⟩ J J
 refine rc T 4 (iZ ?_)
 cases Z2;exact p1 T J [3,0] ⟨H5,s5,l5,J,J⟩ J
def oZ.l0:Nat->(List Int)->Int->List Int->List Int->Int->Option (aL×Er)
 |0,_,_,_,_,_=>none
 |k9+1,b,v2,x6,x7,x8=>if x8<v2 then((qZ.f (aa (BitVec.toNat (BitVec.ofInt (IntKind.bits .i64) (aa (rd b 0))|||BitVec.ofInt (IntKind.bits .i64) (aa ((aa (rd b 1))*2^8))))) (aa (BitVec.toNat (BitVec.ofInt (IntKind.bits .i64) (aa (rd b 2))|||BitVec.ofInt (IntKind.bits .i64) (aa ((aa (rd b 3))*2^8))))) x8).bind λv10=>(qM.f x6 v10.1 v10.2).bind λv11=>if(v11.2.2 !=0)=true then(some ((aL.mk 0 0 []),(Er.wrap 301 [x8] (Er.num 243 v11.2.2)))) else((og.f (aL.mk (aa (BitVec.toNat (BitVec.ofInt (IntKind.bits .i64) (aa (rd b 0))|||BitVec.ofInt (IntKind.bits .i64) (aa ((aa (rd b 1))*2^8))))) (aa (BitVec.toNat (BitVec.ofInt (IntKind.bits .i64) (aa (rd b 2))|||BitVec.ofInt (IntKind.bits .i64) (aa ((aa (rd b 3))*2^8))))) x7) x8 v11.1).bind λv12=>if(0<=v11.2.1/\v11.2.1<=(List.length x6:Int)/\(List.length x6:Int)<=(List.length x6:Int)) then(oZ.l0 k9 b v2 (aA x6 v11.2.1 (List.length x6:Int)) v12 (aa (x8+1))) else none)) else(if(List.length x6:Int)>0 then(some ((aL.mk 0 0 []),(Er.num 243 3))) else(some ((aL.mk (aa (BitVec.toNat (BitVec.ofInt (IntKind.bits .i64) (aa (rd b 0))|||BitVec.ofInt (IntKind.bits .i64) (aa ((aa (rd b 1))*2^8))))) (aa (BitVec.toNat (BitVec.ofInt (IntKind.bits .i64) (aa (rd b 2))|||BitVec.ofInt (IntKind.bits .i64) (aa ((aa (rd b 3))*2^8))))) x7),Er.nil)))
def oZ.f (b:(List Int)):Option (aL×Er):=if(List.length b:Int)<4 then(some ((aL.mk 0 0 []),(Er.num 243 2))) else(if(0<=(0:Int)/\(0:Int)<(List.length b:Int)) then(if(0<=(1:Int)/\(1:Int)<(List.length b:Int)) then(if(0<=(2:Int)/\(2:Int)<(List.length b:Int)) then(if(0<=(3:Int)/\(3:Int)<(List.length b:Int)) then((nV.f (aa (BitVec.toNat (BitVec.ofInt (IntKind.bits .i64) (aa (rd b 0))|||BitVec.ofInt (IntKind.bits .i64) (aa ((aa (rd b 1))*2^8))))) (aa (BitVec.toNat (BitVec.ofInt (IntKind.bits .i64) (aa (rd b 2))|||BitVec.ofInt (IntKind.bits .i64) (aa ((aa (rd b 3))*2^8)))))).bind λv1=>if(!v1)=true then(some ((aL.mk 0 0 []),(Er.num 243 3))) else(if(0<=(4:Int)/\(4:Int)<=(List.length b:Int)/\(List.length b:Int)<=(List.length b:Int)) then(if(0<=(aa ((aa (BitVec.toNat (BitVec.ofInt (IntKind.bits .i64) (aa (rd b 0))|||BitVec.ofInt (IntKind.bits .i64) (aa ((aa (rd b 1))*2^8)))))*(aa (BitVec.toNat (BitVec.ofInt (IntKind.bits .i64) (aa (rd b 2))|||BitVec.ofInt (IntKind.bits .i64) (aa ((aa (rd b 3))*2^8)))))))/\(aa ((aa (BitVec.toNat (BitVec.ofInt (IntKind.bits .i64) (aa (rd b 0))|||BitVec.ofInt (IntKind.bits .i64) (aa ((aa (rd b 1))*2^8)))))*(aa (BitVec.toNat (BitVec.ofInt (IntKind.bits .i64) (aa (rd b 2))|||BitVec.ofInt (IntKind.bits .i64) (aa ((aa (rd b 3))*2^8)))))))<=1099511627776) then((BM.f (aa (BitVec.toNat (BitVec.ofInt (IntKind.bits .i64) (aa (rd b 0))|||BitVec.ofInt (IntKind.bits .i64) (aa ((aa (rd b 1))*2^8))))) (aa (BitVec.toNat (BitVec.ofInt (IntKind.bits .i64) (aa (rd b 2))|||BitVec.ofInt (IntKind.bits .i64) (aa ((aa (rd b 3))*2^8)))))).bind λv2=>oZ.l0 fuel b v2 (aA b 4 (List.length b:Int)) (List.replicate (Int.toNat (aa ((aa (BitVec.toNat (BitVec.ofInt (IntKind.bits .i64) (aa (rd b 0))|||BitVec.ofInt (IntKind.bits .i64) (aa ((aa (rd b 1))*2^8)))))*(aa (BitVec.toNat (BitVec.ofInt (IntKind.bits .i64) (aa (rd b 2))|||BitVec.ofInt (IntKind.bits .i64) (aa ((aa (rd b 3))*2^8)))))))) (0:Int)) 0) else none) else none)) else none) else none) else none) else none)
def oZ.R (el:Nat->Addr) (r:(aL×Er)) (u:Value) (G:List Hp):Prop:= ∃(a0:Option Addr) (n0:Nat) (H0:Hp) (v1:Value) (H1:Hp),aj (Fl.int .u8) 5 r.1.C a0 n0 H0/\fX 414 el r.2 v1 H1/\u=(.tuple #[(.agg #[(ii r.1.W),(ii r.1.H),(ll a0 r.1.C n0)]),v1])/\G=[H0,H1]
theorem oZ.c (H:oZ.f b=some r) (hG:fM 414 fc gY el F) (gW:aT (Fl.int .u8) b jW F) (gp:List.length b<=jJ):
 QR 147 [(ll jW b jJ)] [] [] F (oZ.R el r):=by
 unfold oZ.f at H;refine aD Tryz.func147 J J (λW=>rc T 2 (nc T J (λb1=>ro T 11 (cd J H (λH=>?_) (λH=>?_)))))
 ·refine rc T 3 (br J (gV T J J J J) (sg T 1 J (ro T 5 ?_)))
  cases H;refine bw (bw (pb T J (.cK (j:=1) [(ii 0),(ii 0),nl] J J J J J J J (.tmp J .nil)) [2,2,0] ⟨(_,_),none,0,[],(.iface 243 (ii 2)),[],aj.nil,rA,J,J⟩ J J))
 refine rc T 3 (ks [0,2] J (fz J (rg [] [0,0] mix (bP bO) (λhg pf=>ha T 22 [0] sz hg pf J ?_))));obtain⟨c2,H⟩:=az H;obtain⟨q4,o4,e4⟩:=gW.addr c2.1 c2.2;refine av 1 sz hg pf J (cO T J J J J J e4 c2.1 c2.2) (av 2 sz hg pf J (aw T J J J J (iU (k:=(Fl.int .u8)) (rO gW 0) e4 c2 0 J)) (ha T 18 [3,4] sz hg pf J ?_));obtain⟨c3,H⟩:=az H;refine av 5 sz hg pf J (cO T J J J J J e4 c3.1 c3.2) (av 6 sz hg pf J (aw T J J J J (iU (k:=(Fl.int .u8)) (rO gW 0) e4 c3 0 J)) (ha T 12 [7,8,9,10] sz hg pf J ?_));obtain⟨c4,H⟩:=az H;refine av 11 sz hg pf J (cO T J J J J J e4 c4.1 c4.2) (av 12 sz hg pf J (aw T J J J J (iU (k:=(Fl.int .u8)) (rO gW 0) e4 c4 0 J)) (ha T 8 [13,14] sz hg pf J ?_));obtain⟨c5,H⟩:=az H;refine av 15 sz hg pf J (cO T J J J J J e4 c5.1 c5.2) (av 16 sz hg pf J (aw T J J J J (iU (k:=(Fl.int .u8)) (rO gW 0) e4 c5 0 J)) (ha T 2 [17,18,19,20] sz hg pf J (ao 21 (nw T J (λb5=>an (so [0,0]) (ao 22 (sf T 2 J (an (so [0,0]) (ae (rx T 5 (lf T 2 J (ro T 1 (lf T 2 J (k [] J B8 H (nV.c ·) (λv1 H=>ro T 3 (cb J H (λH=>?_) (λH=>?_)))))))))))))))))
 ·refine rc T 3 (br J (gV T J J J J) (sg T 1 J (ro T 5 ?_)))
  cases H;refine bw (bw (pb T J (.cK (j:=1) [(ii 0),(ii 0),nl] J J J J J J J (.tmp J .nil)) [3,3,0] ⟨(_,_),none,0,[],(.iface 243 (ii 3)),[],aj.nil,rA,J,J⟩ J J))
 refine rc T 5 ?_;obtain⟨c8,H⟩:=az H;refine br J (ko T J J J J J J c8 gp) (ro T 6 (lf T 2 J (ro T 1 (lf T 2 J (ro T 1 ?_)))));obtain⟨c9,H⟩:=az H;refine aX (u6 (k:=(Fl.int .u8)) T (0:Int) J J J J J J J J c9 J (λa8 n8 H8 s8=>ro T 1 (sg T 2 J (ro T 6 (lf T 2 J (ro T 1 (lf T 2 J (k [] J acS H (BM.c ·) (λv2 H=>ro T 4 (lq [2,4,58] [0,0] (λ(⟨k9,x6,x7,x8,dt,n11,a12,n12,dz⟩:Nat×List Int×List Int×Int×Option Addr×Nat×Option Addr×Nat×Hp)=>(oZ.l0 k9 b v2 x6 x7 x8=some r/\dr (Fl.int .u8) b jW jJ x6 dt n11/\List.length x6<=n11/\aj (Fl.int .u8) 5 x7 a12 n12 dz,[(0,(ll dt x6 n11)),(59,(ii x8))],[(cl b5 30 [(ii (aa (BitVec.toNat (BitVec.ofInt (IntKind.bits .i64) (aa (rd b 0))|||BitVec.ofInt (IntKind.bits .i64) (aa ((aa (rd b 1))*2^8)))))),(ii (aa (BitVec.toNat (BitVec.ofInt (IntKind.bits .i64) (aa (rd b 2))|||BitVec.ofInt (IntKind.bits .i64) (aa ((aa (rd b 3))*2^8)))))),(ll a12 x7 n12)]),dz])) J J (fuel,(aA b 4 (List.length b:Int)),(List.replicate (Int.toNat (aa ((aa (BitVec.toNat (BitVec.ofInt (IntKind.bits .i64) (aa (rd b 0))|||BitVec.ofInt (IntKind.bits .i64) (aa ((aa (rd b 1))*2^8)))))*(aa (BitVec.toNat (BitVec.ofInt (IntKind.bits .i64) (aa (rd b 2))|||BitVec.ofInt (IntKind.bits .i64) (aa ((aa (rd b 3))*2^8)))))))) (0:Int)),0,(fW jW jJ (Int.toNat 4) 1),(jJ-Int.toNat 4),a8,n8,H8) [0,0,0,0] ⟨H,(dr.sub dr.self gp c8),(mz c8 gp),s8⟩ J J ?_))))))))))
 rintro k9 ⟨x6,x7,x8,dt,n11,a12,n12,dz⟩ ⟨bc,yC,Ab,dJ⟩;rw[oZ.l0] at bc;refine rc T 6 (cd J bc (λbc=>?_) (λbc=>?_))
 ·refine rc T 13 (lf T 2 J (ro T 1 (lf T 2 J (ro T 1 (k [] J F3 bc (qZ.c ·) (λv10 bc=>ro T 12 (kr (qM.R el) [] [] J acT bc (qM.c · (dH hG (j:=0) J) (oo yC (rO gW 0) gp) Ab) (λv11 bc=>?_))))))));rintro _ _ ⟨dF,n13,eI,dn,rfl,rfl⟩;refine fz J (ro T 4 (nc T J (λI0=>sg T 5 J (ro T 11 (cb J bc (λbc=>?_) (λbc=>?_))))))
  ·refine rc T 5 (br J (gV T J J J J) (ro T 1 (nc T J (λoh=>bw (gn [6,6] J (br J (gV T J J J J) (sg T 1 J (ro T 10 ?_))))))))
   cases bc;refine bw (pb T J (.cK (j:=1) [(ii 0),(ii 0),nl] J J J J J J J (.tmp J .nil)) [7,6,0] ⟨(_,_),none,0,[],(.iface 301 (pp oh)),(List.flatten [(cl oh 303 [(ii x8),(.iface 243 (ii v11.2.2))]),[]]),aj.nil,(pT rA),J,J⟩ J J)
  refine rc T 4 (lm T 2 J (ro T 1 (lm T 5 J (kr (og.R a12 n12 (List.length x7)) [] [3] J acU bc (og.c (m:=(aL.mk (aa (BitVec.toNat (BitVec.ofInt (IntKind.bits .i64) (aa (rd b 0))|||BitVec.ofInt (IntKind.bits .i64) (aa ((aa (rd b 1))*2^8))))) (aa (BitVec.toNat (BitVec.ofInt (IntKind.bits .i64) (aa (rd b 2))|||BitVec.ofInt (IntKind.bits .i64) (aa ((aa (rd b 3))*2^8))))) x7)) · dJ (oO dn 3) dn.bY) (λv12 bc=>?_)))))
  rintro _ _ ⟨kJ,gR,l19,rfl,rfl⟩;refine fz J (kg [0,2,4,9,58,59] [0,0,3] [0,0,3,0] [] [(cl b5 30 [(ii (aa (BitVec.toNat (BitVec.ofInt (IntKind.bits .i64) (aa (rd b 0))|||BitVec.ofInt (IntKind.bits .i64) (aa ((aa (rd b 1))*2^8)))))),(ii (aa (BitVec.toNat (BitVec.ofInt (IntKind.bits .i64) (aa (rd b 2))|||BitVec.ofInt (IntKind.bits .i64) (aa ((aa (rd b 3))*2^8)))))),(ll a12 v12 n12)])] J J trivial (by first |rfl |(simp only[ll,l19];rfl)) (ro T 5 ?_))
  obtain⟨jq,bc⟩:=az bc;refine br J (ko T J J J J J J jq Ab) (ro T 9 (ar (_,_,_,_,_,_,_,_) [0,0,1,0] ⟨bc,(dr.sub yC gp jq),(mz jq Ab),gR⟩ J J))
 refine rc T 13 (cd J bc (λbc=>?_) (λbc=>?_))
 ·refine rc T 3 (br J (gV T J J J J) (sg T 1 J (ro T 5 ?_)))
  cases bc;refine bw (bw (pb T J (.cK (j:=1) [(ii 0),(ii 0),nl] J J J J J J J (.tmp J .nil)) [4,4,0] ⟨(_,_),none,0,[],(.iface 243 (ii 3)),[],aj.nil,rA,J,J⟩ J J))
 refine rc T 4 (lm T 2 J (sg T 1 J (ro T 4 ?_)))
 cases bc;refine bw (pb T J (.cK (j:=1) [(ii (aa (BitVec.toNat (BitVec.ofInt (IntKind.bits .i64) (aa (rd b 0))|||BitVec.ofInt (IntKind.bits .i64) (aa ((aa (rd b 1))*2^8)))))),(ii (aa (BitVec.toNat (BitVec.ofInt (IntKind.bits .i64) (aa (rd b 2))|||BitVec.ofInt (IntKind.bits .i64) (aa ((aa (rd b 3))*2^8)))))),(ll a12 x7 n12)] J J J J J J J (.tmp J .nil)) [3,3,0] ⟨(_,_),a12,n12,dz,.nilIface,[],dJ,tY,J,J⟩ J J)
def wR.f (b:(List Int)):Option (aL×Int):=(oZ.f b).bind λv1=>(yJ.f v1.2).bind λv2=>if(Option.isSome v2)=true then(some ((aL.mk 0 0 []),(Option.getD v2 0))) else(some (v1.1,0))
def wR.R (el:Nat->Addr) (r:(aL×Int)) (u:Value) (G:List Hp):Prop:= ∃(a0:Option Addr) (n0:Nat) (H0:Hp),aj (Fl.int .u8) 5 r.1.C a0 n0 H0/\u=(.tuple #[(.agg #[(ii r.1.W),(ii r.1.H),(ll a0 r.1.C n0)]),(ii r.2)])/\G=[H0]
theorem wR.c (H:wR.f b=some r) (hG:fM 414 fc gY el F) (gW:aT (Fl.int .u8) b jW F) (gp:List.length b<=jJ):
 QR 114 [(ll jW b jJ)] [] [] F (wR.R el r):=by
 unfold wR.f at H;refine aD Tryz.func114 J J (λW=>rc T 2 (nc T J (λb1=>ro T 6 (kr (oZ.R el) [] [] J acx H (oZ.c · (dH hG (j:=0) J) (rO gW 0) gp) (λv1 H=>?_)))));rintro _ _ ⟨a2,n2,H2,v3,H3,s2,s3,rfl,rfl⟩;refine fz J (ro T 3 (nc T J (λb4=>sg T 4 J (ro T 6 (nc T J (λb5=>sg T 5 J (ro T 1 (ks [2,4,5,6] J (rx T 4 (br J (gV T J J J J) ?_))))))))));obtain⟨v2,V2,H⟩:=f_ H;refine aX (tP (As:=[(cl b5 243 [(ii 0)])]) (R:=[F,(cl b1 30 [(ii 0),(ii 0),nl]),H2,H3,(cl b4 30 [(ii v1.1.W),(ii v1.1.H),(ll a2 v1.1.C n2)])]) (B:=λ_=>[(cl b5 243 [(ii (Option.getD v2 0))])]) [5] J J J J JM J J (yJ.c v1.2 v2 _ V2 (dH hG (j:=0) J) (rB s3 (j:=3) J)) (λ_=>ro T 2 (cb J H (λH=>?_) (λH=>?_))))
 ·refine rc T 1 (ke [2,6] [0,0,3] J J (fz J (rz [] mix (bP bO) (λhg pf=>ha T 3 [0] sz hg pf J (av 1 sz hg pf J (aw T J J J J (aH (j:=2) J J)) (ao 2 (sf T 1 J (an sz (ha T 0 [3] sz hg pf J (ae (rx T 1 (rc T 2 ?_))))))))))))
  cases H;refine bw (pb T J (.cK (j:=1) [(ii 0),(ii 0),nl] J J J J J J J (.tmp J .nil)) [3,0] ⟨(_,_),none,0,[],aj.nil,J,J⟩ J J)
 refine rc T 4 (lm T 4 J (sg T 1 J (ro T 4 ?_)))
 cases H;exact pb T J (.cK (j:=1) [(ii v1.1.W),(ii v1.1.H),(ll a2 v1.1.C n2)] J J J J J J J (.tmp J .nil)) [2,0] ⟨(_,_),a2,n2,H2,s2,J,J⟩ J J
def yB.f (m:aL):Option Bool:=((nV.f m.W m.H).bind λv3=>if v3=true then(if((List.length m.C:Int)==(aa (m.W*m.H)))=true then((wq.f m.C 0).bind λv4=>some (!v4)) else(some false)) else(some false)).bind λx1=>some x1
theorem yB.c (H:yB.f m=some r) (sI:aT (Fl.int .u8) m.C oW F) (va:List.length m.C<=oC):
 QU 148 [(.agg #[(ii m.W),(ii m.H),(ll oW m.C oC)])] [] F (bb r):=by
 unfold yB.f at H;refine aD Tryz.func148 J J (λW=>rc T 2 (nc T J (λb1=>ro T 3 (mq H [] [0] (λz2 (x1:Bool)=>(x1=z2,[(2,(bb x1))],[])) J J (λz2 Z1 _=>?_) ?_))))
 ·refine rc T 2 (lf T 1 J (ro T 1 (lf T 1 J (k [] J B8 Z1 (nV.c ·) (λv3 Z1=>ro T 1 (ab 8 J Z1 (λZ1=>?_) (λZ1=>?_)))))))
  ·refine ro T 1 (lf T 1 J (ro T 2 (lf T 1 J (ro T 1 (lf T 1 J (ro T 4 (ab 19 J Z1 (λZ1=>?_) (λZ1=>?_))))))))
   ·refine ro T 1 (lf T 1 J (k [] J Ng Z1 (wq.c · (rO sI 0) va) (λv4 Z1=>ro T 5 (am _ [0] (oi Z1) J J))))
   refine ro T 8 (am _ [0] (oi Z1) J J)
  refine ro T 19 (am _ [0] (oi Z1) J J)
 rintro _ x1 rfl H;refine rc T 1 ?_
 cases H;exact p0 T J [0] J
end
noncomputable section
def sG.f (cells:Int):Option (Option fy):=if((decide (cells<1))||(decide (cells>1048576)))=true then(some none) else(if(0<=cells/\cells<=1099511627776) then(some (some (fy.mk (List.replicate (Int.toNat cells) (0:Int)) 0))) else none)
def sG.R (r:(Option fy)) (u:Value) (G:List Hp):Prop:= ∃(u0:Value) (G0:List Hp),XX r u0 G0/\u=u0/\G=G0
theorem sG.c (H:sG.f cells=some r):
 QR 153 [(ii cells)] [] [] F (sG.R r):=by
 unfold sG.f at H;refine aD Tryz.func153 J J (λW=>rc T 11 (go T [3,4,5] 5 [0] 8 J J J J J J J (ro T 2 (cb J H (λH=>?_) (λH=>?_)))))
 ·refine rc T 7 ?_
  cases H;exact p1 T J [0] ⟨_,_,⟨J,J⟩,J,J⟩ J
 refine rc T 5 ?_;obtain⟨c2,H⟩:=az H;refine aX (u6 (k:=(Fl.int .u32)) T (0:Int) J J J J J J J J c2 J (λa1 n1 H1 s1=>ro T 1 (nc T J (λb2=>ro T 4 ?_))))
 cases H;exact p1 T J [2,1,0] ⟨_,_,⟨b2,a1,n1,H1,s1,J,J⟩,J,J⟩ J
def yL.f (ag:fy) (cell:Int):Option Bool:=(if cell≥0 then(some (decide (cell<(List.length ag.words:Int)))) else(some false)).bind λx1=>some x1
theorem yL.c (H:yL.f ag cell=some r) (lL:aj (Fl.int .u32) 65 ag.words od oD rj):
 QU 195 [(pp aY),(ii cell)] [(cl aY 221 [(ll od ag.words oD),(ii ag.count)]),rj] F (bb r):=by
 unfold yL.f at H;refine aD Tryz.func195 J J (λW=>rc T 5 (mq H [] [2,0,0] (λz2 (x1:Bool)=>(x1=z2,[(4,(bb x1))],[])) J J (λz2 Z1 _=>?_) ?_))
 ·refine rc T 8 (ad 11 J Z1 (λZ1=>?_) (λZ1=>?_))
  ·refine ro T 4 (lf T 0 J (ro T 6 (am _ [2,0,0] (oi Z1) J J)))
  refine ro T 11 (am _ [2,0,0] (oi Z1) J J)
 rintro _ x1 rfl H;refine rc T 1 ?_
 cases H;exact p0 T J [1,1,0] J
def qz.f (ag:fy) (cell:Int):Option Int:=(yL.f ag cell).bind λv1=>if(!v1)=true then(some (-1)) else(if(0<=cell/\cell<(List.length ag.words:Int)) then(some (aa ((aa (rd ag.words cell))-1))) else none)
theorem qz.c (H:qz.f ag cell=some r) (lL:aj (Fl.int .u32) 65 ag.words od oD rj):
 QU 154 [(pp aY),(ii cell)] [(cl aY 221 [(ll od ag.words oD),(ii ag.count)]),rj] F (ii r):=by
 unfold qz.f at H;refine aD Tryz.func154 J J (λW=>rc T 10 (k [0,0] J Td H (yL.c · lL) (λv1 H=>ro T 3 (cb J H (λH=>?_) (λH=>?_)))))
 ·refine rc T 7 ?_
  cases H;exact p0 T J [0,0,0] J
 refine rc T 7 (lf T 0 J (ro T 1 ?_));obtain⟨c3,H⟩:=az H;obtain⟨q3,o3,e3⟩:=lL.r.addr c3.1 c3.2;refine ix T J e3 c3 (le T 0 (oO lL 1) e3 c3 J J (ro T 6 ?_))
 cases H;exact p0 T J [0,0,0] J
def yK.f (ag:fy) (cell:Int):Option Bool:=((yL.f ag cell).bind λv3=>if v3=true then(if(0<=cell/\cell<(List.length ag.words:Int)) then(some ((rd ag.words cell)==0)) else none) else(some false)).bind λx1=>some x1
theorem yK.c (H:yK.f ag cell=some r) (lL:aj (Fl.int .u32) 65 ag.words od oD rj):
 QU 196 [(pp aY),(ii cell)] [(cl aY 221 [(ll od ag.words oD),(ii ag.count)]),rj] F (bb r):=by
 unfold yK.f at H;refine aD Tryz.func196 J J (λW=>rc T 5 (mq H [] [2,0,0] (λz2 (x1:Bool)=>(x1=z2,[(4,(bb x1))],[])) J J (λz2 Z1 _=>?_) ?_))
 ·refine rc T 3 (k [0,0] J Td Z1 (yL.c · lL) (λv3 Z1=>ro T 1 (ab 8 J Z1 (λZ1=>?_) (λZ1=>?_))))
  ·refine ro T 3 (lf T 0 J (ro T 1 ?_));obtain⟨c4,Z1⟩:=az Z1;obtain⟨q3,o3,e3⟩:=lL.r.addr c4.1 c4.2;refine ix T J e3 c4 (le T 0 (oO lL 1) e3 c4 J J (ro T 5 (am _ [2,0,0] (oi Z1) J J)))
  refine ro T 12 (am _ [2,0,0] (oi Z1) J J)
 rintro _ x1 rfl H;refine rc T 1 ?_
 cases H;exact p0 T J [1,1,0] J
def sE.f (ag:fy) (cell:Int) (p2:Int):Option (Bool×fy):=(yK.f ag cell).bind λv1=>if(((!v1)||(decide (p2<0)))||(decide (p2≥4294967295)))=true then(some (false,ag)) else(if(0<=cell/\cell<(List.length ag.words:Int)) then(some (true,(fy.mk (List.set ag.words (Int.toNat cell) (HV (aa (p2+1)))) (aa (ag.count+1))))) else none)
def sE.R (aY:Nat) (r:(Bool×fy)) (u:Value) (G:List Hp):Prop:= ∃(a0:Option Addr) (n0:Nat) (H0:Hp),aj (Fl.int .u32) 65 r.2.words a0 n0 H0/\u=(bb r.1)/\G=[(cl aY 221 [(ll a0 r.2.words n0),(ii r.2.count)]),H0]
theorem sE.c (H:sE.f ag cell p2=some r) (lL:aj (Fl.int .u32) 65 ag.words od oD rj):
 QR 157 [(pp aY),(ii cell),(ii p2)] [(cl aY 221 [(ll od ag.words oD),(ii ag.count)]),rj] [] F (sE.R aY r):=by
 unfold sE.f at H;refine aD Tryz.func157 J J (λW=>rc T 10 (k [0,0] J Te H (yK.c · lL) (λv1 H=>ro T 2 (go T [5,6,7] 11 [0,1,2] 14 J J J J J J J (ro T 1 (go T [9,10,11] 15 [0,1,2] 18 J J J J J J J (ro T 2 (cb J H (λH=>?_) (λH=>?_)))))))))
 ·refine rc T 7 ?_
  cases H;exact p1 T J [0,0,0] ⟨od,oD,rj,lL,J,J⟩ J
 refine rc T 7 (lf T 0 J (ro T 4 ?_));obtain⟨c3,H⟩:=az H;obtain⟨q3,o3,e3⟩:=lL.r.addr c3.1 c3.2;refine ix T J e3 c3 (aX (jX (k:=(Fl.int .u32)) T 1 0 (HV (aa (p2+1))) J J J J J J lL e3 c3 J J J (λH4 s4=>kg [0] [1,1] [1,1,0] [] [(cl aY 221 [(ll od (List.set ag.words (Int.toNat cell) (HV (aa (p2+1)))) oD),(ii ag.count)])] J J trivial (by first |rfl |(simp only[ll,List.length_set];rfl)) (ro T 7 (lf T 2 J (ro T 3 (sg T 2 J (ro T 8 ?_))))))))
 cases H;exact p1 T J [2,0,0] ⟨od,oD,H4,s4,J,J⟩ J
def sF.f (ag:fy) (cell:Int):Option (Int×fy):=(qz.f ag cell).bind λv1=>if(v1 !=(-1))=true then(if(0<=cell/\cell<(List.length ag.words:Int)) then(some (v1,(fy.mk (List.set ag.words (Int.toNat cell) 0) (aa (ag.count-1))))) else none) else(some (v1,ag))
def sF.R (aY:Nat) (r:(Int×fy)) (u:Value) (G:List Hp):Prop:= ∃(a0:Option Addr) (n0:Nat) (H0:Hp),aj (Fl.int .u32) 65 r.2.words a0 n0 H0/\u=(ii r.1)/\G=[(cl aY 221 [(ll a0 r.2.words n0),(ii r.2.count)]),H0]
theorem sF.c (H:sF.f ag cell=some r) (lL:aj (Fl.int .u32) 65 ag.words od oD rj):
 QR 160 [(pp aY),(ii cell)] [(cl aY 221 [(ll od ag.words oD),(ii ag.count)]),rj] [] F (sF.R aY r):=by
 unfold sF.f at H;refine aD Tryz.func160 J J (λW=>rc T 9 (k [0,0] J F1 H (qz.c · lL) (λv1 H=>ro T 10 (cb J H (λH=>?_) (λH=>?_)))))
 ·refine rc T 5 (lf T 0 J (ro T 1 ?_));obtain⟨c3,H⟩:=az H;obtain⟨q3,o3,e3⟩:=lL.r.addr c3.1 c3.2;refine ix T J e3 c3 (aX (jX (k:=(Fl.int .u32)) T 1 0 0 J J J J J J lL e3 c3 J J J (λH4 s4=>kg [0,5] [1,1] [1,1,0] [] [(cl aY 221 [(ll od (List.set ag.words (Int.toNat cell) 0) oD),(ii ag.count)])] J J trivial (by first |rfl |(simp only[ll,List.length_set];rfl)) (ro T 6 (lf T 2 J (ro T 3 (sg T 2 J (ro T 9 ?_))))))))
  cases H;exact p1 T J [2,0,0] ⟨od,oD,H4,s4,J,J⟩ J
 refine rc T 9 ?_
 cases H;exact p1 T J [0,0,0] ⟨od,oD,rj,lL,J,J⟩ J
def xa.f (ag:fy) (ai:Int) (p2:Int):Option (Bool×fy):=((qz.f ag ai).bind λv3=>if(v3==(-1))=true then(some true) else((yK.f ag p2).bind λv4=>some (!v4))).bind λx1=>if x1=true then(some (false,ag)) else((sF.f ag ai).bind λv5=>(sE.f v5.2 p2 v5.1).bind λv6=>some (v6.1,v6.2))
def xa.R (aY:Nat) (r:(Bool×fy)) (u:Value) (G:List Hp):Prop:= ∃(a0:Option Addr) (n0:Nat) (H0:Hp),aj (Fl.int .u32) 65 r.2.words a0 n0 H0/\u=(bb r.1)/\G=[(cl aY 221 [(ll a0 r.2.words n0),(ii r.2.count)]),H0]
theorem xa.c (H:xa.f ag ai p2=some r) (lL:aj (Fl.int .u32) 65 ag.words od oD rj):
 QR 167 [(pp aY),(ii ai),(ii p2)] [(cl aY 221 [(ll od ag.words oD),(ii ag.count)]),rj] [] F (xa.R aY r):=by
 unfold xa.f at H;refine aD Tryz.func167 J J (λW=>rc T 6 (mq H [0,1,2] [2,0,0] (λz2 (x1:Bool)=>(x1=z2,[(16,(bb x1))],[])) J J (λz2 Z1 _=>?_) ?_))
 ·refine rc T 3 (k [0,0] J F1 Z1 (qz.c · lL) (λv3 Z1=>ro T 2 (ab 11 J Z1 (λZ1=>?_) (λZ1=>?_))))
  ·refine ro T 7 (am _ [2,0,0] (oi Z1) J J)
  refine ro T 2 (k [0,0] J Te Z1 (yK.c · lL) (λv4 Z1=>ro T 4 (am _ [2,0,0] (oi Z1) J J)))
 rintro _ x1 rfl H;refine cb J H (λH=>?_) (λH=>?_)
 ·refine rc T 7 ?_
  cases H;exact p1 T J [1,1,0] ⟨od,oD,rj,lL,J,J⟩ J
 refine rc T 8 (kr (sF.R aY) [] [1,1] J S8 H (sF.c · lL) (λv5 H=>?_));rintro _ _ ⟨a3,n3,H3,s3,rfl,rfl⟩;refine fz J (kr (sE.R aY) [] [1,1] J S7 H (sE.c · s3) (λv6 H=>?_));rintro _ _ ⟨a4,n4,H4,s4,rfl,rfl⟩;refine fz J (ro T 4 ?_)
 cases H;exact p1 T J [1,1,0] ⟨a4,n4,H4,s4,J,J⟩ J
end
noncomputable section
def pB.l0:Nat->Int->Int->(List aF)->Int->(List (Int×Bool))->Int->Option Bool
 |0,_,_,_,_,_,_=>none
 |k8+1,w,h,l,x5,x6,x7=>if x7<(List.length l:Int) then(if(0<=x7/\x7<(List.length l:Int)) then((if(rd l x7).Id<=x5 then(some true) else((gi.f w h ((rd l x7).Cell)).bind λv11=>if v11<0 then(some true) else((gi.f w h ((rd l x7).Goal)).bind λv12=>if v12<0 then(some true) else(some (aP x6 ((rd l x7).Cell)))))).bind λx9=>if x9=true then(some false) else(pB.l0 k8 w h l ((rd l x7).Id) (cC x6 ((rd l x7).Cell) true) (aa (x7+1)))) else none) else(some true)
def pB.f (w:Int) (h:Int) (l:(List aF)):Option Bool:=(nV.f w h).bind λv1=>if(!v1)=true then(some false) else(pB.l0 fuel w h l (-1) ([]:(List (Int×Bool))) 0)
theorem pB.c (H:pB.f w h l=some r) (df:aT lI l ik F) (gu:List.length l<=gZ):
 QU 61 [(ii w),(ii h),(ll ik l gZ)] [] F (bb r):=by
 unfold pB.f at H;refine aD Tryz.func61 J J (λW=>rc T 10 (k [] J B8 H (nV.c ·) (λv1 H=>ro T 3 (cb J H (λH=>?_) (λH=>?_)))))
 ·refine rc T 7 ?_
  cases H;exact p0 T J [0] J
 refine rc T 11 (aX (u7 T (Ky.int .i64 u3) (λx:Bool=>Value.bool x) J J J ⟨_,_,J⟩ (λa1 H1 s1=>ro T 12 (lq [0,1,18,19] [0] (λ(⟨k8,x5,x6,x7,a3,H3⟩:Nat×Int×(List (Int×Bool))×Int×Nat×Hp)=>(pB.l0 k8 w h l x5 x6 x7=some r/\cM (Ky.int .i64 u3) (λx:Bool=>Value.bool x) x6 a3 H3,[(7,(ii x5)),(8,(.map (some a3))),(20,(ii x7))],[H3])) J J (fuel,(-1),([]:(List (Int×Bool))),0,a1,H1) [0,0] ⟨H,s1⟩ J J ?_))));rintro k8 ⟨x5,x6,x7,a3,H3⟩ ⟨Z3,s3⟩;rw[pB.l0] at Z3;refine rc T 6 (cd J Z3 (λZ3=>?_) (λZ3=>?_))
 ·refine rc T 6 ?_;obtain⟨c5,Z3⟩:=az Z3;obtain⟨q4,o4,e4⟩:=df.addr c5.1 c5.2;refine ix T J e4 c5 (br J (fQ T (cs:=[(ii (rd l x7).Id),(ii (rd l x7).Cell),(ii (rd l x7).Goal)]) J J J J J J (gX (k:=lI) (rO df 0) e4 c5 J)) (nc T J (λb5=>sg T 2 J (ro T 3 (mq Z3 [0,1,8,10,18,19,20] [0,0,0] (λnZ (x9:Bool)=>(x9=nZ,[(49,(bb x9))],[])) J J (λnZ Z6 _=>?_) ?_)))))
  ·refine rc T 2 (lf T 2 J (ro T 3 (ad 28 J Z6 (λZ6=>?_) (λZ6=>?_))))
   ·refine ro T 23 (am _ [0,0,0] (oi Z6) J J)
   refine ro T 3 (lf T 2 J (k [] J qA Z6 (gi.c ·) (λv11 Z6=>ro T 3 (ad 36 J Z6 (λZ6=>?_) (λZ6=>?_)))))
   ·refine ro T 15 (am _ [0,0,0] (oi Z6) J J)
   refine ro T 3 (lf T 2 J (k [] J qA Z6 (gi.c ·) (λv12 Z6=>ro T 3 (ad 44 J Z6 (λZ6=>?_) (λZ6=>?_)))))
   ·refine ro T 7 (am _ [0,0,0] (oi Z6) J J)
   refine ro T 2 (lf T 2 J (br J (pV (k:=(rd l x7).Cell) T (Ky.int .i64 u3) (λx:Bool=>Value.bool x) J J J J J (oB s3 (j:=1) J)) (ro T 3 (am _ [0,0,0] (oi Z6) J J))))
  rintro _ x9 rfl Z3;refine cb J Z3 (λZ3=>?_) (λZ3=>?_)
  ·refine rc T 12 ?_
   cases Z3;exact p0 T J [0] J
  refine rc T 2 (fz J (rz [6] mix (bP bO) (λhg pf=>ha T 5 [0,1] sz hg pf J (av 2 sz hg pf J (aw T J J J J (aH (j:=2) J J)) (ha T 3 [3] sz hg pf J (av 4 sz hg pf J (aw T J J J J (aH (j:=2) J J)) (ha T 1 [5] sz hg pf J (ao 6 (pP (g:=1) (m:=x6) (k:=(rd l x7).Cell) (v:=true) T (Ky.int .i64 u3) (λx:Bool=>Value.bool x) J J J J J J J s3 (λH6 s6=>an sl (ae (rx T 7 (ar (_,_,_,_,_) [0,0] ⟨Z3,s6⟩ J J)))))))))))))
 refine rc T 11 ?_
 cases Z3;exact p0 T J [0] J
def nJ.l0:Nat->(List aF)->List Int->(List (Int×Bool))->Int->Option (List Int)
 |0,_,_,_,_=>none
 |k7+1,l,x4,x5,x6=>if x6<(List.length l:Int) then(if(0<=x6/\x6<(List.length l:Int)) then(if(!(aP x5 ((rd l x6).Goal)))=true then(if(List.length x4+1<=1099511627776) then(nJ.l0 k7 l (x4++[(rd l x6).Goal]) (cC x5 ((rd l x6).Goal) true) (aa (x6+1))) else none) else(nJ.l0 k7 l x4 x5 (aa (x6+1)))) else none) else(some x4)
def nJ.f (l:(List aF)):Option (List Int):=nJ.l0 fuel l [] ([]:(List (Int×Bool))) 0
def nJ.R (r:(List Int)) (u:Value) (G:List Hp):Prop:= ∃(a0:Option Addr) (n0:Nat) (H0:Hp),aj (Fl.int .i64) 3 r a0 n0 H0/\u=(ll a0 r n0)/\G=[H0]
theorem nJ.c (H:nJ.f l=some r) (df:aT lI l ik F) (gu:List.length l<=gZ):
 QR 29 [(ll ik l gZ)] [] [] F (nJ.R r):=by
 unfold nJ.f at H;refine aD Tryz.func29 J J (λW=>rc T 12 (aX (u7 T (Ky.int .i64 u3) (λx:Bool=>Value.bool x) J J J trivial (λa1 H1 s1=>ro T 12 (bw (lq [8,9] [0] (λ(⟨k7,x4,x5,x6,a4,n4,H4,a5,H5⟩:Nat×List Int×(List (Int×Bool))×Int×Option Addr×Nat×Hp×Nat×Hp)=>(nJ.l0 k7 l x4 x5 x6=some r/\aj (Fl.int .i64) 3 x4 a4 n4 H4/\cM (Ky.int .i64 u3) (λx:Bool=>Value.bool x) x5 a5 H5,[(3,(ll a4 x4 n4)),(4,(.map (some a5))),(10,(ii x6))],[H4,H5])) J J (fuel,[],([]:(List (Int×Bool))),0,none,0,[],a1,H1) [0,1,0] ⟨H,aj.nil,s1⟩ J J ?_))))));rintro k7 ⟨x4,x5,x6,a4,n4,H4,a5,H5⟩ ⟨Z1,s4,s5⟩;rw[nJ.l0] at Z1;refine rc T 6 (cd J Z1 (λZ1=>?_) (λZ1=>?_))
 ·refine rc T 6 ?_;obtain⟨c3,Z1⟩:=az Z1;obtain⟨q6,o6,e6⟩:=df.addr c3.1 c3.2;refine ix T J e6 c3 (br J (fQ T (cs:=[(ii (rd l x6).Id),(ii (rd l x6).Cell),(ii (rd l x6).Goal)]) J J J J J J (gX (k:=lI) (rO df 0) e6 c3 J)) (nc T J (λb7=>sg T 3 J (ro T 6 (lf T 3 J (br J (pV (k:=(rd l x6).Goal) T (Ky.int .i64 u3) (λx:Bool=>Value.bool x) J J J J J (oB s5 (j:=2) J)) (ro T 3 (cb J Z1 (λZ1=>?_) (λZ1=>?_)))))))))
  ·refine rc T 4 (lf T 3 J (aX (pP (g:=2) (m:=x5) (k:=(rd l x6).Goal) (v:=true) T (Ky.int .i64 u3) (λx:Bool=>Value.bool x) J J J J J J J s5 (λH8 s8=>ro T 5 (lf T 3 J (aX (cU (k:=(Fl.int .i64)) T [(rd l x6).Goal] J J J J J J J J J (λa9 H9 s9=>?_))))))));obtain⟨c5,Z1⟩:=az Z1;refine aX (d_ (k:=(Fl.int .i64)) (xs:=x4) T (g:=1) J J J J J J J J J J s4 (oO s9 4) c5 J (λcw n10 bX bT=>ro T 2 (ke [3,4,8,9,10] [0,0,0] J J (rx T 7 (ar (_,_,_,_,_,_,_,_) [0,0,0] ⟨Z1,bT,s8⟩ J J)))))
  refine rc T 8 (ar (_,_,_,_,_,_,_,_) [0,0,0] ⟨Z1,s4,s5⟩ J J)
 refine rc T 12 ?_
 cases Z1;exact p1 T J [1,0] ⟨a4,n4,H4,s4,J,J⟩ J
def j4.l1:Nat->(List Int)->(List (Int×(List cj)))->List Int->List cj->Int->Option (List cj)
 |0,_,_,_,_,_=>none
 |Kh+1,v17,bW,dy,qn,iz=>if iz<(List.length v17:Int) then(if(0<=iz/\iz<(List.length v17:Int)) then(if(¬(rd v17 iz)∈dy) then(if(List.length qn+List.length (aP bW (rd v17 iz))<=1099511627776) then(j4.l1 Kh v17 bW ((rd v17 iz)::dy) (qn++(aP bW (rd v17 iz))) (aa (iz+1))) else none) else none) else none) else(some qn)
def j4.l0:Nat->Int->Int->(List aF)->(List (Int×(List cj)))->(List ((Int×Int)×Int))->Int->Option (List cj)
 |0,_,_,_,_,_,_=>none
 |k8+1,w,h,l,x5,x6,x7=>if x7<(List.length l:Int) then((if(0<=x7/\x7<(List.length l:Int)) then((gi.f w h ((rd l x7).Cell)).bind λv12=>(if(!(bN x6 ((rd l x7).Goal,v12)))=true then(if(List.length (aP x5 ((rd l x7).Goal))+1<=1099511627776) then(some ((cC x5 ((rd l x7).Goal) ((aP x5 ((rd l x7).Goal))++[(cj.mk ((rd l x7).Goal) v12 [])])),(cC x6 ((rd l x7).Goal,v12) (List.length (aP x5 ((rd l x7).Goal)):Int)),(List.length (aP x5 ((rd l x7).Goal)):Int))) else none) else(some (x5,x6,(aP x6 ((rd l x7).Goal,v12))))).bind λ(aU,bd,ct)=>if(0<=ct/\ct<(List.length (aP aU ((rd l x7).Goal)):Int)) then(if(List.length ((rd (aP aU ((rd l x7).Goal)) ct).cT)+1<=1099511627776) then(some ((sP aU ((rd l x7).Goal) (List.set (aP aU ((rd l x7).Goal)) (Int.toNat ct) (cj.mk ((rd (aP aU ((rd l x7).Goal)) ct).Goal) ((rd (aP aU ((rd l x7).Goal)) ct).eU) ((rd (aP aU ((rd l x7).Goal)) ct).cT++[(rd l x7).Id])))),bd)) else none) else none) else none).bind λ(x9,aN)=>j4.l0 k8 w h l x9 aN (aa (x7+1))) else((nJ.f l).bind λv17=>j4.l1 fuel v17 x5 [] [] 0)
def j4.f (w:Int) (h:Int) (l:(List aF)):Option (List cj):=(pB.f w h l).bind λv1=>if(!v1)=true then(some []) else(j4.l0 fuel w h l ([]:(List (Int×(List cj)))) ([]:(List ((Int×Int)×Int))) 0)
def j4.R (r:(List cj)) (u:Value) (G:List Hp):Prop:= ∃(a0:Option Addr) (n0:Nat) (H0:Hp),gz pC 120 r a0 n0 H0/\u=(ll a0 r n0)/\G=[H0]
theorem j4.c (H:j4.f w h l=some r) (df:aT lI l ik F) (gu:List.length l<=gZ):
 QR 28 [(ii w),(ii h),(ll ik l gZ)] [] [] F (j4.R r):=by
 unfold j4.f at H;refine aD Tryz.func28 J J (λW=>rc T 11 (k [] J TE H (pB.c · (rO df 0) gu) (λv1 H=>ro T 3 (cb J H (λH=>?_) (λH=>?_)))))
 ·refine rc T 7 ?_
  cases H;refine bw (p1 T J [1,0] ⟨none,0,[],gz.nil,J,J⟩ J)
 refine rc T 4 (aX (u7 T (Ky.int .i64 u3) ug J J J trivial (λa2 H2 s2=>ro T 5 (aX (u7 T (Ky.pair T .i64 J J J lM u3) (λx:Int=>Value.int .i64 x) J J J trivial (λa3 H3 s3=>ro T 12 (lq [0,1,2,26,27] [0] (λ(⟨k8,x5,x6,x7,a6,H6,a7,H7⟩:Nat×(List (Int×(List cj)))×(List ((Int×Int)×Int))×Int×Nat×Hp×Nat×Hp)=>(j4.l0 k8 w h l x5 x6 x7=some r/\wN (gz pC 120) (Ky.int .i64 u3) [] x5 a6 H6/\cM (Ky.pair T .i64 J J J lM u3) (λx:Int=>Value.int .i64 x) x6 a7 H7,[(7,(.map (some a6))),(8,(.map (some a7))),(28,(ii x7))],[H6,H7])) J J (fuel,([]:(List (Int×(List cj)))),([]:(List ((Int×Int)×Int))),0,a2,H2,a3,H3) [0,0,0] ⟨H,(afR (S:=(gz pC 120)) s2),s3⟩ J J ?_)))))));rintro k8 ⟨x5,x6,x7,a6,H6,a7,H7⟩ ⟨Z3,s6,s7⟩;rw[j4.l0] at Z3;refine rc T 6 (cd J Z3 (λZ3=>?_) (λZ3=>?_))
 ·refine rc T 2 (mq Z3 [0,1,2,26,27,28] [0] (λlO (⟨x9,aN,a8,H8,a9,H9⟩:(List (Int×(List cj)))×(List ((Int×Int)×Int))×Nat×Hp×Nat×Hp)=>((x9,aN)=lO/\wN (gz pC 120) (Ky.int .i64 u3) [] x9 a8 H8/\cM (Ky.pair T .i64 J J J lM u3) (λx:Int=>Value.int .i64 x) aN a9 H9,[(7,(.map (some a8))),(8,(.map (some a9)))],[H8,H9])) J J (λlO Z5 _=>?_) ?_)
  ·refine rc T 3 ?_;obtain⟨c6,Z5⟩:=az Z5;obtain⟨KR,KH,pS⟩:=df.addr c6.1 c6.2;refine ix T J pS c6 (br J (fQ T (cs:=[(ii (rd l x7).Id),(ii (rd l x7).Cell),(ii (rd l x7).Goal)]) J J J J J J (gX (k:=lI) (rO df 0) pS c6 J)) (nc T J (λjF=>sg T 3 J (ro T 7 (lf T 3 J (k [] J qA Z5 (gi.c ·) (λv12 Z5=>ro T 6 (lf T 3 J (ro T 1 (br J (Jm T J J J J J J) (nc T J (λkN=>sg T 4 J (ro T 5 (lm T 4 J (br J (pV (k:=((rd l x7).Goal,v12)) T (Ky.pair T .i64 J J J lM u3) (λx:Int=>Value.int .i64 x) J J J J J (oB s7 (j:=2) J)) (ro T 7 (mq Z5 [0,1,2,10,26,27,28] [0,2] (λIo (⟨aU,bd,ct,dF,eI,iE,fI⟩:(List (Int×(List cj)))×(List ((Int×Int)×Int))×Int×Nat×Hp×Nat×Hp)=>((aU,bd,ct)=Io/\wN (gz pC 120) (Ky.int .i64 u3) [] aU dF eI/\cM (Ky.pair T .i64 J J J lM u3) (λx:Int=>Value.int .i64 x) bd iE fI,[(7,(.map (some dF))),(8,(.map (some iE))),(13,(ii ct))],[eI,fI])) J J (λIo Z8 _=>?_) ?_)))))))))))))))))
   ·refine rc T 6 (cb J Z8 (λZ8=>?_) (λZ8=>?_))
    ·refine rc T 4 (lf T 3 J (Fu (j:=1) (gz.nil (kd:=pC) (E:=120)) ((rd l x7).Goal) bj J s6 (λjE n15 dE fN dN fj=>br J (FR (kx:=(rd l x7).Goal) (v:=(jE,List.length (aP x5 ((rd l x7).Goal)),n15)) T (Ky.int .i64 u3) J J J J J (GC (j:=1) J fj)) (ro T 3 (Zg (j:=1) (q:=5) J fj J J dN J (λez fw=>ke [0,1,2,7,8,10,11,12,13,26,27,28] [0,0,0,0,0] J J (rx T 4 (lm T 4 J (ro T 1 (aX (pP (g:=2) (m:=x6) (k:=((rd l x7).Goal,v12)) (v:=(List.length (aP x5 ((rd l x7).Goal)):Int)) T (Ky.pair T .i64 J J J lM u3) (λx:Int=>Value.int .i64 x) J J J J J J J s7 (λe_ fk=>ro T 2 (ke [0,1,2,7,8,10,11,13,26,27,28] [0,0,0,0] J J (fz J (rg [13] [0,1,1] mix (bP bO) (λhg pf=>ha T 12 [0,1] (so [0,1,1]) hg pf J (av 2 (so [0,1,1]) hg pf J (aw T J J J J (aH (j:=2) J J)) (ha T 9 [3,4] (so [0,1,1]) hg pf J (av 5 (so [0,1,1]) hg pf J (aw T J J J J (aH (j:=2) J J)) (ha T 7 [7] (so [0,1,1]) hg pf J (av 8 (so [0,1,1]) hg pf J (aw T J J J J (aH (j:=2) J J)) (ha T 4 [9,10] (so [0,1,1]) hg pf J (gB 6 11 ?_ ?_)))))))))))))))))))))))
     ·refine Fu (j:=1) (gz.nil (kd:=pC) (E:=120)) ((rd l x7).Goal) bj J fw (λmj n19 kJ oa gR l9=>lB J (FR (kx:=(rd l x7).Goal) (v:=(mj,List.length (aP x5 ((rd l x7).Goal)),n19)) T (Ky.int .i64 u3) J J J J J (GC (j:=1) J l9)) (an (so [0,1,1]) (ao 11 (bw (gn [5] J (Ft (kd:=pC) (E:=120) (q:=5) (c:=[(ii (rd l x7).Goal),(ii v12),nl]) T (cj.mk ((rd l x7).Goal) v12 []) J J J J J J J J J J ⟨none,0,[],(aj.nil (k:=(Fl.int .i64)) (E:=3)),J,J⟩ (λa23 jD gS=>an (so [0,1,1]) (ao 12 ?_))))))));obtain⟨iG,Z8⟩:=az Z8;refine Fs (kd:=pC) (xs:=(aP x5 ((rd l x7).Goal))) (ys:=[(cj.mk ((rd l x7).Goal) v12 [])]) T (g:=4) (q:=6) J J J J J J J J J J gR J J gS iG J (λa24 n24 oc lj=>an (so [0,1,1]) (ao 13 (Qz (q:=4) (kx:=(rd l x7).Goal) (ys:=((aP x5 ((rd l x7).Goal))++[(cj.mk ((rd l x7).Goal) v12 [])])) T (Ky.int .i64 u3) 1 J J J J J J J l9 J J lj (λgL iW=>an sl (ae (rx T 1 (am (_,_,_,_,_,_,_) [0,2,0,0] ⟨oi Z8,iW,fk⟩ J J)))))))
     refine bw (gn [4] J (Ft (kd:=pC) (E:=120) (q:=4) (c:=[(ii (rd l x7).Goal),(ii v12),nl]) T (cj.mk ((rd l x7).Goal) v12 []) J J J J J J J J J J ⟨none,0,[],(aj.nil (k:=(Fl.int .i64)) (E:=3)),J,J⟩ (λa28 uM j7=>an (so [0,1,1]) (ao 6 (Fu (j:=1) (gz.nil (kd:=pC) (E:=120)) ((rd l x7).Goal) bj J fw (λyy n29 rh pL qO nM=>lB J (FR (kx:=(rd l x7).Goal) (v:=(yy,List.length (aP x5 ((rd l x7).Goal)),n29)) T (Ky.int .i64 u3) J J J J J (GC (j:=1) J nM)) (an (so [0,1,1]) (ao 12 ?_))))))));obtain⟨dG,Z8⟩:=az Z8;refine Fs (kd:=pC) (xs:=(aP x5 ((rd l x7).Goal))) (ys:=[(cj.mk ((rd l x7).Goal) v12 [])]) T (g:=6) (q:=5) J J J J J J J J J J qO J J j7 dG J (λa31 n31 Bv zu=>an (so [0,1,1]) (ao 13 (Qz (q:=6) (kx:=(rd l x7).Goal) (ys:=((aP x5 ((rd l x7).Goal))++[(cj.mk ((rd l x7).Goal) v12 [])])) T (Ky.int .i64 u3) 1 J J J J J J J nM J J zu (λzP s_=>an sl (ae (rx T 1 (am (_,_,_,_,_,_,_) [0,2,0,0] ⟨oi Z8,s_,fk⟩ J J)))))))
    refine rc T 2 (am (_,_,_,_,_,_,_) [0,2,0,0] ⟨oi Z8,s6,s7⟩ J J)
   rintro _ ⟨aU,bd,ct,dF,eI,iE,fI⟩ ⟨rfl,dn,gh⟩ Z5;refine rc T 4 (lf T 1 J (Fu (j:=2) (gz.nil (kd:=pC) (E:=120)) ((rd l x7).Goal) bj J dn (λa33 n33 Iu tJ wc uC=>br J (FR (kx:=(rd l x7).Goal) (v:=(a33,List.length (aP aU ((rd l x7).Goal)),n33)) T (Ky.int .i64 u3) J J J J J (GC (j:=2) J uC)) (ro T 1 ?_))));obtain⟨gU,Z5⟩:=az Z5;obtain⟨q35,o35,Mx⟩:=wc.r.addr gU.1 gU.2;refine ix T J Mx gU (ro T 3 (LY (j:=4) J wc gU (λ_ _ EX o37 C1=>?_)));obtain⟨zY,n36,zR,C0,rfl,rfl⟩:=o37;refine L1 (ks [0,1,2,7,8,10,15,26,27,28] J (fz J (rg [8,11] [0,0,0,0,0,0] mix (bP bO) (λhg pf=>ha T 8 [0,1,2,3] sz hg pf J (av 4 sz hg pf J (aw T J J J J (uj (j:=4) J (uU.cells C1) Mx 2 J)) (ha T 6 [5] sz hg pf J (av 6 sz hg pf J (aw T J J J J (aH (j:=1) J J)) (ao 7 (cU (k:=(Fl.int .i64)) T [(rd l x7).Id] J J J J J J J J J (λIH zS A7=>an (so [0,0,0,0,0,0]) (ao 8 ?_)))))))))));obtain⟨i_,Z5⟩:=az Z5;refine d_ (k:=(Fl.int .i64)) (xs:=(rd (aP aU ((rd l x7).Goal)) ct).cT) T (g:=5) J J J J J J J J J J C0 (oO A7 6) i_ J (λa39 n39 Lw A8=>an sl (hb T 9 sl hg pf J (hb T 10 sl hg pf J (ao 11 (LZ T 4 2 [(ii (rd (aP aU ((rd l x7).Goal)) ct).Goal),(ii (rd (aP aU ((rd l x7).Goal)) ct).eU),(ll a39 ((rd (aP aU ((rd l x7).Goal)) ct).cT++[(rd l x7).Id]) n39)] J J J J J J C1 Mx J J J J (λLx Ey=>an sl (ae (gn [5] J (LX (j:=4) (q:=6) (cj.mk ((rd (aP aU ((rd l x7).Goal)) ct).Goal) ((rd (aP aU ((rd l x7).Goal)) ct).eU) ((rd (aP aU ((rd l x7).Goal)) ct).cT++[(rd l x7).Id])) J Ey J J ⟨a39,n39,Lw,A8,J,J⟩ (λgm qP=>QA (j:=2) (q:=4) (List.set (aP aU ((rd l x7).Goal)) (Int.toNat ct) (cj.mk ((rd (aP aU ((rd l x7).Goal)) ct).Goal) ((rd (aP aU ((rd l x7).Goal)) ct).eU) ((rd (aP aU ((rd l x7).Goal)) ct).cT++[(rd l x7).Id]))) J uC J J qP (by simp only[List.length_set]) (λEY zv=>rx T 2 (am (_,_,_,_,_,_) [0,1,1] ⟨oi Z5,zv,gh⟩ J J))))))))))))
  rintro _ ⟨x9,aN,a8,H8,a9,H9⟩ ⟨rfl,s8,s9⟩ Z3;refine rc T 5 (ar (_,_,_,_,_,_,_) [0,0,0] ⟨Z3,s8,s9⟩ J J)
 refine rc T 14 (kr nJ.R [] [] J adL Z3 (nJ.c · (rO df 0) gu) (λv17 Z3=>?_));rintro _ _ ⟨a44,n44,P2,xN,rfl,rfl⟩;refine fz J (ro T 5 (bw (lq [89,90] [0,2] (λ(⟨Kh,bW,dy,qn,iz,IJ,EZ,Fa,n48,E0⟩:Nat×(List (Int×(List cj)))×List Int×List cj×Int×Nat×Hp×Option Addr×Nat×Hp)=>(j4.l1 Kh v17 bW dy qn iz=some r/\wN (gz pC 120) (Ky.int .i64 u3) dy bW IJ EZ/\gz pC 120 qn Fa n48 E0,[(7,(.map (some IJ))),(16,(ll Fa qn n48)),(91,(ii iz))],[EZ,E0])) J J (fuel,x5,[],[],0,a6,H6,none,0,[]) [0,2,0,1] ⟨Z3,s6,gz.nil⟩ J J ?_)));rintro Kh ⟨bW,dy,qn,iz,IJ,EZ,Fa,n48,E0⟩ ⟨dj,Hv,KX⟩;rw[j4.l1] at dj;refine rc T 6 (cd J dj (λdj=>?_) (λdj=>?_))
 ·refine rc T 6 ?_;obtain⟨jq,dj⟩:=az dj;obtain⟨q49,o49,RG⟩:=xN.r.addr jq.1 jq.2;refine ix T J RG jq (le T 0 (oO xN 1) RG jq J J (ro T 7 ?_));obtain⟨lD,dj⟩:=az dj;refine Fu (j:=2) (gz.nil (kd:=pC) (E:=120)) (rd v17 iz) lD J Hv (λa50 n50 XO XP Pg KY=>br J (FR (kx:=(rd v17 iz)) (v:=(a50,List.length (aP bW (rd v17 iz)),n50)) T (Ky.int .i64 u3) J J J J J (GC (j:=2) J KY)) ?_);obtain⟨Ac,dj⟩:=az dj;refine aX (Fs (kd:=pC) (xs:=qn) (ys:=(aP bW (rd v17 iz))) T (g:=3) (q:=4) J J J J J J J J J J KX J J Pg Ac J (λLF n52 Ly Ez=>ro T 2 (Zh (j:=2) J KY (λXQ Ph=>rx T 7 (ar (_,_,_,_,_,_,_,_,_) [0,0,0,0] ⟨dj,Ph,Ez⟩ J J)))))
 refine rc T 12 ?_
 cases dj;exact p1 T J [3,0] ⟨Fa,n48,E0,KX,J,J⟩ J
end
end Go.Proofs.YthodkonhneebbaaGreatDoor
