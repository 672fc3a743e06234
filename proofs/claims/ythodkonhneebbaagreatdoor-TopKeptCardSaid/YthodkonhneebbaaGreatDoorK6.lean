/- What the functions of some packages compute, each as a function of plain Lean, with its contract. No condition. -/
import Derived.Test.YthodkonhneebbaaGreatDoorKT
import Derived.Test.YthodkonhneebbaaGreatDoorK5
namespace Go.Proofs.YthodkonhneebbaaGreatDoor
open Go.Hx
set_option maxRecDepth 100000
set_option linter.unusedSimpArgs false
set_option linter.unusedVariables false
set_option maxHeartbeats 4000000
set_option autoImplicit true
set_option relaxedAutoImplicit true
noncomputable section
def mF.f (ag:eQ) (n:Int):Option ((List Int)×Er×eQ):=if(aa ((List.length ag.b:Int)-ag.a_))<n then(some ([],(Er.dS 6),ag)) else(if(0<=(aa ((aa (ag.a_+n))-n))/\(aa ((aa (ag.a_+n))-n))<=(aa (ag.a_+n))/\(aa (ag.a_+n))<=(List.length ag.b:Int)) then(some ((aA ag.b (aa ((aa (ag.a_+n))-n)) (aa (ag.a_+n))),Er.nil,(eQ.mk ag.b (aa (ag.a_+n))))) else none)
def mF.R (el:Nat->Addr) (aV:Nat) (y0:Value) (xr:List Int) (ar:Option Addr) (nr:Nat) (r:((List Int)×Er×eQ)) (u:Value) (G:List Hp):Prop:= ∃(a0:Option Addr) (n0:Nat) (v1:Value) (H1:Hp),dq (Fl.int .u8) xr ar nr r.1 a0 n0/\List.length r.1<=n0/\fU 414 el r.2.1 v1 H1/\u=(.tuple #[(ll a0 r.1 n0),v1])/\G=[H1,(cl aV 340 [y0,(ii r.2.2.a_)])]
theorem mF.c (H:mF.f ag n=some r) (hG:fK 414 eZ hU el F) (my:aS (Fl.int .u8) ag.b gX F) (kj:List.length ag.b<=gP):
 QR 278 [(pp aV),(ii n)] [(cl aV 340 [(ll gX ag.b gP),(ii ag.a_)])] [] F (mF.R el aV (ll gX ag.b gP) ag.b gX gP r):=by
 unfold mF.f at H;refine aB Tryz.func278 J J (λW=>rc T 8 (dj mix ay (au T J (au T J (au T J (aN J J J (aw T J J J J (aD (j:=0) J J)) ?_))))))
 iterate 4 refine au T J ?_
 refine aN J J J (aw T J J J J (aD (j:=0) J J)) (au T J (au T J (au T J (cR (rx T 1 (cd J H (λH=>?_) (λH=>?_)))))))
 ·refine rc T 1 (dj mix ay (aN J J J (aw T J J J J (rG (j:=1) J hG (g:=6) (by decide))) (au T J (au T J (cR (rx T 3 ?_))))))
  cases H;refine br (p1 T J [2,0,0] ⟨none,0,(.iface 414 (.pointer (some (el 6)))),[],dq.nil,(Nat.zero_le _),nZ,J,J⟩ J)
 refine rc T 7 (lf T 0 J (ro T 4 (sg T 0 J (ro T 3 (dj mix ay (au T J (au T J (au T J (aN J J J (aw T J J J J (aD (j:=0) J J)) (au T J (au T J (au T J (aN J J J (aw T J J J J (aD (j:=0) J J)) ?_)))))))))))))
 iterate 5 refine au T J ?_
 refine aN J J J (aw T J J J J (aD (j:=0) J J)) ?_;obtain⟨c2,H⟩:=az H;refine aN J J J (kn T J J J J J J c2 kj) (au T J (au T J (cR (rx T 2 ?_))))
 cases H;refine br (p1 T J [2,0,0] ⟨(fS gX gP (Int.toNat (aa ((aa (ag.a_+n))-n))) 1),(gP-Int.toNat (aa ((aa (ag.a_+n))-n))),.nilIface,[],(dq.sub dq.self kj c2),(mh c2 kj),tK,J,J⟩ J)
def pU.f (ag:eQ) (n:Int):Option ((List Int)×Er×eQ):=(mF.f ag n).bind λv1=>(if(Er.isNil v1.2.1)=true then((vV.f v1.1 0).bind λv4=>some v4) else(some false)).bind λx2=>if x2=true then(some (v1.1,(Er.dS 5),(eQ.mk ag.b v1.2.2.a_))) else(some (v1.1,v1.2.1,(eQ.mk ag.b v1.2.2.a_)))
def pU.R (el:Nat->Addr) (aV:Nat) (y0:Value) (xr:List Int) (ar:Option Addr) (nr:Nat) (r:((List Int)×Er×eQ)) (u:Value) (G:List Hp):Prop:= ∃(a0:Option Addr) (n0:Nat) (v1:Value) (H1:Hp),dq (Fl.int .u8) xr ar nr r.1 a0 n0/\List.length r.1<=n0/\fU 414 el r.2.1 v1 H1/\u=(.tuple #[(ll a0 r.1 n0),v1])/\G=[H1,(cl aV 340 [y0,(ii r.2.2.a_)])]
theorem pU.c (H:pU.f ag n=some r) (hG:fK 414 eZ hU el F) (my:aS (Fl.int .u8) ag.b gX F) (kj:List.length ag.b<=gP):
 QR 279 [(pp aV),(ii n)] [(cl aV 340 [(ll gX ag.b gP),(ii ag.a_)])] [] F (pU.R el aV (ll gX ag.b gP) ag.b gX gP r):=by
 unfold pU.f at H;refine aB Tryz.func279 J J (λW=>rc T 10 (kr (mF.R el aV (ll gX ag.b gP) ag.b gX gP) [] [0] J M6 H (mF.c · (dB hG (j:=0) J) (rO my 0) kj) (λv1 H=>?_)));rintro _ _ ⟨a2,n2,v3,H3,Dq,IQ,s3,rfl,rfl⟩;refine fz J (ro T 8 (mq H [6,7] [0,0,0] (λz3 (x2:Bool)=>(x2=z3,[(19,(bb x2))],[])) J J (λz3 Z2 _=>?_) ?_))
 ·refine rc T 2 (bp J (I9 T J J J (ru s3 (j:=1) J)) (ro T 1 (ab 16 J Z2 (λZ2=>?_) (λZ2=>?_))))
  ·refine ro T 1 (k [] J MW Z2 (vV.c · (nY Dq (rO my 0) kj) IQ) (λv4 Z2=>ro T 3 (am _ [0,0,0] (oi Z2) J J)))
  refine ro T 5 (am _ [0,0,0] (oi Z2) J J)
 rintro _ x2 rfl H;refine cb J H (λH=>?_) (λH=>?_)
 ·refine rc T 1 (lg T J (rG (j:=0) J hG (g:=5) (by decide)) (ro T 12 ?_))
  cases H;refine br (p1 T J [3,2,0] ⟨a2,n2,(.iface 414 (.pointer (some (el 5)))),[],Dq,IQ,nZ,J,J⟩ J)
 refine rc T 11 ?_
 cases H;exact p1 T J [1,1,0] ⟨a2,n2,v3,H3,Dq,IQ,s3,J,J⟩ J
def ph.l0:Nat->eQ->Int->Int->List Int->Option (Sum ((List Int)×Er×eQ) ((List Int)×Int))
 |0,_,_,_,_=>none
 |k8+1,ag,n,x6,x7=>if(List.length x7:Int)<n then((mF.f (eQ.mk ag.b x6) 2).bind λv9=>if(!(Er.isNil v9.2.1))=true then(some (Sum.inl ([],v9.2.1,(eQ.mk ag.b v9.2.2.a_)))) else(if(0<=(0:Int)/\(0:Int)<(List.length v9.1:Int)) then(if(0<=(1:Int)/\(1:Int)<(List.length v9.1:Int)) then((if(((rd v9.1 1)==0)||(decide ((aa ((aa (rd v9.1 0))+1))>(aa (n-(List.length x7:Int))))))=true then(some true) else(if(List.length x7:Int)>0 then(if(0<=(aa ((List.length x7:Int)-1))/\(aa ((List.length x7:Int)-1))<(List.length x7:Int)) then(some ((rd x7 (aa ((List.length x7:Int)-1)))==(rd v9.1 1))) else none) else(some false))).bind λaM=>if aM=true then(some (Sum.inl ([],(Er.dS 5),(eQ.mk ag.b v9.2.2.a_)))) else((ly.f [(rd v9.1 1)] (aa ((aa (rd v9.1 0))+1))).bind λv12=>if(List.length x7+List.length v12<=1099511627776) then(ph.l0 k8 ag n v9.2.2.a_ (x7++v12)) else none)) else none) else none)) else(some (Sum.inr (x7,x6)))
def ph.f (ag:eQ) (n:Int):Option ((List Int)×Er×eQ):=(ph.l0 fuel ag n ag.a_ []).bind λzz=>match zz with |Sum.inl q=>some q |Sum.inr (x1,x2)=>some (x1,Er.nil,(eQ.mk ag.b x2))
def ph.R (el:Nat->Addr) (aV:Nat) (y0:Value) (r:((List Int)×Er×eQ)) (u:Value) (G:List Hp):Prop:= ∃(a0:Option Addr) (n0:Nat) (H0:Hp) (v1:Value) (H1:Hp),aj (Fl.int .u8) 5 r.1 a0 n0 H0/\fU 414 el r.2.1 v1 H1/\u=(.tuple #[(ll a0 r.1 n0),v1])/\G=[H0,H1,(cl aV 340 [y0,(ii r.2.2.a_)])]
theorem ph.c (H:ph.f ag n=some r) (hG:fK 414 eZ hU el F) (my:aS (Fl.int .u8) ag.b gX F) (kj:List.length ag.b<=gP):
 QR 281 [(pp aV),(ii n)] [(cl aV 340 [(ll gX ag.b gP),(ii ag.a_)])] [] F (ph.R el aV (ll gX ag.b gP) r):=by
 unfold ph.f at H;refine aB Tryz.func281 J J (λW=>rc T 11 (mq H [] [1] (λz3 (⟨x1,x2,a2,n2,H2⟩:List Int×Int×Option Addr×Nat×Hp)=>((Sum.inr (x1,x2))=z3/\aj (Fl.int .u8) 5 x1 a2 n2 H2,[(6,(ll a2 x1 n2))],[H2,(cl aV 340 [(ll gX ag.b gP),(ii x2)])])) J J (λz3 Z1 H=>?_) ?_))
 ·refine rc T 1 (br (lq [0,1] [1] (λ(⟨k8,x6,x7,a4,n4,H4⟩:Nat×Int×List Int×Option Addr×Nat×Hp)=>(ph.l0 k8 ag n x6 x7=some z3/\aj (Fl.int .u8) 5 x7 a4 n4 H4,[(6,(ll a4 x7 n4))],[(cl aV 340 [(ll gX ag.b gP),(ii x6)]),H4])) J J (fuel,ag.a_,[],none,0,[]) [1,0,0] ⟨Z1,aj.nil⟩ J J ?_));rintro k8 ⟨x6,x7,a4,n4,H4⟩ ⟨Z2,s4⟩;rw[ph.l0] at Z2;refine rc T 9 (cd J Z2 (λZ2=>?_) (λZ2=>?_))
  ·refine rc T 6 (kr (mF.R el aV (ll gX ag.b gP) ag.b gX gP) [] [1] J M6 Z2 (mF.c (ag:=(eQ.mk ag.b x6)) · (dB hG (j:=0) J) (rO my 0) kj) (λv9 Z2=>?_));rintro _ _ ⟨a5,n5,v6,H6,Fk,Qy,s6,rfl,rfl⟩;refine fz J (ro T 11 (bp J (Dz T J J J (ru s6 (j:=2) J)) (ro T 2 (cb J Z2 (λZ2=>?_) (λZ2=>?_)))))
   ·refine rc T 13 ?_;obtain rfl:=Option.some.inj Z2;obtain rfl:=Option.some.inj (show some ([],v9.2.1,(eQ.mk ag.b v9.2.2.a_))=some r from H)
    refine br (p1 T J [4,2,2,0] ⟨none,0,[],v6,H6,aj.nil,s6,J,J⟩ J)
   refine rc T 3 (dj mix ay (au T J ?_));obtain⟨c6,Z2⟩:=az Z2;obtain⟨q8,o8,e8⟩:=(dq.r Fk my kj).addr c6.1 c6.2;refine aN J J J (cB T J J J J J e8 c6.1 c6.2) (aN J J J (aw T J J J J (gM (k:=(Fl.int .u8)) (nY Fk (rO my 0) kj) e8 c6 0 J)) (au T J (au T J (au T J ?_))));obtain⟨c7,Z2⟩:=az Z2;refine aN J J J (cB T J J J J J e8 c7.1 c7.2) (aN J J J (aw T J J J J (gM (k:=(Fl.int .u8)) (nY Fk (rO my 0) kj) e8 c7 0 J)) (au T J (au T J (cR (rx T 2 (mq Z2 [0,1,6,9,10] [0,2,0] (λiW (aM:Bool)=>(aM=iW,[(55,(bb aM))],[])) J J (λiW Z8 _=>?_) ?_))))))
   ·refine rc T 4 (go T [3,4,5,6,7,8,9] 33 [0,1,6,9,10] 40 J J J J J J J (ro T 1 (ab 41 J Z8 (λZ8=>?_) (λZ8=>?_))))
    ·refine ro T 16 (am _ [0,2,0] (oi Z8) J J)
    refine ro T 4 (ad 45 J Z8 (λZ8=>?_) (λZ8=>?_))
    ·refine ro T 4 ?_;obtain⟨dZ,Z8⟩:=az Z8;obtain⟨q9,o9,e9⟩:=s4.r.addr dZ.1 dZ.2;refine ix T J e9 dZ (le T 0 (oO s4 1) e9 dZ J J (ro T 6 (am _ [0,2,0] (oi Z8) J J)))
    refine ro T 12 (am _ [0,2,0] (oi Z8) J J)
   rintro _ aM rfl Z2;refine cb J Z2 (λZ2=>?_) (λZ2=>?_)
   ·refine rc T 1 (dj mix ay (aN J J J (aw T J J J J (rG (j:=0) J hG (g:=5) (by decide))) (au T J (au T J (cR (rx T 7 ?_))))))
    obtain rfl:=Option.some.inj Z2;obtain rfl:=Option.some.inj (show some ([],(Er.dS 5),(eQ.mk ag.b v9.2.2.a_))=some r from H)
    refine br (br (p1 T J [3,3,1,0] ⟨none,0,[],(.iface 414 (.pointer (some (el 5)))),[],aj.nil,nZ,J,J⟩ J))
   refine rc T 5 (aW (cU (k:=(Fl.int .u8)) T [(rd v9.1 1)] J J J J J J J J J (λa12 dw dD=>ro T 1 (kr ly.R [] [] J SU Z2 (ly.c · (oO dD 3) dD.bW) (λv12 Z2=>?_)))));rintro _ _ ⟨dy,n13,eo,dh,rfl,rfl⟩;refine fz J ?_;obtain⟨oJ,Z2⟩:=az Z2;refine aW (dM (k:=(Fl.int .u8)) (xs:=x7) T (g:=2) J J J J J J J J J J s4 (oO dh 4) oJ J (λiC n14 fx dO=>ro T 4 (ar (_,_,_,_,_) [0,0,0] ⟨Z2,dO⟩ J J)))
  refine rc T 5 (am (_,_,_,_,_) [0,1,0] ⟨oi Z2,s4⟩ J J)
 rintro _ ⟨x1,x2,a2,n2,H2⟩ ⟨rfl,s2⟩ H;refine rc T 8 ?_
 cases H;refine br (p1 T J [1,2,1,0] ⟨a2,n2,H2,.nilIface,[],s2,tK,J,J⟩ J)
def sS.f (ag:eQ) (n:Int):Option ((List Int)×Er×eQ):=(mF.f ag 1).bind λv1=>if(!(Er.isNil v1.2.1))=true then(some ([],v1.2.1,(eQ.mk ag.b v1.2.2.a_))) else(if(0<=(0:Int)/\(0:Int)<(List.length v1.1:Int)) then(if((rd v1.1 0)==0)=true then((pU.f (eQ.mk ag.b v1.2.2.a_) 1).bind λv2=>(ly.f v2.1 n).bind λv3=>some (v3,v2.2.1,(eQ.mk ag.b v2.2.2.a_))) else(if((rd v1.1 0)==1)=true then((pU.f (eQ.mk ag.b v1.2.2.a_) n).bind λv4=>some (v4.1,v4.2.1,(eQ.mk ag.b v4.2.2.a_))) else(if((rd v1.1 0)==2)=true then((ph.f (eQ.mk ag.b v1.2.2.a_) n).bind λv5=>some (v5.1,v5.2.1,(eQ.mk ag.b v5.2.2.a_))) else(some ([],(Er.dS 5),(eQ.mk ag.b v1.2.2.a_)))))) else none)
def sS.R (el:Nat->Addr) (aV:Nat) (y0:Value) (xr:List Int) (ar:Option Addr) (nr:Nat) (r:((List Int)×Er×eQ)) (u:Value) (G:List Hp):Prop:= ∃(a0:Option Addr) (n0:Nat) (H0:Hp) (v1:Value) (H1:Hp),Ib (Fl.int .u8) 5 xr ar nr r.1 a0 n0 H0/\fU 414 el r.2.1 v1 H1/\u=(.tuple #[(ll a0 r.1 n0),v1])/\G=[H0,H1,(cl aV 340 [y0,(ii r.2.2.a_)])]
theorem sS.c (H:sS.f ag n=some r) (hG:fK 414 eZ hU el F) (my:aS (Fl.int .u8) ag.b gX F) (kj:List.length ag.b<=gP):
 QR 252 [(pp aV),(ii n)] [(cl aV 340 [(ll gX ag.b gP),(ii ag.a_)])] [] F (sS.R el aV (ll gX ag.b gP) ag.b gX gP r):=by
 unfold sS.f at H;refine aB Tryz.func252 J J (λW=>rc T 9 (kr (mF.R el aV (ll gX ag.b gP) ag.b gX gP) [] [0] J M6 H (mF.c · (dB hG (j:=0) J) (rO my 0) kj) (λv1 H=>?_)));rintro _ _ ⟨a2,n2,v3,H3,Dq,IQ,s3,rfl,rfl⟩;refine fz J (ro T 11 (bp J (Dz T J J J (ru s3 (j:=1) J)) (ro T 2 (cb J H (λH=>?_) (λH=>?_)))))
 ·refine rc T 9 ?_
  cases H;refine br (p1 T J [3,1,1,0] ⟨none,0,[],v3,H3,(.inl ⟨dq.nil,Nat.zero_le _,J⟩),s3,J,J⟩ J)
 refine rc T 6 ?_;obtain⟨c3,H⟩:=az H;obtain⟨q5,o5,e5⟩:=(dq.r Dq my kj).addr c3.1 c3.2;refine ix T J e5 c3 (le T 0 (nY Dq (rO my 0) kj) e5 c3 J J (ro T 9 (cb J H (λH=>?_) (λH=>?_))))
 ·refine rc T 3 (kr (pU.R el aV (ll gX ag.b gP) ag.b gX gP) [] [2] J SS H (pU.c (ag:=(eQ.mk ag.b v1.2.2.a_)) · (dB hG (j:=0) J) (rO my 0) kj) (λv2 H=>?_));rintro _ _ ⟨a6,n6,v7,H7,Zp,ZM,s7,rfl,rfl⟩;refine fz J (ro T 11 (kr ly.R [] [] J SU H (ly.c · (nY Zp (rO my 0) kj) ZM) (λv3 H=>?_)));rintro _ _ ⟨a8,n8,H8,s8,rfl,rfl⟩;refine fz J (ro T 4 (ke [4,5] [0,1,1,1] J J (rx T 4 ?_)))
  cases H;exact p1 T J [3,1,1,0] ⟨a8,n8,H8,v7,H7,(.inr s8),s7,J,J⟩ J
 refine rc T 6 (cb J H (λH=>?_) (λH=>?_))
 ·refine rc T 4 (kr (pU.R el aV (ll gX ag.b gP) ag.b gX gP) [] [2] J SS H (pU.c (ag:=(eQ.mk ag.b v1.2.2.a_)) · (dB hG (j:=0) J) (rO my 0) kj) (λv4 H=>?_));rintro _ _ ⟨a9,n9,v10,bV,Zq,ZN,bS,rfl,rfl⟩;refine fz J (ro T 9 ?_)
  cases H;refine br (p1 T J [4,2,2,0] ⟨a9,n9,[],v10,bV,(.inl ⟨Zq,ZN,J⟩),bS,J,J⟩ J)
 refine rc T 6 (cb J H (λH=>?_) (λH=>?_))
 ·refine rc T 4 (kr (ph.R el aV (ll gX ag.b gP)) [] [2] J adg H (ph.c (ag:=(eQ.mk ag.b v1.2.2.a_)) · (dB hG (j:=0) J) (rO my 0) kj) (λv5 H=>?_));rintro _ _ ⟨a12,n12,dw,gT,eo,dD,dh,rfl,rfl⟩;refine fz J (ro T 9 ?_)
  cases H;exact p1 T J [2,2,2,0] ⟨a12,n12,dw,gT,eo,(.inr dD),dh,J,J⟩ J
 refine rc T 4 (dj mix ay (aN J J J (aw T J J J J (rG (j:=0) J hG (g:=5) (by decide))) (au T J (au T J (cR (rx T 2 ?_))))))
 cases H;refine br (br (p1 T J [3,3,2,0] ⟨none,0,[],(.iface 414 (.pointer (some (el 5)))),[],(.inl ⟨dq.nil,Nat.zero_le _,J⟩),nZ,J,J⟩ J))
def Cw.f (ag:Int) (ai:aJ):Option Bool:=if(0<=(0:Int)/\(0:Int)<(List.length ai.C:Int)) then(some (ag !=(rd ai.C 0))) else none
theorem Cw.c (H:Cw.f ag ai=some r) (GD:(tG,Obj.cells #[(ii ai.W),(ii ai.H),(ll Iz ai.C Ke)] 139 (0,0))∈F) (DI:aS (Fl.int .u8) ai.C Iz F) (QA:List.length ai.C<=Ke):
 QU 304 [(.int .u8 ag),(pp tG)] [] F (bb r):=by
 unfold Cw.f at H;refine aB Tryz.func304 J J (λW=>rc T 9 (lg T J (np (j:=0) GD J J) ?_));obtain⟨c1,H⟩:=az H;obtain⟨q1,o1,e1⟩:=DI.addr c1.1 c1.2;refine ix T J e1 c1 (le T 0 (rO DI 0) e1 c1 J J (ro T 5 ?_))
 cases H;exact p0 T J [0] J
def qM.l0:Nat->(List Int)->aJ->Int->Option Int
 |0,_,_,_=>none
 |k3+1,s,fo,x2=>if x2<(List.length s:Int) then(if(0<=x2/\x2<(List.length s:Int)) then((Cw.f (rd s x2) fo).bind λv4=>if v4=true then(some x2) else(qM.l0 k3 s fo (aa (x2+1)))) else none) else(some (-1))
def qM.f (s:(List Int)) (fo:aJ):Option Int:=qM.l0 fuel s fo 0
theorem qM.c (H:qM.f s fo=some r) (jv:aS (Fl.int .u8) s iN F) (rl:List.length s<=iR) (Cf:(BC,Obj.cells #[(ii fo.W),(ii fo.H),(ll Bt fo.C Cm)] 139 (0,0))∈F) (BO:aS (Fl.int .u8) fo.C Bt F) (BG:List.length fo.C<=Cm):
 QU 305 [(ll iN s iR),(.func (.func 304) #[] #[(pp BC)])] [] F (ii r):=by
 unfold qM.f at H;refine aB Tryz.func305 J J (λW=>rc T 14 (lq [0,1,7] [0] (λ(⟨k3,x2⟩:Nat×Int)=>(qM.l0 k3 s fo x2=some r,[(8,(ii x2))],[])) J J (fuel,0) [0] H J J ?_));rintro k3 x2 Z1;replace Z1:qM.l0 (k3+1) s fo x2=some r:=Z1;rw[qM.l0] at Z1;refine rc T 6 (cd J Z1 (λZ1=>?_) (λZ1=>?_))
 ·refine rc T 15 ?_;obtain⟨c3,Z1⟩:=az Z1;obtain⟨q1,o1,e1⟩:=jv.addr c3.1 c3.2;refine ix T J e1 c3 (le T 0 (rO jv 0) e1 c3 J J (k [] J ads Z1 (Cw.c · (pT Cf (j:=0) J) (rO BO 0) BG) (λv4 Z1=>ro T 2 (cb J Z1 (λZ1=>?_) (λZ1=>?_)))))
  ·refine rc T 12 ?_
   cases Z1;exact p0 T J [0] J
  refine rc T 8 (ar _ [0] Z1 J J)
 refine rc T 11 ?_
 cases Z1;exact p0 T J [0] J
def CT.f (s:(List Int)) (fo:aJ):Option Bool:=(qM.f s fo).bind λv1=>some (decide (v1≥0))
theorem CT.c (H:CT.f s fo=some r) (jv:aS (Fl.int .u8) s iN F) (rl:List.length s<=iR) (Cf:(BC,Obj.cells #[(ii fo.W),(ii fo.H),(ll Bt fo.C Cm)] 139 (0,0))∈F) (BO:aS (Fl.int .u8) fo.C Bt F) (BG:List.length fo.C<=Cm):
 QU 303 [(ll iN s iR),(.func (.func 304) #[] #[(pp BC)])] [] F (bb r):=by
 unfold CT.f at H;refine aB Tryz.func303 J J (λW=>rc T 9 (k [] J adt H (qM.c · (rO jv 0) rl (pT Cf (j:=0) J) (rO BO 0) BG) (λv1 H=>ro T 5 ?_)))
 cases H;exact p0 T J [0] J
def jk.l1:Nat->aJ->Int->Int->Option Int
 |0,_,_,_=>none
 |wZ+1,t,x5,aT=>(if(aa (x5+aT))<(List.length t.C:Int) then(if(0<=(aa (x5+aT))/\(aa (x5+aT))<(List.length t.C:Int)) then(if(0<=x5/\x5<(List.length t.C:Int)) then(some ((rd t.C (aa (x5+aT)))==(rd t.C x5))) else none) else none) else(some false)).bind λcn=>if cn=true then(jk.l1 wZ t x5 (aa (aT+1))) else(some aT)
def jk.l0:Nat->aJ->List Int->Int->Option (List Int)
 |0,_,_,_=>none
 |k6+1,t,x4,x5=>if x5<(List.length t.C:Int) then(((jk.l1 fuel t x5 1).bind λaM=>if(0<=x5/\x5<(List.length t.C:Int)) then(if(List.length x4+2<=1099511627776) then(some ((x4++[(bP (aa (aM-1))),(rd t.C x5)]),(aa (x5+aM)))) else none) else none).bind λ(x7,x8)=>jk.l0 k6 t x7 x8) else(some x4)
def jk.f (t:aJ) (form:Int):Option (List Int):=if(form==0)=true then((CT.f t.C t).bind λv1=>if v1=true then(some []) else(if(0<=(0:Int)/\(0:Int)<(List.length t.C:Int)) then(if(List.length [(bP form)]+1<=1099511627776) then(some ([(bP form)]++[(rd t.C 0)])) else none) else none)) else(if(form==1)=true then(if(List.length [(bP form)]+List.length t.C<=1099511627776) then(some ([(bP form)]++t.C)) else none) else(jk.l0 fuel t [(bP form)] 0))
def jk.R (r:(List Int)) (u:Value) (G:List Hp):Prop:= ∃(a0:Option Addr) (n0:Nat) (H0:Hp),aj (Fl.int .u8) 5 r a0 n0 H0/\(r=[]->a0=none)/\u=(ll a0 r n0)/\G=[H0]
theorem jk.c (H:jk.f t form=some r) (dH:aS (Fl.int .u8) t.C iv F) (ff:List.length t.C<=iy):
 QR 297 [(.agg #[(ii t.W),(ii t.H),(ll iv t.C iy)]),(ii form)] [] [] F (jk.R r):=by
 unfold jk.f at H;refine aB Tryz.func297 J J (λW=>rc T 2 (nc T J (λb1=>ro T 7 (aW (cU (k:=(Fl.int .u8)) T [(bP form)] J J J J J J J J J (λa2 H2 s2=>ro T 16 (cb J H (λH=>?_) (λH=>?_))))))))
 ·refine rc T 4 (lf T 1 J (ro T 1 (k [] J adr H (CT.c · (rO dH 0) ff (yX (j:=1) J) (rO dH 0) ff) (λv1 H=>ro T 2 (cb J H (λH=>?_) (λH=>?_))))))
  ·refine rc T 9 ?_
   cases H;refine br (p1 T J [3,0] ⟨none,0,[],aj.nil,(λ_=>rfl),J,J⟩ J)
  refine rc T 6 (lf T 1 J ?_);obtain⟨c4,H⟩:=az H;obtain⟨q4,o4,e4⟩:=dH.addr c4.1 c4.2;refine ix T J e4 c4 (le T 0 (rO dH 0) e4 c4 J J (aW (cU (k:=(Fl.int .u8)) T [(rd t.C 0)] J J J J J J J J J (λa5 H5 s5=>?_))));obtain⟨c5,H⟩:=az H;refine aW (dM (k:=(Fl.int .u8)) (xs:=[(bP form)]) T (g:=2) J J J J J J J J J J s2 (oO s5 3) c5 J (λa6 n6 H6 s6=>ro T 2 (ke [4] [0,1] J J (rx T 4 ?_))))
  cases H;exact p1 T J [1,0] ⟨a6,n6,H6,s6,(Oh (.inr J)),J,J⟩ J
 refine rc T 6 (cb J H (λH=>?_) (λH=>?_))
 ·refine rc T 4 (lf T 1 J ?_);obtain⟨c7,H⟩:=az H;refine aW (dM (k:=(Fl.int .u8)) (xs:=[(bP form)]) T (g:=2) J J J J J J J J J J s2 (rO dH 0) c7 J (λa7 n7 H7 s7=>ro T 2 (ke [4] [0,1] J J (rx T 4 ?_))))
  cases H;exact p1 T J [1,0] ⟨a7,n7,H7,s7,(Oh (.inl J)),J,J⟩ J
 refine rc T 10 (lq [2] [0,0] (λ(⟨k6,x4,x5,a9,n9,H9⟩:Nat×List Int×Int×Option Addr×Nat×Hp)=>(jk.l0 k6 t x4 x5=some r/\aj (Fl.int .u8) 5 x4 a9 n9 H9/\(x4=[]->a9=none),[(5,(ll a9 x4 n9)),(6,(ii x5))],[H9])) J J (fuel,[(bP form)],0,a2,(List.length [(bP form)]),H2) [0,0,0] ⟨H,s2,(λe=>by cases e)⟩ J J ?_)
 rintro k6 ⟨x4,x5,a9,n9,H9⟩ ⟨Z8,s9,r9⟩;rw[jk.l0] at Z8;refine rc T 5 (lf T 1 J (ro T 4 (cd J Z8 (λZ8=>?_) (λZ8=>?_))))
 ·refine rc T 2 (mn Z8 [2] [0,0] (λz9 (⟨x7,x8,cw,n10,bV⟩:List Int×Int×Option Addr×Nat×Hp)=>((x7,x8)=z9/\aj (Fl.int .u8) 5 x7 cw n10 bV/\(x7=[]->cw=none),[(5,(ll cw x7 n10)),(6,(ii x8))],[bV])) J J (λz9 lK _=>?_) ?_)
  ·refine rc T 6 (mq lK [2,5,6] [0,0,0] (λiW (aM:Int)=>(aM=iW,[(7,(ii aM))],[])) J J (λiW ba _=>?_) ?_)
   ·refine rc T 1 (lq [2,5,6] [0,0,0] (λ(⟨wZ,aT⟩:Nat×Int)=>(jk.l1 wZ t x5 aT=some iW,[(7,(ii aT))],[])) J J (fuel,1) [0,0,0] ba J J ?_);rintro wZ aT bo;replace bo:jk.l1 (wZ+1) t x5 aT=some iW:=bo;rw[jk.l1] at bo;refine rc T 1 (mq bo [2,5,6,7] [0,0,0] (λIa (cn:Bool)=>(cn=Ia,[(57,(bb cn))],[])) J J (λIa mS _=>?_) ?_)
    ·refine dj mix ay ?_
     iterate 4 refine au T J ?_
     refine aN J J J (aw T J J J J (aD (j:=1) J J)) (au T J (au T J (au T J (qd 43 J mS (λmS=>?_) (λmS=>?_)))))
     ·refine au T J (aN J J J (aw T J J J J (aD (j:=1) J J)) (au T J (au T J (au T J ?_))));obtain⟨yu,mS⟩:=az mS;obtain⟨q11,o11,yw⟩:=dH.addr yu.1 yu.2;refine aN J J J (cB T J J J J J yw yu.1 yu.2) (aN J J J (aw T J J J J (gM (k:=(Fl.int .u8)) (rO dH 0) yw yu 0 J)) (au T J (aN J J J (aw T J J J J (aD (j:=1) J J)) (au T J ?_))));obtain⟨pG,mS⟩:=az mS;refine aN J J J (cB T J J J J J yw pG.1 pG.2) (aN J J J (aw T J J J J (gM (k:=(Fl.int .u8)) (rO dH 0) yw pG 0 J)) (au T J (au T J (cR (rx T 1 (am _ [0,0,0] (oi mS) J J))))))
     iterate 14 refine au T J ?_
     refine cR (rx T 1 (am _ [0,0,0] (oi mS) J J))
    rintro _ cn rfl bo;refine cb J bo (λbo=>?_) (λbo=>?_)
    ·refine rc T 10 (ar _ [0,0,0] bo J J)
    refine rc T 5 (am _ [0,0,0] (oi bo) J J)
   rintro _ aM rfl lK;refine rc T 7 (lf T 1 J (ro T 1 ?_));obtain⟨lz,lK⟩:=az lK;obtain⟨vC,Om,sv⟩:=dH.addr lz.1 lz.2;refine ix T J sv lz (le T 0 (rO dH 0) sv lz J J (aW (cU (k:=(Fl.int .u8)) T [(bP (aa (aM-1))),(rd t.C x5)] J J J J J J J J J (λdy eo dh=>?_))));obtain⟨zT,lK⟩:=az lK;refine aW (dM (k:=(Fl.int .u8)) (xs:=x4) T (g:=2) J J J J J J J J J J s9 (oO dh 3) zT J (λiC n14 fx dO=>ro T 11 (am (_,_,_,_,_) [0,0,0] ⟨oi lK,dO,(Oh (.inr J))⟩ J J)))
  rintro _ ⟨x7,x8,cw,n10,bV⟩ ⟨rfl,bS,Oz⟩ Z8;refine rx T 1 (ar (_,_,_,_,_) [0,0,0] ⟨Z8,bS,Oz⟩ J J)
 refine rc T 12 ?_
 cases Z8;exact p1 T J [2,0] ⟨a9,n9,H9,s9,r9,J,J⟩ J
def kU.l0:Nat->aJ->Int->List Int->Int->Option (Int×(List Int))
 |0,_,_,_,_=>none
 |k7+1,t,x4,x5,x6=>if x6<3 then((jk.f t x6).bind λv8=>(if(!List.isEmpty v8)=true then(if(List.isEmpty x5)=true then(some true) else(some (decide ((List.length v8:Int)<(List.length x5:Int))))) else(some false)).bind λx9=>if x9=true then(kU.l0 k7 t x6 v8 (aa (x6+1))) else(kU.l0 k7 t x4 x5 (aa (x6+1)))) else(some (x4,x5))
def kU.f (t:aJ):Option (Int×(List Int)):=kU.l0 fuel t (-1) [] 0
def kU.R (r:(Int×(List Int))) (u:Value) (G:List Hp):Prop:= ∃(a0:Option Addr) (n0:Nat) (H0:Hp),aj (Fl.int .u8) 5 r.2 a0 n0 H0/\(r.2=[]->a0=none)/\u=(.tuple #[(ii r.1),(ll a0 r.2 n0)])/\G=[H0]
theorem kU.c (H:kU.f t=some r) (dH:aS (Fl.int .u8) t.C iv F) (ff:List.length t.C<=iy):
 QR 282 [(.agg #[(ii t.W),(ii t.H),(ll iv t.C iy)])] [] [] F (kU.R r):=by
 unfold kU.f at H;refine aB Tryz.func282 J J (λW=>rc T 2 (nc T J (λb1=>ro T 17 (br (lq [1] [0,0] (λ(⟨k7,x4,x5,x6,a3,n3,H3⟩:Nat×Int×List Int×Int×Option Addr×Nat×Hp)=>(kU.l0 k7 t x4 x5 x6=some r/\aj (Fl.int .u8) 5 x5 a3 n3 H3/\(x5=[]->a3=none),[(4,(ii x4)),(5,(ll a3 x5 n3)),(8,(ii x6))],[H3])) J J (fuel,(-1),[],0,none,0,[]) [0,0,0] ⟨H,aj.nil,(λ_=>rfl)⟩ J J ?_)))));rintro k7 ⟨x4,x5,x6,a3,n3,H3⟩ ⟨Z1,s3,r3⟩;rw[kU.l0] at Z1;refine rc T 6 (cd J Z1 (λZ1=>?_) (λZ1=>?_))
 ·refine rc T 12 (lm T 1 J (ro T 1 (kr jk.R [] [] J adn Z1 (jk.c · (rO dH 0) ff) (λv8 Z1=>?_))));rintro _ _ ⟨a4,n4,H4,s4,r4,rfl,rfl⟩;refine fz J (ro T 3 (mq Z1 [1,4,5,6,7,8] [0,0,0,0] (λnR (x9:Bool)=>(x9=nR,[(26,(bb x9))],[])) J J (λnR Z4 _=>?_) ?_))
  ·refine rc T 2 (bp J (abn T J J J J s4 r4) (ro T 1 (ab 16 J Z4 (λZ4=>?_) (λZ4=>?_))))
   ·refine ro T 1 (bp J (abm T J J J J s3 r3) (ro T 1 (ab 19 J Z4 (λZ4=>?_) (λZ4=>?_))))
    ·refine ro T 9 (am _ [0,0,0,0] (oi Z4) J J)
    refine ro T 9 (am _ [0,0,0,0] (oi Z4) J J)
   refine ro T 12 (am _ [0,0,0,0] (oi Z4) J J)
  rintro _ x9 rfl Z1;refine cb J Z1 (λZ1=>?_) (λZ1=>?_)
  ·refine rc T 13 (ar (_,_,_,_,_,_) [0,0,1] ⟨Z1,s4,r4⟩ J J)
  refine rc T 8 (ar (_,_,_,_,_,_) [0,0,0] ⟨Z1,s3,r3⟩ J J)
 refine rc T 14 ?_
 cases Z1;exact p1 T J [2,0] ⟨a3,n3,H3,s3,r3,J,J⟩ J
def sQ.f (t:aJ):Option ((List Int)×Int):=(tq.f t).bind λv1=>if(!v1)=true then(some ([],1)) else((kU.f t).bind λv2=>some (v2.2,0))
def sQ.R (r:((List Int)×Int)) (u:Value) (G:List Hp):Prop:= ∃(a0:Option Addr) (n0:Nat) (H0:Hp),aj (Fl.int .u8) 5 r.1 a0 n0 H0/\u=(.tuple #[(ll a0 r.1 n0),(ii r.2)])/\G=[H0]
theorem sQ.c (H:sQ.f t=some r) (dH:aS (Fl.int .u8) t.C iv F) (ff:List.length t.C<=iy):
 QR 253 [(.agg #[(ii t.W),(ii t.H),(ll iv t.C iy)])] [] [] F (sQ.R r):=by
 unfold sQ.f at H;refine aB Tryz.func253 J J (λW=>rc T 2 (nc T J (λb1=>ro T 7 (lm T 1 J (k [] J Jq H (tq.c · (rO dH 0) ff) (λv1 H=>ro T 3 (cb J H (λH=>?_) (λH=>?_))))))))
 ·refine rc T 8 ?_
  cases H;refine br (p1 T J [2,0] ⟨none,0,[],aj.nil,J,J⟩ J)
 refine rc T 4 (lm T 1 J (kr kU.R [] [] J adh H (kU.c · (rO dH 0) ff) (λv2 H=>?_)));rintro _ _ ⟨a3,n3,H3,s3,r3,rfl,rfl⟩;refine fz J (ro T 15 ?_)
 cases H;exact p1 T J [2,0] ⟨a3,n3,H3,s3,J,J⟩ J
def vA.f (ag:eQ) (w:Int) (h:Int):Option (aJ×Er×eQ):=(sS.f ag (aa (w*h))).bind λv1=>(nJ.f v1.1).bind λv2=>(if(Er.isNil v1.2.1)=true then((sQ.f (aJ.mk w h v2)).bind λv5=>if(0<=(0:Int)/\(0:Int)<=v1.2.2.a_/\v1.2.2.a_<=(List.length ag.b:Int)) then((Ds.f v5.1 (aA ag.b 0 v1.2.2.a_)).bind λv6=>if(!v6)=true then(some (Er.dS 5)) else(some v1.2.1)) else none) else(some v1.2.1)).bind λx3=>if(Er.isNil x3)=true then(some ((aJ.mk w h v2),Er.nil,(eQ.mk ag.b v1.2.2.a_))) else((uT.f x3 (Er.dS 6)).bind λv7=>if v7=true then(some ((aJ.mk 0 0 []),(Er.wrap 343 [v1.2.2.a_,2] x3),(eQ.mk ag.b v1.2.2.a_))) else(some ((aJ.mk 0 0 []),(Er.wrap 343 [v1.2.2.a_,3] x3),(eQ.mk ag.b v1.2.2.a_))))
def vA.R (el:Nat->Addr) (aV:Nat) (y0:Value) (r:(aJ×Er×eQ)) (u:Value) (G:List Hp):Prop:= ∃(a0:Option Addr) (n0:Nat) (H0:Hp) (v1:Value) (H1:Hp),aj (Fl.int .u8) 5 r.1.C a0 n0 H0/\fU 414 el r.2.1 v1 H1/\u=(.tuple #[(.agg #[(ii r.1.W),(ii r.1.H),(ll a0 r.1.C n0)]),v1])/\G=[H0,H1,(cl aV 340 [y0,(ii r.2.2.a_)])]
theorem vA.c (H:vA.f ag w h=some r) (hG:fK 414 eZ hU el F) (my:aS (Fl.int .u8) ag.b gX F) (kj:List.length ag.b<=gP):
 QR 230 [(pp aV),(ii w),(ii h)] [(cl aV 340 [(ll gX ag.b gP),(ii ag.a_)])] [] F (vA.R el aV (ll gX ag.b gP) r):=by
 unfold vA.f at H;refine aB Tryz.func230 J J (λW=>rc T 2 (nc T J (λb2=>ro T 9 (kr (sS.R el aV (ll gX ag.b gP) ag.b gX gP) [] [0] J ac3 H (sS.c · (dB hG (j:=0) J) (rO my 0) kj) (λv1 H=>?_)))));rintro _ _ ⟨a3,n3,H3,v4,H4,s3,s4,rfl,rfl⟩;refine fz J (ro T 12 (kr nJ.R [] [] J MO H (nJ.c · (Zw s3 (j:=2) J (rO my 0) kj) s3.bW) (λv2 H=>?_)));rintro _ _ ⟨a5,n5,H5,s5,rfl,rfl⟩;refine fz J (ro T 1 (nc T J (λb6=>sg T 6 J (ro T 1 (ke [0,6,9,10] [0,0,1,1,1,1] J J (rx T 1 (mq H [0,6,10] [0,2,0,2,1] (λz4 (⟨x3,C5,H7⟩:Er×Value×Hp)=>(x3=z4/\fU 414 el x3 C5 H7,[(9,C5)],[H7])) J J (λz4 Z3 _=>?_) ?_)))))))
 ·refine rc T 3 (bp J (I9 T J J J (ru s4 (j:=2) J)) (ro T 2 (cb J Z3 (λZ3=>?_) (λZ3=>?_))))
  ·refine rc T 2 (lm T 5 J (kr sQ.R [] [] J ac4 Z3 (sQ.c (t:=(aJ.mk w h v2)) · (oO s5 4) s5.bW) (λv5 Z3=>?_)));rintro _ _ ⟨a8,n8,H8,s8,rfl,rfl⟩;refine fz J (ro T 8 (dj mix ay ?_))
   iterate 4 refine au T J ?_
   refine aN J J J (aw T J J J J (aD (j:=3) J J)) (au T J (au T J (au T J (aN J J J (aw T J J J J (aD (j:=3) J J)) ?_))));obtain⟨c6,Z3⟩:=az Z3;refine aN J J J (kn T J J J J J J c6 kj) ?_;obtain⟨v6,V7,Z3⟩:=fY Z3;refine tF J J J J J J ac5 J (Ds.c V7 (oO s8 6) s8.bW (mL (rO my 0) c6 kj) (mh c6 kj)) (au T J (cR (rx T 1 (cb J Z3 (λZ3=>?_) (λZ3=>?_)))))
   ·refine rc T 1 (lg T J (rG (j:=0) J hG (g:=5) (by decide)) (ro T 3 (br (am (_,_,_) [0,2,0,2,1,2] ⟨oi Z3,nZ⟩ J J))))
   refine rc T 2 (am (_,_,_) [0,2,0,2,1,0] ⟨oi Z3,s4⟩ J J)
  refine rc T 2 (am (_,_,_) [0,2,0,2,1,0] ⟨oi Z3,s4⟩ J J)
 rintro _ ⟨x3,C5,H7⟩ ⟨rfl,s7⟩ H;refine rc T 4 (bp J (I9 T J J J (ru s7 (j:=5) J)) (ro T 2 (cb J H (λH=>?_) (λH=>?_))))
 ·refine rc T 2 (lm T 3 J (sg T 2 J (ro T 5 ?_)))
  cases H;refine br (pb T J (.cQ (j:=2) [(ii w),(ii h),(ll a5 v2 n5)] J J J J J J J (.tmp J .nil)) [4,5,1,0] ⟨(_,_),a5,n5,H5,.nilIface,[],s5,tK,J,J⟩ J J)
 refine rc T 7 (lf T 1 J (ro T 1 (bp J (Ry (vs:=[(0,(ii v1.2.2.a_)),(1,(ii 3)),(2,C5)]) T [(0,[(ii v1.2.2.a_)]),(1,[(ii 3)]),(2,[C5])] J J J J J (by simp only[List.map,Rf s7];rfl) J) ?_)))
 refine nc T J (λfL=>ro T 7 (lg T J (rG (j:=0) J hG (g:=6) (by decide)) (k [] J Jv H (uT.c x3 (Er.dS 6) _ _ · (dB hG (j:=0) J) (ru s7 (j:=5) J) IX) (λv7 H=>ro T 2 (cb J H (λH=>?_) (λH=>?_))))))
 ·refine rc T 4 (sg T 6 J (ro T 6 (gj [6,5] J (bp J (g_ T J J J J) (sg T 2 J (ro T 2 (ke [6,7] [0,0,0,2] J J (rx T 2 ?_))))))))
  cases H;refine br (pb T J (.cQ (j:=2) [(ii 0),(ii 0),nl] J J J J J J J (.tmp J .nil)) [4,3,1,0] ⟨(_,_),none,0,[],(.iface 343 (pp fL)),(List.flatten [(cl fL 346 [(ii v1.2.2.a_),(ii 2),C5]),H7]),aj.nil,(pM s7),J,J⟩ J J)
 refine rc T 6 (gj [6,5] J (bp J (g_ T J J J J) (sg T 2 J (ro T 4 ?_))))
 cases H;refine br (pb T J (.cQ (j:=2) [(ii 0),(ii 0),nl] J J J J J J J (.tmp J .nil)) [6,5,1,0] ⟨(_,_),none,0,[],(.iface 343 (pp fL)),(List.flatten [(cl fL 346 [(ii v1.2.2.a_),(ii 3),C5]),H7]),aj.nil,(pM s7),J,J⟩ J J)
def qG.f (b:(List Int)) (w:Int) (h:Int):Option (aJ×Int×Int):=if((((decide (w<1))||(decide (w>16)))||(decide (h<1)))||(decide (h>16)))=true then(some ((aJ.mk 0 0 []),0,1)) else((vA.f (eQ.mk b 0) w h).bind λv1=>(Er.Fa 343 v1.2.1).bind λv2=>c_ v2 (some (v1.1,v1.2.2.a_,0)) (λrV=>some ((aJ.mk 0 0 []),0,rV.2.1)))
def qG.R (el:Nat->Addr) (r:(aJ×Int×Int)) (u:Value) (G:List Hp):Prop:= ∃(a0:Option Addr) (n0:Nat) (H0:Hp),aj (Fl.int .u8) 5 r.1.C a0 n0 H0/\u=(.tuple #[(.agg #[(ii r.1.W),(ii r.1.H),(ll a0 r.1.C n0)]),(ii r.2.1),(ii r.2.2)])/\G=[H0]
theorem qG.c (H:qG.f b w h=some r) (hG:fK 414 eZ hU el F) (hJ:aS (Fl.int .u8) b jV F) (gm:List.length b<=jK):
 QR 192 [(ll jV b jK),(ii w),(ii h)] [] [] F (qG.R el r):=by
 unfold qG.f at H;refine aB Tryz.func192 J J (λW=>rc T 2 (nc T J (λb1=>ro T 10 (go T [3,4,5] 14 [0,1,2,6] 17 J J J J J J J (ro T 1 (go T [7,8,9] 18 [0,1,2,6] 21 J J J J J J J (ro T 1 (go T [11,12,13] 22 [0,1,2,6] 25 J J J J J J J (ro T 2 (cb J H (λH=>?_) (λH=>?_)))))))))))
 ·refine rc T 3 (sg T 1 J (ro T 6 ?_))
  cases H;refine br (pb T J (.cQ (j:=1) [(ii 0),(ii 0),nl] J J J J J J J (.tmp J (.tmp J .nil))) [2,0] ⟨(_,_),none,0,[],aj.nil,J,J⟩ J J)
 refine rc T 6 (nc T J (λb3=>ro T 8 (kr (vA.R el b3 (ll jV b jK)) [] [2] J acO H (vA.c (ag:=(eQ.mk b 0)) · (dB hG (j:=0) J) (rO hJ 0) gm) (λv1 H=>?_))));rintro _ _ ⟨a4,n4,H4,v5,H5,s4,s5,rfl,rfl⟩;refine fz J (ro T 3 (sg T 1 J (ro T 2 (ks [6,9,10] J (rx T 4 (nc T J (λb6=>sg T 5 J (ro T 5 (bp J (g_ T J J J J) ?_)))))))));obtain⟨v2,V3,H⟩:=fY H;rcases v2 with _ |rV
 ·replace H:=eJ J H;obtain⟨Mn,Me⟩:=Yg V3 s5;subst Mn;subst Me;refine aW (si (As:=[(cl b6 343 [(.pointer none)])]) (R:=[F,(cl b1 139 [(ii v1.1.W),(ii v1.1.H),(ll a4 v1.1.C n4)]),H4,[],(cl b3 340 [(ll jV b jK),(ii v1.2.2.a_)])]) (B:=λ_=>[(cl b6 343 [(.pointer none)])]) [5] J J J J Jw J J (Mk.n _ (dB hG (j:=0) J)) (λ_=>ro T 2 (dW J (rc T 3 (ke [6,9] [0,0,0,1] J J (fz J (rz [] mix (bO bN) (λhg pf=>av 0 sz hg pf J (gA T 1 J J J J J J J) (ha T 4 [1,2,3] sz hg pf J (av 4 sz hg pf J (aw T J J J J (aD (j:=3) J J)) (ao 5 (sf T 1 J (an sz (ha T 0 [6,7] sz hg pf J (ae (rx T 2 ?_))))))))))))))))
  cases H;exact pb T J (.cQ (j:=1) [(ii v1.1.W),(ii v1.1.H),(ll a4 v1.1.C n4)] J J J J J J J (.tmp J (.tmp J .nil))) [2,0] ⟨(_,_),a4,n4,H4,s4,J,J⟩ J J
 replace H:=eK J H;obtain⟨b7,v8_,XE,H8,Mn,Me,s8⟩:=Yh V3 s5;subst Mn;subst Me;refine IH (j:=3) J (aW (si (As:=[(cl b6 343 [(.pointer none)])]) (R:=[F,(cl b1 139 [(ii v1.1.W),(ii v1.1.H),(ll a4 v1.1.C n4)]),H4,[(b7,Obj.cells #[(ii rV.1),(ii rV.2.1),v8_] XE (0,0))],(cl b3 340 [(ll jV b jK),(ii v1.2.2.a_)]),H8]) (B:=λ_=>[(cl b6 343 [(pp b7)])]) [5] J J J J Jw J J (Mk.s _ _ (dB hG (j:=0) J)) (λ_=>ro T 2 (mW J (rc T 1 (ke [6,11] [0,0,0,0,1,1] J J (fz J (rg [] [0,1,1,1,1] mix (bO bN) (λhg pf=>ha T 7 [0] (so [0,1,1,1,1]) hg pf J (av 1 (so [0,1,1,1,1]) hg pf J (aw T J J J J (aD (j:=4) J J)) (ha T 4 [2,3] (so [0,1,1,1,1]) hg pf J (av 4 (so [0,1,1,1,1]) hg pf J (aw T J J J J (aD (j:=2) J J)) (ao 5 (sf T 1 J (an (so [0,1,1,1,1]) (ha T 1 [6] (so [0,1,1,1,1]) hg pf J (ha T 0 [7] (so [0,1,1,1,1]) hg pf J (ae (rx T 3 ?_)))))))))))))))))))
 cases H;refine br (pb T J (.cQ (j:=1) [(ii 0),(ii 0),nl] J J J J J J J (.tmp J (.tmp J .nil))) [6,0] ⟨(_,_),none,0,[],aj.nil,J,J⟩ J J)
end
noncomputable section
def nP.f (w:Int) (h:Int):Option Bool:=some ((((decide (w≥1))&&(decide (w<=1024)))&&(decide (h≥1)))&&(decide (h<=1024)))
theorem nP.c (H:nP.f w h=some r):
 QU 96 [(ii w),(ii h)] [] F (bb r):=by
 unfold nP.f at H;refine aB Tryz.func96 J J (λW=>rc T 10 (ga T [3,4,5] 7 [1] 10 J J J J J J J (ro T 1 (ga T [7,8,9] 11 [1] 14 J J J J J J J (ro T 1 (ga T [11,12,13] 15 [] 18 J J J J J J J (ro T 4 ?_)))))))
 cases H;exact p0 T J [0] J
def qc.f (w:Int) (h:Int):Option (Int×Int):=(nP.f w h).bind λv1=>if(!v1)=true then(some (0,0)) else(some ((aa (Int.tdiv (aa ((aa (w+16))-1)) 16)),(aa (Int.tdiv (aa ((aa (h+16))-1)) 16))))
theorem qc.c (H:qc.f w h=some r):
 QU 59 [(ii w),(ii h)] [] F (.tuple #[(ii r.1),(ii r.2)]):=by
 unfold qc.f at H;refine aB Tryz.func59 J J (λW=>rc T 11 (k [] J BS H (nP.c ·) (λv1 H=>ro T 3 (cb J H (λH=>?_) (λH=>?_)))))
 ·refine rc T 8 ?_
  cases H;exact p0 T J [0] J
 refine rc T 17 ?_
 cases H;exact p0 T J [0] J
def zA.f (w:Int) (h:Int) (bB:Int):Option (Int×Int×Bool):=(qc.f w h).bind λv1=>if((decide (bB<0))||(decide (bB≥(aa (v1.1*v1.2)))))=true then(some (0,0,false)) else(if(¬v1.1=0) then(if(¬v1.1=0) then(some ((aa ((Int.tmod bB v1.1)*16)),(aa ((aa (Int.tdiv bB v1.1))*16)),true)) else none) else none)
theorem zA.c (H:zA.f w h bB=some r):
 QU 201 [(ii w),(ii h),(ii bB)] [] F (.tuple #[(ii r.1),(ii r.2.1),(bb r.2.2)]):=by
 unfold zA.f at H;refine aB Tryz.func201 J J (λW=>rc T 11 (k [] J FT H (qc.c ·) (λv1 H=>ro T 13 (go T [3,4,5,6,7,8] 19 [2,9] 25 J J J J J J J (ro T 2 (cb J H (λH=>?_) (λH=>?_)))))))
 ·refine rc T 9 ?_
  cases H;exact p0 T J [0] J
 refine rc T 3 (dj mix ay (au T J (au T J ?_)));obtain⟨c3,H⟩:=az H;refine aN J J J (uZ J J J c3) (au T J (au T J (au T J ?_)));obtain⟨c4,H⟩:=az H;refine aN J J J (uY J J J c4) ?_
 iterate 4 refine au T J ?_
 refine cR (rx T 2 ?_)
 cases H;exact p0 T J [0] J
def qS.f (w:Int) (h:Int) (bB:Int):Option (Int×Int):=(zA.f w h bB).bind λv1=>if(!v1.2.2)=true then(some (0,0)) else(some ((if(aa (w-v1.1))<16 then(aa (w-v1.1)) else 16),(if(aa (h-v1.2.1))<16 then(aa (h-v1.2.1)) else 16)))
theorem qS.c (H:qS.f w h bB=some r):
 QU 172 [(ii w),(ii h),(ii bB)] [] F (.tuple #[(ii r.1),(ii r.2)]):=by
 unfold qS.f at H;refine aB Tryz.func172 J J (λW=>rc T 11 (k [] J SC H (zA.c ·) (λv1 H=>ro T 16 (cb J H (λH=>?_) (λH=>?_)))))
 ·refine rc T 8 ?_
  cases H;exact p0 T J [0] J
 refine rc T 17 ?_
 cases H;exact p0 T J [0] J
def zy.f (w:Int) (h:Int) (x:Int) (y:Int):Option Int:=(nP.f w h).bind λv1=>if(((((!v1)||(decide (x<0)))||(decide (x≥w)))||(decide (y<0)))||(decide (y≥h)))=true then(some (-1)) else(some (aa ((aa (y*w))+x)))
theorem zy.c (H:zy.f w h x y=some r):
 QU 202 [(ii w),(ii h),(ii x),(ii y)] [] F (ii r):=by
 unfold zy.f at H;refine aB Tryz.func202 J J (λW=>rc T 10 (k [] J BS H (nP.c ·) (λv1 H=>ro T 2 (go T [5,6,7] 13 [0,1,2,3] 16 J J J J J J J (ro T 1 (go T [9,10,11,12] 17 [0,1,2,3] 21 J J J J J J J (ro T 1 (go T [14,15,16] 22 [0,1,2,3] 25 J J J J J J J (ro T 1 (go T [18,19,20,21] 26 [0,2,3] 30 J J J J J J J (ro T 2 (cb J H (λH=>?_) (λH=>?_)))))))))))))
 ·refine rc T 7 ?_
  cases H;exact p0 T J [0] J
 refine rc T 13 ?_
 cases H;exact p0 T J [0] J
def tv.f (w:Int) (h:Int) (bB:Int) (p3:Int):Option Int:=(zA.f w h bB).bind λv1=>(qS.f w h bB).bind λv2=>if(((!v1.2.2)||(decide (p3<0)))||(decide (p3≥(aa (v2.1*v2.2)))))=true then(some (-1)) else(if(¬v2.1=0) then(if(¬v2.1=0) then((zy.f w h (aa (v1.1+(Int.tmod p3 v2.1))) (aa (v1.2.1+(aa (Int.tdiv p3 v2.1))))).bind λv3=>some v3) else none) else none)
theorem tv.c (H:tv.f w h bB p3=some r):
 QU 173 [(ii w),(ii h),(ii bB),(ii p3)] [] F (ii r):=by
 unfold tv.f at H;refine aB Tryz.func173 J J (λW=>rc T 10 (k [] J SC H (zA.c ·) (λv1 H=>ro T 14 (k [] J FO H (qS.c ·) (λv2 H=>ro T 13 (go T [3,4,5] 31 [0,1,3,9,10,12,13] 34 J J J J J J J (ro T 1 (go T [7,8,9,10,11,12] 35 [0,1,3,9,10,12] 41 J J J J J J J (ro T 2 (cb J H (λH=>?_) (λH=>?_)))))))))))
 ·refine rc T 7 ?_
  cases H;exact p0 T J [0] J
 refine rc T 3 (dj mix ay ?_)
 iterate 5 refine au T J ?_
 obtain⟨c4,H⟩:=az H;refine aN J J J (uZ J J J c4) ?_
 iterate 4 refine au T J ?_
 obtain⟨c5,H⟩:=az H;refine aN J J J (uY J J J c5) (au T J ?_);obtain⟨v3,V6,H⟩:=fY H;refine tF J J J J J J SD J (zy.c V6) (au T J (cR (rx T 2 ?_)))
 cases H;exact p0 T J [0] J
def we.f (w:Int) (h:Int) (cell:Int):Option Bool:=(nP.f w h).bind λv1=>some ((v1&&(decide (cell≥0)))&&(decide (cell<(aa (w*h)))))
theorem we.c (H:we.f w h cell=some r):
 QU 95 [(ii w),(ii h),(ii cell)] [] F (bb r):=by
 unfold we.f at H;refine aB Tryz.func95 J J (λW=>rc T 9 (k [] J BS H (nP.c ·) (λv1 H=>ro T 1 (ga T [4,5,6] 10 [0,1,2] 13 J J J J J J J (ro T 1 (ga T [8,9,10,11,12,13] 14 [] 20 J J J J J J J (ro T 4 ?_)))))))
 cases H;exact p0 T J [0] J
def wb.f (w:Int) (h:Int) (cell:Int):Option (Int×Int):=(we.f w h cell).bind λv1=>if(!v1)=true then(some ((-1),(-1))) else(if(¬w=0) then(if(¬w=0) then(some ((Int.tmod cell w),(aa (Int.tdiv cell w)))) else none) else none)
theorem wb.c (H:wb.f w h cell=some r):
 QU 58 [(ii w),(ii h),(ii cell)] [] F (.tuple #[(ii r.1),(ii r.2)]):=by
 unfold wb.f at H;refine aB Tryz.func58 J J (λW=>rc T 12 (k [] J Nc H (we.c ·) (λv1 H=>ro T 3 (cb J H (λH=>?_) (λH=>?_)))))
 ·refine rc T 8 ?_
  cases H;exact p0 T J [0] J
 refine rc T 3 (dj mix ay (au T J (au T J ?_)));obtain⟨c3,H⟩:=az H;refine aN J J J (uZ J J J c3) (au T J (au T J ?_));obtain⟨c4,H⟩:=az H;refine aN J J J (uY J J J c4) (au T J (au T J (cR (rx T 2 ?_))))
 cases H;exact p0 T J [0] J
def gD.f (w:Int) (h:Int) (cell:Int):Option Int:=(wb.f w h cell).bind λv1=>if v1.1<0 then(some (-1)) else((qc.f w h).bind λv2=>some (aa ((aa ((aa (Int.tdiv v1.2 16))*v2.1))+(aa (Int.tdiv v1.1 16)))))
theorem gD.c (H:gD.f w h cell=some r):
 QU 26 [(ii w),(ii h),(ii cell)] [] F (ii r):=by
 unfold gD.f at H;refine aB Tryz.func26 J J (λW=>rc T 10 (k [] J Na H (wb.c ·) (λv1 H=>ro T 14 (cd J H (λH=>?_) (λH=>?_)))))
 ·refine rc T 7 ?_
  cases H;exact p0 T J [0] J
 refine rc T 6 (k [] J FT H (qc.c ·) (λv2 H=>ro T 20 ?_))
 cases H;exact p0 T J [0] J
def lZ.f (w:Int) (h:Int) (cell:Int) (side:Int):Option Int:=(wb.f w h cell).bind λv1=>if v1.1<0 then(some (-1)) else((if(side==0)=true then(some (Sum.inr (v1.1,(aa (v1.2+(-1)))))) else(if(side==2)=true then(some (Sum.inr (v1.1,(aa (v1.2+1))))) else(if(side==3)=true then(some (Sum.inr ((aa (v1.1+(-1))),v1.2))) else(if(side==1)=true then(some (Sum.inr ((aa (v1.1+1)),v1.2))) else(if(side==4)=true then(some (Sum.inr (v1.1,v1.2))) else(some (Sum.inl (-1)))))))).bind λzz=>match zz with |Sum.inl q=>some q |Sum.inr (x2,x3)=>(zy.f w h x2 x3).bind λv5=>some v5)
theorem lZ.c (H:lZ.f w h cell side=some r):
 QU 207 [(ii w),(ii h),(ii cell),(ii side)] [] F (ii r):=by
 unfold lZ.f at H;refine aB Tryz.func207 J J (λW=>rc T 10 (k [] J Na H (wb.c ·) (λv1 H=>ro T 14 (cd J H (λH=>?_) (λH=>?_)))))
 ·refine rc T 7 ?_
  cases H;exact p0 T J [0] J
 refine rc T 7 (mq H [0,1] [0] (λz4 (⟨x2,x3⟩:Int×Int)=>((Sum.inr (x2,x3))=z4,[(9,(ii x2)),(10,(ii x3))],[])) J J (λz4 Z3 H=>?_) ?_)
 ·refine rc T 26 (cb J Z3 (λZ3=>?_) (λZ3=>?_))
  ·refine rc T 29 (am (_,_) [0] (oi Z3) J J)
  refine rc T 9 (cb J Z3 (λZ3=>?_) (λZ3=>?_))
  ·refine rc T 26 (am (_,_) [0] (oi Z3) J J)
  refine rc T 9 (cb J Z3 (λZ3=>?_) (λZ3=>?_))
  ·refine rc T 29 (am (_,_) [0] (oi Z3) J J)
  refine rc T 9 (cb J Z3 (λZ3=>?_) (λZ3=>?_))
  ·refine rc T 26 (am (_,_) [0] (oi Z3) J J)
  refine rc T 8 (cb J Z3 (λZ3=>?_) (λZ3=>?_))
  ·refine rc T 17 (am (_,_) [0] (oi Z3) J J)
  refine rc T 25 ?_;obtain rfl:=Option.some.inj Z3;obtain rfl:=Option.some.inj (show some (-1)=some r from H)
  exact p0 T J [0] J
 rintro _ ⟨x2,x3⟩ rfl H;refine rc T 6 (k [] J SD H (zy.c ·) (λv5 H=>ro T 4 ?_))
 cases H;exact p0 T J [0] J
def qR.f (w:Int) (h:Int) (cell:Int):Option Int:=(wb.f w h cell).bind λv1=>if v1.1<0 then(some (-1)) else((gD.f w h cell).bind λv2=>(qS.f w h v2).bind λv3=>some (aa ((aa ((Int.tmod v1.2 16)*v3.1))+(Int.tmod v1.1 16))))
theorem qR.c (H:qR.f w h cell=some r):
 QU 165 [(ii w),(ii h),(ii cell)] [] F (ii r):=by
 unfold qR.f at H;refine aB Tryz.func165 J J (λW=>rc T 10 (k [] J Na H (wb.c ·) (λv1 H=>ro T 14 (cd J H (λH=>?_) (λH=>?_)))))
 ·refine rc T 7 ?_
  cases H;exact p0 T J [0] J
 refine rc T 9 (k [] J rC H (gD.c ·) (λv2 H=>k [] J FO H (qS.c ·) (λv3 H=>ro T 20 ?_)))
 cases H;exact p0 T J [0] J
def qe.l0:Nat->Int->Int->Int->Int->Int->Option Int
 |0,_,_,_,_,_=>none
 |k7+1,w,h,a,b,x6=>if x6<=4 then((lZ.f w h a x6).bind λv8=>if(v8==b)=true then(some x6) else(qe.l0 k7 w h a b (aa (x6+1)))) else(some 5)
def qe.f (w:Int) (h:Int) (a:Int) (b:Int):Option Int:=((we.f w h a).bind λv3=>if(!v3)=true then(some true) else((we.f w h b).bind λv4=>some (!v4))).bind λx1=>if x1=true then(some 5) else(qe.l0 fuel w h a b 0)
theorem qe.c (H:qe.f w h a b=some r):
 QU 178 [(ii w),(ii h),(ii a),(ii b)] [] F (ii r):=by
 unfold qe.f at H;refine aB Tryz.func178 J J (λW=>rc T 6 (mq H [0,1,2,3] [0] (λz2 (x1:Bool)=>(x1=z2,[(21,(bb x1))],[])) J J (λz2 Z1 _=>?_) ?_))
 ·refine rc T 4 (k [] J Nc Z1 (we.c ·) (λv3 Z1=>ro T 2 (ab 15 J Z1 (λZ1=>?_) (λZ1=>?_))))
  ·refine ro T 8 (am _ [0] (oi Z1) J J)
  refine ro T 3 (k [] J Nc Z1 (we.c ·) (λv4 Z1=>ro T 4 (am _ [0] (oi Z1) J J)))
 rintro _ x1 rfl H;refine cb J H (λH=>?_) (λH=>?_)
 ·refine rc T 7 ?_
  cases H;exact p0 T J [0] J
 refine rc T 9 (lq [0,1,2,3] [0] (λ(⟨k7,x6⟩:Nat×Int)=>(qe.l0 k7 w h a b x6=some r,[(9,(ii x6))],[])) J J (fuel,0) [0] H J J ?_);rintro k7 x6 Z6;replace Z6:qe.l0 (k7+1) w h a b x6=some r:=Z6;rw[qe.l0] at Z6;refine rc T 7 (cd J Z6 (λZ6=>?_) (λZ6=>?_))
 ·refine rc T 10 (k [] J Ae Z6 (lZ.c ·) (λv8 Z6=>ro T 4 (cb J Z6 (λZ6=>?_) (λZ6=>?_))))
  ·refine rc T 12 ?_
   cases Z6;exact p0 T J [0] J
  refine rc T 9 (ar _ [0] Z6 J J)
 refine rc T 11 ?_
 cases Z6;exact p0 T J [0] J
end
noncomputable section
def Bw.f (w:Int) (h:Int):Option Int:=(qc.f w h).bind λv1=>some (aa (v1.1*v1.2))
theorem Bw.c (H:Bw.f w h=some r):
 QU 191 [(ii w),(ii h)] [] F (ii r):=by
 unfold Bw.f at H;refine aB Tryz.func191 J J (λW=>rc T 9 (k [] J FT H (qc.c ·) (λv1 H=>ro T 16 ?_)))
 cases H;exact p0 T J [0] J
def nX.l0:Nat->aJ->aJ->Int->List Int->Int->Option (List Int)
 |0,_,_,_,_,_=>none
 |k6+1,m,t,v1,x4,x5=>if x5<t.H then(if(0<=(aa (v1+(aa (x5*m.W))))/\(aa (v1+(aa (x5*m.W))))<=(List.length x4:Int)/\(List.length x4:Int)<=(List.length x4:Int)) then(if(0<=(aa (x5*t.W))/\(aa (x5*t.W))<=(aa ((aa (x5+1))*t.W))/\(aa ((aa (x5+1))*t.W))<=(List.length t.C:Int)) then(nX.l0 k6 m t v1 (cj x4 (Int.toNat (aa (v1+(aa (x5*m.W))))) (min (List.length (aA t.C (aa (x5*t.W)) (aa ((aa (x5+1))*t.W)))) (List.length (aA x4 (aa (v1+(aa (x5*m.W)))) (List.length x4:Int)))) (aA t.C (aa (x5*t.W)) (aa ((aa (x5+1))*t.W)))) (aa (x5+1))) else none) else none) else(some x4)
def nX.f (m:aJ) (bB:Int) (t:aJ):Option (List Int):=(tv.f m.W m.H bB 0).bind λv1=>nX.l0 fuel m t v1 m.C 0
def nX.R (ai7:Option Addr) (ajc:Nat) (aja:Nat) (r:(List Int)) (u:Value) (G:List Hp):Prop:= ∃(H0:Hp),aj (Fl.int .u8) 5 r ai7 ajc H0/\List.length r=aja/\u=(.tuple #[])/\G=[H0]
theorem nX.c (H:nX.f m bB t=some r) (ahK:aj (Fl.int .u8) 5 m.C oD oo Py) (dH:aS (Fl.int .u8) t.C iv F) (ff:List.length t.C<=iy):
 QR 193 [(.agg #[(ii m.W),(ii m.H),(ll oD m.C oo)]),(ii bB),(.agg #[(ii t.W),(ii t.H),(ll iv t.C iy)])] [Py] [] F (nX.R oD oo (List.length m.C) r):=by
 unfold nX.f at H;refine aB Tryz.func193 J J (λW=>rc T 2 (nc T J (λb2=>nc T J (λb3=>ro T 5 (lf T 2 J (ro T 1 (lf T 2 J (ro T 1 (k [] J Jl H (tv.c ·) (λv1 H=>ro T 6 (lf T 3 J (ro T 4 (lq [3,5,6,15] [1,2] (λ(⟨k6,x4,x5,H5⟩:Nat×List Int×Int×Hp)=>(nX.l0 k6 m t v1 x4 x5=some r/\aj (Fl.int .u8) 5 x4 oD oo H5/\List.length x4=List.length m.C,[(16,(ii x5))],[(cl b2 30 [(ii m.W),(ii m.H),(ll oD x4 oo)]),H5])) J J (fuel,m.C,0,Py) [1,2,1,0] ⟨H,ahK,J⟩ J J ?_)))))))))))));rintro k6 ⟨x4,x5,H5⟩ ⟨Z2,s5,l5⟩;rw[nX.l0] at Z2;refine rc T 6 (cd J Z2 (λZ2=>?_) (λZ2=>?_))
 ·refine rc T 10 (fz J (rz [21] mix (bO bN) (λhg pf=>ha T 21 [0] sz hg pf J (av 1 sz hg pf J (aw T J J J J (aD (j:=2) J J)) (ha T 17 [2,3,4] sz hg pf J (av 5 sz hg pf J (aw T J J J J (aD (j:=2) J J)) (ha T 14 [6,7] sz hg pf J ?_)))))));obtain⟨c4,Z2⟩:=az Z2;refine av 8 sz hg pf J (kn T J J J J J J c4 s5.bW) (ha T 12 [9] sz hg pf J (av 10 sz hg pf J (aw T J J J J (aD (j:=1) J J)) (ha T 9 [11,12] sz hg pf J (av 13 sz hg pf J (aw T J J J J (aD (j:=1) J J)) (ha T 4 [14,15,16,17] sz hg pf J (av 18 sz hg pf J (aw T J J J J (aD (j:=1) J J)) (ha T 2 [19] sz hg pf J ?_)))))));obtain⟨c5,Z2⟩:=az Z2;refine av 20 sz hg pf J (kn T J J J J J J c5 ff) (ao 21 ?_);have L6:(Int.toNat (aa (v1+(aa (x5*m.W)))))+(List.length (aA x4 (aa (v1+(aa (x5*m.W)))) (List.length x4:Int)))<=List.length x4:=(HC c4);refine Bv (k:=(Fl.int .u8)) (xs:=x4) (ys:=(aA t.C (aa (x5*t.W)) (aa ((aa (x5+1))*t.W)))) (lo:=(Int.toNat (aa (v1+(aa (x5*m.W)))))) (g:=3) T J J J J J J J J s5 (mL (rO dH 0) c5 ff) (.inr J) L6 (λH6 s6=>?_);have V7:(0<=(aa (v1+(aa (x5*m.W))))/\(aa (v1+(aa (x5*m.W))))<=(List.length x4:Int)/\(List.length x4:Int)<=(List.length (cj x4 (Int.toNat (aa (v1+(aa (x5*m.W))))) (min (List.length (aA t.C (aa (x5*t.W)) (aa ((aa (x5+1))*t.W)))) (List.length (aA x4 (aa (v1+(aa (x5*m.W)))) (List.length x4:Int)))) (aA t.C (aa (x5*t.W)) (aa ((aa (x5+1))*t.W)))):Int)):=by simp only[lM L6];exact c4
  refine kg [3,5,6,7,15,16,19,21,22,23,24,25,26,28,29,30,31,32,33,34,35,36,37,38,39,40] [0,0,1] [0,0,1,0] [(20,(ll oD (cj x4 (Int.toNat (aa (v1+(aa (x5*m.W))))) (min (List.length (aA t.C (aa (x5*t.W)) (aa ((aa (x5+1))*t.W)))) (List.length (aA x4 (aa (v1+(aa (x5*m.W)))) (List.length x4:Int)))) (aA t.C (aa (x5*t.W)) (aa ((aa (x5+1))*t.W)))) oo)),(27,(ll (fS oD oo (Int.toNat (aa (v1+(aa (x5*m.W))))) 1) (aA (cj x4 (Int.toNat (aa (v1+(aa (x5*m.W))))) (min (List.length (aA t.C (aa (x5*t.W)) (aa ((aa (x5+1))*t.W)))) (List.length (aA x4 (aa (v1+(aa (x5*m.W)))) (List.length x4:Int)))) (aA t.C (aa (x5*t.W)) (aa ((aa (x5+1))*t.W)))) (aa (v1+(aa (x5*m.W)))) (List.length x4:Int)) (oo-Int.toNat (aa (v1+(aa (x5*m.W)))))))] [(cl b2 30 [(ii m.W),(ii m.H),(ll oD (cj x4 (Int.toNat (aa (v1+(aa (x5*m.W))))) (min (List.length (aA t.C (aa (x5*t.W)) (aa ((aa (x5+1))*t.W)))) (List.length (aA x4 (aa (v1+(aa (x5*m.W)))) (List.length x4:Int)))) (aA t.C (aa (x5*t.W)) (aa ((aa (x5+1))*t.W)))) oo)])] J J ⟨(by first |rfl |(simp only[ll,lM L6];rfl)),(by simp only[ll];rw[iJ V7,<-iJ c4];rfl),trivial⟩ (by first |rfl |(simp only[ll,lM L6];rfl)) (an sl (ae (rx T 7 ?_)))
  exact ar (_,_,_) [0,0,1,0] ⟨Z2,s6,(Eq.trans (lM L6) l5)⟩ J J
 refine rc T 4 (i_ ?_)
 cases Z2;exact p1 T J [3,0] ⟨H5,s5,l5,J,J⟩ J
def oG.l0:Nat->(List Int)->Int->List Int->List Int->Int->Option (aJ×Er)
 |0,_,_,_,_,_=>none
 |k9+1,b,v2,x6,x7,x8=>if x8<v2 then((qS.f (aa (BitVec.toNat (BitVec.ofInt (IntKind.bits .i64) (aa (rd b 0))|||BitVec.ofInt (IntKind.bits .i64) (aa ((aa (rd b 1))*2^8))))) (aa (BitVec.toNat (BitVec.ofInt (IntKind.bits .i64) (aa (rd b 2))|||BitVec.ofInt (IntKind.bits .i64) (aa ((aa (rd b 3))*2^8))))) x8).bind λv10=>(qG.f x6 v10.1 v10.2).bind λv11=>if(v11.2.2 !=0)=true then(some ((aJ.mk 0 0 []),(Er.wrap 301 [x8] (Er.num 243 v11.2.2)))) else((nX.f (aJ.mk (aa (BitVec.toNat (BitVec.ofInt (IntKind.bits .i64) (aa (rd b 0))|||BitVec.ofInt (IntKind.bits .i64) (aa ((aa (rd b 1))*2^8))))) (aa (BitVec.toNat (BitVec.ofInt (IntKind.bits .i64) (aa (rd b 2))|||BitVec.ofInt (IntKind.bits .i64) (aa ((aa (rd b 3))*2^8))))) x7) x8 v11.1).bind λv12=>if(0<=v11.2.1/\v11.2.1<=(List.length x6:Int)/\(List.length x6:Int)<=(List.length x6:Int)) then(oG.l0 k9 b v2 (aA x6 v11.2.1 (List.length x6:Int)) v12 (aa (x8+1))) else none)) else(if(List.length x6:Int)>0 then(some ((aJ.mk 0 0 []),(Er.num 243 3))) else(some ((aJ.mk (aa (BitVec.toNat (BitVec.ofInt (IntKind.bits .i64) (aa (rd b 0))|||BitVec.ofInt (IntKind.bits .i64) (aa ((aa (rd b 1))*2^8))))) (aa (BitVec.toNat (BitVec.ofInt (IntKind.bits .i64) (aa (rd b 2))|||BitVec.ofInt (IntKind.bits .i64) (aa ((aa (rd b 3))*2^8))))) x7),Er.nil)))
def oG.f (b:(List Int)):Option (aJ×Er):=if(List.length b:Int)<4 then(some ((aJ.mk 0 0 []),(Er.num 243 2))) else(if(0<=(0:Int)/\(0:Int)<(List.length b:Int)) then(if(0<=(1:Int)/\(1:Int)<(List.length b:Int)) then(if(0<=(2:Int)/\(2:Int)<(List.length b:Int)) then(if(0<=(3:Int)/\(3:Int)<(List.length b:Int)) then((nP.f (aa (BitVec.toNat (BitVec.ofInt (IntKind.bits .i64) (aa (rd b 0))|||BitVec.ofInt (IntKind.bits .i64) (aa ((aa (rd b 1))*2^8))))) (aa (BitVec.toNat (BitVec.ofInt (IntKind.bits .i64) (aa (rd b 2))|||BitVec.ofInt (IntKind.bits .i64) (aa ((aa (rd b 3))*2^8)))))).bind λv1=>if(!v1)=true then(some ((aJ.mk 0 0 []),(Er.num 243 3))) else(if(0<=(4:Int)/\(4:Int)<=(List.length b:Int)/\(List.length b:Int)<=(List.length b:Int)) then(if(0<=(aa ((aa (BitVec.toNat (BitVec.ofInt (IntKind.bits .i64) (aa (rd b 0))|||BitVec.ofInt (IntKind.bits .i64) (aa ((aa (rd b 1))*2^8)))))*(aa (BitVec.toNat (BitVec.ofInt (IntKind.bits .i64) (aa (rd b 2))|||BitVec.ofInt (IntKind.bits .i64) (aa ((aa (rd b 3))*2^8)))))))/\(aa ((aa (BitVec.toNat (BitVec.ofInt (IntKind.bits .i64) (aa (rd b 0))|||BitVec.ofInt (IntKind.bits .i64) (aa ((aa (rd b 1))*2^8)))))*(aa (BitVec.toNat (BitVec.ofInt (IntKind.bits .i64) (aa (rd b 2))|||BitVec.ofInt (IntKind.bits .i64) (aa ((aa (rd b 3))*2^8)))))))<=1099511627776) then((Bw.f (aa (BitVec.toNat (BitVec.ofInt (IntKind.bits .i64) (aa (rd b 0))|||BitVec.ofInt (IntKind.bits .i64) (aa ((aa (rd b 1))*2^8))))) (aa (BitVec.toNat (BitVec.ofInt (IntKind.bits .i64) (aa (rd b 2))|||BitVec.ofInt (IntKind.bits .i64) (aa ((aa (rd b 3))*2^8)))))).bind λv2=>oG.l0 fuel b v2 (aA b 4 (List.length b:Int)) (List.replicate (Int.toNat (aa ((aa (BitVec.toNat (BitVec.ofInt (IntKind.bits .i64) (aa (rd b 0))|||BitVec.ofInt (IntKind.bits .i64) (aa ((aa (rd b 1))*2^8)))))*(aa (BitVec.toNat (BitVec.ofInt (IntKind.bits .i64) (aa (rd b 2))|||BitVec.ofInt (IntKind.bits .i64) (aa ((aa (rd b 3))*2^8)))))))) (0:Int)) 0) else none) else none)) else none) else none) else none) else none)
def oG.R (el:Nat->Addr) (r:(aJ×Er)) (u:Value) (G:List Hp):Prop:= ∃(a0:Option Addr) (n0:Nat) (H0:Hp) (v1:Value) (H1:Hp),aj (Fl.int .u8) 5 r.1.C a0 n0 H0/\fU 414 el r.2 v1 H1/\u=(.tuple #[(.agg #[(ii r.1.W),(ii r.1.H),(ll a0 r.1.C n0)]),v1])/\G=[H0,H1]
theorem oG.c (H:oG.f b=some r) (hG:fK 414 eZ hU el F) (hJ:aS (Fl.int .u8) b jV F) (gm:List.length b<=jK):
 QR 147 [(ll jV b jK)] [] [] F (oG.R el r):=by
 unfold oG.f at H;refine aB Tryz.func147 J J (λW=>rc T 2 (nc T J (λb1=>ro T 11 (cd J H (λH=>?_) (λH=>?_)))))
 ·refine rc T 3 (bp J (g_ T J J J J) (sg T 1 J (ro T 5 ?_)))
  cases H;refine br (br (pb T J (.cQ (j:=1) [(ii 0),(ii 0),nl] J J J J J J J (.tmp J .nil)) [2,2,0] ⟨(_,_),none,0,[],(.iface 243 (ii 2)),[],aj.nil,rp,J,J⟩ J J))
 refine rc T 3 (ks [0,2] J (fz J (rg [] [0,0] mix (bO bN) (λhg pf=>ha T 22 [0] sz hg pf J ?_))));obtain⟨c2,H⟩:=az H;obtain⟨q4,o4,e4⟩:=hJ.addr c2.1 c2.2;refine av 1 sz hg pf J (cB T J J J J J e4 c2.1 c2.2) (av 2 sz hg pf J (aw T J J J J (gM (k:=(Fl.int .u8)) (rO hJ 0) e4 c2 0 J)) (ha T 18 [3,4] sz hg pf J ?_));obtain⟨c3,H⟩:=az H;refine av 5 sz hg pf J (cB T J J J J J e4 c3.1 c3.2) (av 6 sz hg pf J (aw T J J J J (gM (k:=(Fl.int .u8)) (rO hJ 0) e4 c3 0 J)) (ha T 12 [7,8,9,10] sz hg pf J ?_));obtain⟨c4,H⟩:=az H;refine av 11 sz hg pf J (cB T J J J J J e4 c4.1 c4.2) (av 12 sz hg pf J (aw T J J J J (gM (k:=(Fl.int .u8)) (rO hJ 0) e4 c4 0 J)) (ha T 8 [13,14] sz hg pf J ?_));obtain⟨c5,H⟩:=az H;refine av 15 sz hg pf J (cB T J J J J J e4 c5.1 c5.2) (av 16 sz hg pf J (aw T J J J J (gM (k:=(Fl.int .u8)) (rO hJ 0) e4 c5 0 J)) (ha T 2 [17,18,19,20] sz hg pf J (ao 21 (nw T J (λb5=>an (so [0,0]) (ao 22 (sf T 2 J (an (so [0,0]) (ae (rx T 5 (lf T 2 J (ro T 1 (lf T 2 J (k [] J BS H (nP.c ·) (λv1 H=>ro T 3 (cb J H (λH=>?_) (λH=>?_)))))))))))))))))
 ·refine rc T 3 (bp J (g_ T J J J J) (sg T 1 J (ro T 5 ?_)))
  cases H;refine br (br (pb T J (.cQ (j:=1) [(ii 0),(ii 0),nl] J J J J J J J (.tmp J .nil)) [3,3,0] ⟨(_,_),none,0,[],(.iface 243 (ii 3)),[],aj.nil,rp,J,J⟩ J J))
 refine rc T 5 ?_;obtain⟨c8,H⟩:=az H;refine bp J (kn T J J J J J J c8 gm) (ro T 6 (lf T 2 J (ro T 1 (lf T 2 J (ro T 1 ?_)))));obtain⟨c9,H⟩:=az H;refine aW (yj (k:=(Fl.int .u8)) T (0:Int) J J J J J J J J c9 J (λa8 n8 H8 s8=>ro T 1 (sg T 2 J (ro T 6 (lf T 2 J (ro T 1 (lf T 2 J (k [] J acq H (Bw.c ·) (λv2 H=>ro T 4 (lq [2,4,58] [0,0] (λ(⟨k9,x6,x7,x8,dt,n11,a12,n12,dw⟩:Nat×List Int×List Int×Int×Option Addr×Nat×Option Addr×Nat×Hp)=>(oG.l0 k9 b v2 x6 x7 x8=some r/\dq (Fl.int .u8) b jV jK x6 dt n11/\List.length x6<=n11/\aj (Fl.int .u8) 5 x7 a12 n12 dw,[(0,(ll dt x6 n11)),(59,(ii x8))],[(cl b5 30 [(ii (aa (BitVec.toNat (BitVec.ofInt (IntKind.bits .i64) (aa (rd b 0))|||BitVec.ofInt (IntKind.bits .i64) (aa ((aa (rd b 1))*2^8)))))),(ii (aa (BitVec.toNat (BitVec.ofInt (IntKind.bits .i64) (aa (rd b 2))|||BitVec.ofInt (IntKind.bits .i64) (aa ((aa (rd b 3))*2^8)))))),(ll a12 x7 n12)]),dw])) J J (fuel,(aA b 4 (List.length b:Int)),(List.replicate (Int.toNat (aa ((aa (BitVec.toNat (BitVec.ofInt (IntKind.bits .i64) (aa (rd b 0))|||BitVec.ofInt (IntKind.bits .i64) (aa ((aa (rd b 1))*2^8)))))*(aa (BitVec.toNat (BitVec.ofInt (IntKind.bits .i64) (aa (rd b 2))|||BitVec.ofInt (IntKind.bits .i64) (aa ((aa (rd b 3))*2^8)))))))) (0:Int)),0,(fS jV jK (Int.toNat 4) 1),(jK-Int.toNat 4),a8,n8,H8) [0,0,0,0] ⟨H,(dq.sub dq.self gm c8),(mh c8 gm),s8⟩ J J ?_))))))))))
 rintro k9 ⟨x6,x7,x8,dt,n11,a12,n12,dw⟩ ⟨ba,yn,zS,dD⟩;rw[oG.l0] at ba;refine rc T 6 (cd J ba (λba=>?_) (λba=>?_))
 ·refine rc T 13 (lf T 2 J (ro T 1 (lf T 2 J (ro T 1 (k [] J FO ba (qS.c ·) (λv10 ba=>ro T 12 (kr (qG.R el) [] [] J acr ba (qG.c · (dB hG (j:=0) J) (nY yn (rO hJ 0) gm) zS) (λv11 ba=>?_))))))));rintro _ _ ⟨dy,n13,eo,dh,rfl,rfl⟩;refine fz J (ro T 4 (nc T J (λIK=>sg T 5 J (ro T 11 (cb J ba (λba=>?_) (λba=>?_))))))
  ·refine rc T 5 (bp J (g_ T J J J J) (ro T 1 (nc T J (λmX=>br (gj [6,6] J (bp J (g_ T J J J J) (sg T 1 J (ro T 10 ?_))))))))
   cases ba;refine br (pb T J (.cQ (j:=1) [(ii 0),(ii 0),nl] J J J J J J J (.tmp J .nil)) [7,6,0] ⟨(_,_),none,0,[],(.iface 301 (pp mX)),(List.flatten [(cl mX 303 [(ii x8),(.iface 243 (ii v11.2.2))]),[]]),aj.nil,(pM rp),J,J⟩ J J)
  refine rc T 4 (lm T 2 J (ro T 1 (lm T 5 J (kr (nX.R a12 n12 (List.length x7)) [] [3] J acs ba (nX.c (m:=(aJ.mk (aa (BitVec.toNat (BitVec.ofInt (IntKind.bits .i64) (aa (rd b 0))|||BitVec.ofInt (IntKind.bits .i64) (aa ((aa (rd b 1))*2^8))))) (aa (BitVec.toNat (BitVec.ofInt (IntKind.bits .i64) (aa (rd b 2))|||BitVec.ofInt (IntKind.bits .i64) (aa ((aa (rd b 3))*2^8))))) x7)) · dD (oO dh 3) dh.bW) (λv12 ba=>?_)))))
  rintro _ _ ⟨kF,gQ,l19,rfl,rfl⟩;refine fz J (kg [0,2,4,9,58,59] [0,0,3] [0,0,3,0] [] [(cl b5 30 [(ii (aa (BitVec.toNat (BitVec.ofInt (IntKind.bits .i64) (aa (rd b 0))|||BitVec.ofInt (IntKind.bits .i64) (aa ((aa (rd b 1))*2^8)))))),(ii (aa (BitVec.toNat (BitVec.ofInt (IntKind.bits .i64) (aa (rd b 2))|||BitVec.ofInt (IntKind.bits .i64) (aa ((aa (rd b 3))*2^8)))))),(ll a12 v12 n12)])] J J trivial (by first |rfl |(simp only[ll,l19];rfl)) (ro T 5 ?_))
  obtain⟨jc,ba⟩:=az ba;refine bp J (kn T J J J J J J jc zS) (ro T 9 (ar (_,_,_,_,_,_,_,_) [0,0,1,0] ⟨ba,(dq.sub yn gm jc),(mh jc zS),gQ⟩ J J))
 refine rc T 13 (cd J ba (λba=>?_) (λba=>?_))
 ·refine rc T 3 (bp J (g_ T J J J J) (sg T 1 J (ro T 5 ?_)))
  cases ba;refine br (br (pb T J (.cQ (j:=1) [(ii 0),(ii 0),nl] J J J J J J J (.tmp J .nil)) [4,4,0] ⟨(_,_),none,0,[],(.iface 243 (ii 3)),[],aj.nil,rp,J,J⟩ J J))
 refine rc T 4 (lm T 2 J (sg T 1 J (ro T 4 ?_)))
 cases ba;refine br (pb T J (.cQ (j:=1) [(ii (aa (BitVec.toNat (BitVec.ofInt (IntKind.bits .i64) (aa (rd b 0))|||BitVec.ofInt (IntKind.bits .i64) (aa ((aa (rd b 1))*2^8)))))),(ii (aa (BitVec.toNat (BitVec.ofInt (IntKind.bits .i64) (aa (rd b 2))|||BitVec.ofInt (IntKind.bits .i64) (aa ((aa (rd b 3))*2^8)))))),(ll a12 x7 n12)] J J J J J J J (.tmp J .nil)) [3,3,0] ⟨(_,_),a12,n12,dw,.nilIface,[],dD,tK,J,J⟩ J J)
def wB.f (b:(List Int)):Option (aJ×Int):=(oG.f b).bind λv1=>(yx.f v1.2).bind λv2=>if(Option.isSome v2)=true then(some ((aJ.mk 0 0 []),(Option.getD v2 0))) else(some (v1.1,0))
def wB.R (el:Nat->Addr) (r:(aJ×Int)) (u:Value) (G:List Hp):Prop:= ∃(a0:Option Addr) (n0:Nat) (H0:Hp),aj (Fl.int .u8) 5 r.1.C a0 n0 H0/\u=(.tuple #[(.agg #[(ii r.1.W),(ii r.1.H),(ll a0 r.1.C n0)]),(ii r.2)])/\G=[H0]
theorem wB.c (H:wB.f b=some r) (hG:fK 414 eZ hU el F) (hJ:aS (Fl.int .u8) b jV F) (gm:List.length b<=jK):
 QR 114 [(ll jV b jK)] [] [] F (wB.R el r):=by
 unfold wB.f at H;refine aB Tryz.func114 J J (λW=>rc T 2 (nc T J (λb1=>ro T 6 (kr (oG.R el) [] [] J ab5 H (oG.c · (dB hG (j:=0) J) (rO hJ 0) gm) (λv1 H=>?_)))));rintro _ _ ⟨a2,n2,H2,v3,H3,s2,s3,rfl,rfl⟩;refine fz J (ro T 3 (nc T J (λb4=>sg T 4 J (ro T 6 (nc T J (λb5=>sg T 5 J (ro T 1 (ks [2,4,5,6] J (rx T 4 (bp J (g_ T J J J J) ?_))))))))));obtain⟨v2,V2,H⟩:=fY H;refine aW (si (As:=[(cl b5 243 [(ii 0)])]) (R:=[F,(cl b1 30 [(ii 0),(ii 0),nl]),H2,H3,(cl b4 30 [(ii v1.1.W),(ii v1.1.H),(ll a2 v1.1.C n2)])]) (B:=λ_=>[(cl b5 243 [(ii (Option.getD v2 0))])]) [5] J J J J Jw J J (yx.c v1.2 v2 _ V2 (dB hG (j:=0) J) (ru s3 (j:=3) J)) (λ_=>ro T 2 (cb J H (λH=>?_) (λH=>?_))))
 ·refine rc T 1 (ke [2,6] [0,0,3] J J (fz J (rz [] mix (bO bN) (λhg pf=>ha T 3 [0] sz hg pf J (av 1 sz hg pf J (aw T J J J J (aD (j:=2) J J)) (ao 2 (sf T 1 J (an sz (ha T 0 [3] sz hg pf J (ae (rx T 1 (rc T 2 ?_))))))))))))
  cases H;refine br (pb T J (.cQ (j:=1) [(ii 0),(ii 0),nl] J J J J J J J (.tmp J .nil)) [3,0] ⟨(_,_),none,0,[],aj.nil,J,J⟩ J J)
 refine rc T 4 (lm T 4 J (sg T 1 J (ro T 4 ?_)))
 cases H;exact pb T J (.cQ (j:=1) [(ii v1.1.W),(ii v1.1.H),(ll a2 v1.1.C n2)] J J J J J J J (.tmp J .nil)) [2,0] ⟨(_,_),a2,n2,H2,s2,J,J⟩ J J
def ym.f (m:aJ):Option Bool:=((nP.f m.W m.H).bind λv3=>if v3=true then(if((List.length m.C:Int)==(aa (m.W*m.H)))=true then((vV.f m.C 0).bind λv4=>some (!v4)) else(some false)) else(some false)).bind λx1=>some x1
theorem ym.c (H:ym.f m=some r) (sE:aS (Fl.int .u8) m.C oD F) (uM:List.length m.C<=oo):
 QU 148 [(.agg #[(ii m.W),(ii m.H),(ll oD m.C oo)])] [] F (bb r):=by
 unfold ym.f at H;refine aB Tryz.func148 J J (λW=>rc T 2 (nc T J (λb1=>ro T 3 (mq H [] [0] (λz2 (x1:Bool)=>(x1=z2,[(2,(bb x1))],[])) J J (λz2 Z1 _=>?_) ?_))))
 ·refine rc T 2 (lf T 1 J (ro T 1 (lf T 1 J (k [] J BS Z1 (nP.c ·) (λv3 Z1=>ro T 1 (ab 8 J Z1 (λZ1=>?_) (λZ1=>?_)))))))
  ·refine ro T 1 (lf T 1 J (ro T 2 (lf T 1 J (ro T 1 (lf T 1 J (ro T 4 (ab 19 J Z1 (λZ1=>?_) (λZ1=>?_))))))))
   ·refine ro T 1 (lf T 1 J (k [] J MW Z1 (vV.c · (rO sE 0) uM) (λv4 Z1=>ro T 5 (am _ [0] (oi Z1) J J))))
   refine ro T 8 (am _ [0] (oi Z1) J J)
  refine ro T 19 (am _ [0] (oi Z1) J J)
 rintro _ x1 rfl H;refine rc T 1 ?_
 cases H;exact p0 T J [0] J
end
noncomputable section
def sC.f (cells:Int):Option (Option fy):=if((decide (cells<1))||(decide (cells>1048576)))=true then(some none) else(if(0<=cells/\cells<=1099511627776) then(some (some (fy.mk (List.replicate (Int.toNat cells) (0:Int)) 0))) else none)
def sC.R (r:(Option fy)) (u:Value) (G:List Hp):Prop:= ∃(u0:Value) (G0:List Hp),Xp r u0 G0/\u=u0/\G=G0
theorem sC.c (H:sC.f cells=some r):
 QR 153 [(ii cells)] [] [] F (sC.R r):=by
 unfold sC.f at H;refine aB Tryz.func153 J J (λW=>rc T 11 (go T [3,4,5] 5 [0] 8 J J J J J J J (ro T 2 (cb J H (λH=>?_) (λH=>?_)))))
 ·refine rc T 7 ?_
  cases H;exact p1 T J [0] ⟨_,_,⟨J,J⟩,J,J⟩ J
 refine rc T 5 ?_;obtain⟨c2,H⟩:=az H;refine aW (yj (k:=(Fl.int .u32)) T (0:Int) J J J J J J J J c2 J (λa1 n1 H1 s1=>ro T 1 (nc T J (λb2=>ro T 4 ?_))))
 cases H;exact p1 T J [2,1,0] ⟨_,_,⟨b2,a1,n1,H1,s1,J,J⟩,J,J⟩ J
def yz.f (ag:fy) (cell:Int):Option Bool:=(if cell≥0 then(some (decide (cell<(List.length ag.words:Int)))) else(some false)).bind λx1=>some x1
theorem yz.c (H:yz.f ag cell=some r) (lF:aj (Fl.int .u32) 65 ag.words nU oq rf):
 QU 195 [(pp aV),(ii cell)] [(cl aV 221 [(ll nU ag.words oq),(ii ag.count)]),rf] F (bb r):=by
 unfold yz.f at H;refine aB Tryz.func195 J J (λW=>rc T 5 (mq H [] [2,0,0] (λz2 (x1:Bool)=>(x1=z2,[(4,(bb x1))],[])) J J (λz2 Z1 _=>?_) ?_))
 ·refine rc T 8 (ad 11 J Z1 (λZ1=>?_) (λZ1=>?_))
  ·refine ro T 4 (lf T 0 J (ro T 6 (am _ [2,0,0] (oi Z1) J J)))
  refine ro T 11 (am _ [2,0,0] (oi Z1) J J)
 rintro _ x1 rfl H;refine rc T 1 ?_
 cases H;exact p0 T J [1,1,0] J
def qt.f (ag:fy) (cell:Int):Option Int:=(yz.f ag cell).bind λv1=>if(!v1)=true then(some (-1)) else(if(0<=cell/\cell<(List.length ag.words:Int)) then(some (aa ((aa (rd ag.words cell))-1))) else none)
theorem qt.c (H:qt.f ag cell=some r) (lF:aj (Fl.int .u32) 65 ag.words nU oq rf):
 QU 154 [(pp aV),(ii cell)] [(cl aV 221 [(ll nU ag.words oq),(ii ag.count)]),rf] F (ii r):=by
 unfold qt.f at H;refine aB Tryz.func154 J J (λW=>rc T 10 (k [0,0] J SA H (yz.c · lF) (λv1 H=>ro T 3 (cb J H (λH=>?_) (λH=>?_)))))
 ·refine rc T 7 ?_
  cases H;exact p0 T J [0,0,0] J
 refine rc T 7 (lf T 0 J (ro T 1 ?_));obtain⟨c3,H⟩:=az H;obtain⟨q3,o3,e3⟩:=lF.r.addr c3.1 c3.2;refine ix T J e3 c3 (le T 0 (oO lF 1) e3 c3 J J (ro T 6 ?_))
 cases H;exact p0 T J [0,0,0] J
def yy.f (ag:fy) (cell:Int):Option Bool:=((yz.f ag cell).bind λv3=>if v3=true then(if(0<=cell/\cell<(List.length ag.words:Int)) then(some ((rd ag.words cell)==0)) else none) else(some false)).bind λx1=>some x1
theorem yy.c (H:yy.f ag cell=some r) (lF:aj (Fl.int .u32) 65 ag.words nU oq rf):
 QU 196 [(pp aV),(ii cell)] [(cl aV 221 [(ll nU ag.words oq),(ii ag.count)]),rf] F (bb r):=by
 unfold yy.f at H;refine aB Tryz.func196 J J (λW=>rc T 5 (mq H [] [2,0,0] (λz2 (x1:Bool)=>(x1=z2,[(4,(bb x1))],[])) J J (λz2 Z1 _=>?_) ?_))
 ·refine rc T 3 (k [0,0] J SA Z1 (yz.c · lF) (λv3 Z1=>ro T 1 (ab 8 J Z1 (λZ1=>?_) (λZ1=>?_))))
  ·refine ro T 3 (lf T 0 J (ro T 1 ?_));obtain⟨c4,Z1⟩:=az Z1;obtain⟨q3,o3,e3⟩:=lF.r.addr c4.1 c4.2;refine ix T J e3 c4 (le T 0 (oO lF 1) e3 c4 J J (ro T 5 (am _ [2,0,0] (oi Z1) J J)))
  refine ro T 12 (am _ [2,0,0] (oi Z1) J J)
 rintro _ x1 rfl H;refine rc T 1 ?_
 cases H;exact p0 T J [1,1,0] J
def sx.f (ag:fy) (cell:Int) (p2:Int):Option (Bool×fy):=(yy.f ag cell).bind λv1=>if(((!v1)||(decide (p2<0)))||(decide (p2≥4294967295)))=true then(some (false,ag)) else(if(0<=cell/\cell<(List.length ag.words:Int)) then(some (true,(fy.mk (List.set ag.words (Int.toNat cell) (HJ (aa (p2+1)))) (aa (ag.count+1))))) else none)
def sx.R (aV:Nat) (r:(Bool×fy)) (u:Value) (G:List Hp):Prop:= ∃(a0:Option Addr) (n0:Nat) (H0:Hp),aj (Fl.int .u32) 65 r.2.words a0 n0 H0/\u=(bb r.1)/\G=[(cl aV 221 [(ll a0 r.2.words n0),(ii r.2.count)]),H0]
theorem sx.c (H:sx.f ag cell p2=some r) (lF:aj (Fl.int .u32) 65 ag.words nU oq rf):
 QR 157 [(pp aV),(ii cell),(ii p2)] [(cl aV 221 [(ll nU ag.words oq),(ii ag.count)]),rf] [] F (sx.R aV r):=by
 unfold sx.f at H;refine aB Tryz.func157 J J (λW=>rc T 10 (k [0,0] J SB H (yy.c · lF) (λv1 H=>ro T 2 (go T [5,6,7] 11 [0,1,2] 14 J J J J J J J (ro T 1 (go T [9,10,11] 15 [0,1,2] 18 J J J J J J J (ro T 2 (cb J H (λH=>?_) (λH=>?_)))))))))
 ·refine rc T 7 ?_
  cases H;exact p1 T J [0,0,0] ⟨nU,oq,rf,lF,J,J⟩ J
 refine rc T 7 (lf T 0 J (ro T 4 ?_));obtain⟨c3,H⟩:=az H;obtain⟨q3,o3,e3⟩:=lF.r.addr c3.1 c3.2;refine ix T J e3 c3 (aW (kI (k:=(Fl.int .u32)) T 1 0 (HJ (aa (p2+1))) J J J J J J lF e3 c3 J J J (λH4 s4=>kg [0] [1,1] [1,1,0] [] [(cl aV 221 [(ll nU (List.set ag.words (Int.toNat cell) (HJ (aa (p2+1)))) oq),(ii ag.count)])] J J trivial (by first |rfl |(simp only[ll,List.length_set];rfl)) (ro T 7 (lf T 2 J (ro T 3 (sg T 2 J (ro T 8 ?_))))))))
 cases H;exact p1 T J [2,0,0] ⟨nU,oq,H4,s4,J,J⟩ J
def sB.f (ag:fy) (cell:Int):Option (Int×fy):=(qt.f ag cell).bind λv1=>if(v1 !=(-1))=true then(if(0<=cell/\cell<(List.length ag.words:Int)) then(some (v1,(fy.mk (List.set ag.words (Int.toNat cell) 0) (aa (ag.count-1))))) else none) else(some (v1,ag))
def sB.R (aV:Nat) (r:(Int×fy)) (u:Value) (G:List Hp):Prop:= ∃(a0:Option Addr) (n0:Nat) (H0:Hp),aj (Fl.int .u32) 65 r.2.words a0 n0 H0/\u=(ii r.1)/\G=[(cl aV 221 [(ll a0 r.2.words n0),(ii r.2.count)]),H0]
theorem sB.c (H:sB.f ag cell=some r) (lF:aj (Fl.int .u32) 65 ag.words nU oq rf):
 QR 160 [(pp aV),(ii cell)] [(cl aV 221 [(ll nU ag.words oq),(ii ag.count)]),rf] [] F (sB.R aV r):=by
 unfold sB.f at H;refine aB Tryz.func160 J J (λW=>rc T 9 (k [0,0] J FM H (qt.c · lF) (λv1 H=>ro T 10 (cb J H (λH=>?_) (λH=>?_)))))
 ·refine rc T 5 (lf T 0 J (ro T 1 ?_));obtain⟨c3,H⟩:=az H;obtain⟨q3,o3,e3⟩:=lF.r.addr c3.1 c3.2;refine ix T J e3 c3 (aW (kI (k:=(Fl.int .u32)) T 1 0 0 J J J J J J lF e3 c3 J J J (λH4 s4=>kg [0,5] [1,1] [1,1,0] [] [(cl aV 221 [(ll nU (List.set ag.words (Int.toNat cell) 0) oq),(ii ag.count)])] J J trivial (by first |rfl |(simp only[ll,List.length_set];rfl)) (ro T 6 (lf T 2 J (ro T 3 (sg T 2 J (ro T 9 ?_))))))))
  cases H;exact p1 T J [2,0,0] ⟨nU,oq,H4,s4,J,J⟩ J
 refine rc T 9 ?_
 cases H;exact p1 T J [0,0,0] ⟨nU,oq,rf,lF,J,J⟩ J
def wN.f (ag:fy) (ai:Int) (p2:Int):Option (Bool×fy):=((qt.f ag ai).bind λv3=>if(v3==(-1))=true then(some true) else((yy.f ag p2).bind λv4=>some (!v4))).bind λx1=>if x1=true then(some (false,ag)) else((sB.f ag ai).bind λv5=>(sx.f v5.2 p2 v5.1).bind λv6=>some (v6.1,v6.2))
def wN.R (aV:Nat) (r:(Bool×fy)) (u:Value) (G:List Hp):Prop:= ∃(a0:Option Addr) (n0:Nat) (H0:Hp),aj (Fl.int .u32) 65 r.2.words a0 n0 H0/\u=(bb r.1)/\G=[(cl aV 221 [(ll a0 r.2.words n0),(ii r.2.count)]),H0]
theorem wN.c (H:wN.f ag ai p2=some r) (lF:aj (Fl.int .u32) 65 ag.words nU oq rf):
 QR 167 [(pp aV),(ii ai),(ii p2)] [(cl aV 221 [(ll nU ag.words oq),(ii ag.count)]),rf] [] F (wN.R aV r):=by
 unfold wN.f at H;refine aB Tryz.func167 J J (λW=>rc T 6 (mq H [0,1,2] [2,0,0] (λz2 (x1:Bool)=>(x1=z2,[(16,(bb x1))],[])) J J (λz2 Z1 _=>?_) ?_))
 ·refine rc T 3 (k [0,0] J FM Z1 (qt.c · lF) (λv3 Z1=>ro T 2 (ab 11 J Z1 (λZ1=>?_) (λZ1=>?_))))
  ·refine ro T 7 (am _ [2,0,0] (oi Z1) J J)
  refine ro T 2 (k [0,0] J SB Z1 (yy.c · lF) (λv4 Z1=>ro T 4 (am _ [2,0,0] (oi Z1) J J)))
 rintro _ x1 rfl H;refine cb J H (λH=>?_) (λH=>?_)
 ·refine rc T 7 ?_
  cases H;exact p1 T J [1,1,0] ⟨nU,oq,rf,lF,J,J⟩ J
 refine rc T 8 (kr (sB.R aV) [] [1,1] J St H (sB.c · lF) (λv5 H=>?_));rintro _ _ ⟨a3,n3,H3,s3,rfl,rfl⟩;refine fz J (kr (sx.R aV) [] [1,1] J Ss H (sx.c · s3) (λv6 H=>?_));rintro _ _ ⟨a4,n4,H4,s4,rfl,rfl⟩;refine fz J (ro T 4 ?_)
 cases H;exact p1 T J [1,1,0] ⟨a4,n4,H4,s4,J,J⟩ J
end
noncomputable section
def pj.l0:Nat->Int->Int->(List aF)->Int->(List (Int×Bool))->Int->Option Bool
 |0,_,_,_,_,_,_=>none
 |k8+1,w,h,l,x5,x6,x7=>if x7<(List.length l:Int) then(if(0<=x7/\x7<(List.length l:Int)) then((if(rd l x7).Id<=x5 then(some true) else((gD.f w h ((rd l x7).Cell)).bind λv11=>if v11<0 then(some true) else((gD.f w h ((rd l x7).Goal)).bind λv12=>if v12<0 then(some true) else(some (aO x6 ((rd l x7).Cell)))))).bind λx9=>if x9=true then(some false) else(pj.l0 k8 w h l ((rd l x7).Id) (cC x6 ((rd l x7).Cell) true) (aa (x7+1)))) else none) else(some true)
def pj.f (w:Int) (h:Int) (l:(List aF)):Option Bool:=(nP.f w h).bind λv1=>if(!v1)=true then(some false) else(pj.l0 fuel w h l (-1) ([]:(List (Int×Bool))) 0)
theorem pj.c (H:pj.f w h l=some r) (dg:aS lD l iu F) (gn:List.length l<=ic):
 QU 61 [(ii w),(ii h),(ll iu l ic)] [] F (bb r):=by
 unfold pj.f at H;refine aB Tryz.func61 J J (λW=>rc T 10 (k [] J BS H (nP.c ·) (λv1 H=>ro T 3 (cb J H (λH=>?_) (λH=>?_)))))
 ·refine rc T 7 ?_
  cases H;exact p0 T J [0] J
 refine rc T 11 (aW (uJ T (Ky.int .i64 u3) (λx:Bool=>Value.bool x) J J J ⟨_,_,J⟩ (λa1 H1 s1=>ro T 12 (lq [0,1,18,19] [0] (λ(⟨k8,x5,x6,x7,a3,H3⟩:Nat×Int×(List (Int×Bool))×Int×Nat×Hp)=>(pj.l0 k8 w h l x5 x6 x7=some r/\cP (Ky.int .i64 u3) (λx:Bool=>Value.bool x) x6 a3 H3,[(7,(ii x5)),(8,(.map (some a3))),(20,(ii x7))],[H3])) J J (fuel,(-1),([]:(List (Int×Bool))),0,a1,H1) [0,0] ⟨H,s1⟩ J J ?_))));rintro k8 ⟨x5,x6,x7,a3,H3⟩ ⟨Z3,s3⟩;rw[pj.l0] at Z3;refine rc T 6 (cd J Z3 (λZ3=>?_) (λZ3=>?_))
 ·refine rc T 6 ?_;obtain⟨c5,Z3⟩:=az Z3;obtain⟨q4,o4,e4⟩:=dg.addr c5.1 c5.2;refine ix T J e4 c5 (bp J (fm T (cs:=[(ii (rd l x7).Id),(ii (rd l x7).Cell),(ii (rd l x7).Goal)]) J J J J J J (gB (k:=lD) (rO dg 0) e4 c5 J)) (nc T J (λb5=>sg T 2 J (ro T 3 (mq Z3 [0,1,8,10,18,19,20] [0,0,0] (λnR (x9:Bool)=>(x9=nR,[(49,(bb x9))],[])) J J (λnR Z6 _=>?_) ?_)))))
  ·refine rc T 2 (lf T 2 J (ro T 3 (ad 28 J Z6 (λZ6=>?_) (λZ6=>?_))))
   ·refine ro T 23 (am _ [0,0,0] (oi Z6) J J)
   refine ro T 3 (lf T 2 J (k [] J rC Z6 (gD.c ·) (λv11 Z6=>ro T 3 (ad 36 J Z6 (λZ6=>?_) (λZ6=>?_)))))
   ·refine ro T 15 (am _ [0,0,0] (oi Z6) J J)
   refine ro T 3 (lf T 2 J (k [] J rC Z6 (gD.c ·) (λv12 Z6=>ro T 3 (ad 44 J Z6 (λZ6=>?_) (λZ6=>?_)))))
   ·refine ro T 7 (am _ [0,0,0] (oi Z6) J J)
   refine ro T 2 (lf T 2 J (bp J (pO (k:=(rd l x7).Cell) T (Ky.int .i64 u3) (λx:Bool=>Value.bool x) J J J J J (oh s3 (j:=1) J)) (ro T 3 (am _ [0,0,0] (oi Z6) J J))))
  rintro _ x9 rfl Z3;refine cb J Z3 (λZ3=>?_) (λZ3=>?_)
  ·refine rc T 12 ?_
   cases Z3;exact p0 T J [0] J
  refine rc T 2 (fz J (rz [6] mix (bO bN) (λhg pf=>ha T 5 [0,1] sz hg pf J (av 2 sz hg pf J (aw T J J J J (aD (j:=2) J J)) (ha T 3 [3] sz hg pf J (av 4 sz hg pf J (aw T J J J J (aD (j:=2) J J)) (ha T 1 [5] sz hg pf J (ao 6 (pE (g:=1) (m:=x6) (k:=(rd l x7).Cell) (v:=true) T (Ky.int .i64 u3) (λx:Bool=>Value.bool x) J J J J J J J s3 (λH6 s6=>an sl (ae (rx T 7 (ar (_,_,_,_,_) [0,0] ⟨Z3,s6⟩ J J)))))))))))))
 refine rc T 11 ?_
 cases Z3;exact p0 T J [0] J
def nz.l0:Nat->(List aF)->List Int->(List (Int×Bool))->Int->Option (List Int)
 |0,_,_,_,_=>none
 |k7+1,l,x4,x5,x6=>if x6<(List.length l:Int) then(if(0<=x6/\x6<(List.length l:Int)) then(if(!(aO x5 ((rd l x6).Goal)))=true then(if(List.length x4+1<=1099511627776) then(nz.l0 k7 l (x4++[(rd l x6).Goal]) (cC x5 ((rd l x6).Goal) true) (aa (x6+1))) else none) else(nz.l0 k7 l x4 x5 (aa (x6+1)))) else none) else(some x4)
def nz.f (l:(List aF)):Option (List Int):=nz.l0 fuel l [] ([]:(List (Int×Bool))) 0
def nz.R (r:(List Int)) (u:Value) (G:List Hp):Prop:= ∃(a0:Option Addr) (n0:Nat) (H0:Hp),aj (Fl.int .i64) 3 r a0 n0 H0/\u=(ll a0 r n0)/\G=[H0]
theorem nz.c (H:nz.f l=some r) (dg:aS lD l iu F) (gn:List.length l<=ic):
 QR 29 [(ll iu l ic)] [] [] F (nz.R r):=by
 unfold nz.f at H;refine aB Tryz.func29 J J (λW=>rc T 12 (aW (uJ T (Ky.int .i64 u3) (λx:Bool=>Value.bool x) J J J trivial (λa1 H1 s1=>ro T 12 (br (lq [8,9] [0] (λ(⟨k7,x4,x5,x6,a4,n4,H4,a5,H5⟩:Nat×List Int×(List (Int×Bool))×Int×Option Addr×Nat×Hp×Nat×Hp)=>(nz.l0 k7 l x4 x5 x6=some r/\aj (Fl.int .i64) 3 x4 a4 n4 H4/\cP (Ky.int .i64 u3) (λx:Bool=>Value.bool x) x5 a5 H5,[(3,(ll a4 x4 n4)),(4,(.map (some a5))),(10,(ii x6))],[H4,H5])) J J (fuel,[],([]:(List (Int×Bool))),0,none,0,[],a1,H1) [0,1,0] ⟨H,aj.nil,s1⟩ J J ?_))))));rintro k7 ⟨x4,x5,x6,a4,n4,H4,a5,H5⟩ ⟨Z1,s4,s5⟩;rw[nz.l0] at Z1;refine rc T 6 (cd J Z1 (λZ1=>?_) (λZ1=>?_))
 ·refine rc T 6 ?_;obtain⟨c3,Z1⟩:=az Z1;obtain⟨q6,o6,e6⟩:=dg.addr c3.1 c3.2;refine ix T J e6 c3 (bp J (fm T (cs:=[(ii (rd l x6).Id),(ii (rd l x6).Cell),(ii (rd l x6).Goal)]) J J J J J J (gB (k:=lD) (rO dg 0) e6 c3 J)) (nc T J (λb7=>sg T 3 J (ro T 6 (lf T 3 J (bp J (pO (k:=(rd l x6).Goal) T (Ky.int .i64 u3) (λx:Bool=>Value.bool x) J J J J J (oh s5 (j:=2) J)) (ro T 3 (cb J Z1 (λZ1=>?_) (λZ1=>?_)))))))))
  ·refine rc T 4 (lf T 3 J (aW (pE (g:=2) (m:=x5) (k:=(rd l x6).Goal) (v:=true) T (Ky.int .i64 u3) (λx:Bool=>Value.bool x) J J J J J J J s5 (λH8 s8=>ro T 5 (lf T 3 J (aW (cU (k:=(Fl.int .i64)) T [(rd l x6).Goal] J J J J J J J J J (λa9 H9 s9=>?_))))))));obtain⟨c5,Z1⟩:=az Z1;refine aW (dM (k:=(Fl.int .i64)) (xs:=x4) T (g:=1) J J J J J J J J J J s4 (oO s9 4) c5 J (λcw n10 bV bS=>ro T 2 (ke [3,4,8,9,10] [0,0,0] J J (rx T 7 (ar (_,_,_,_,_,_,_,_) [0,0,0] ⟨Z1,bS,s8⟩ J J)))))
  refine rc T 8 (ar (_,_,_,_,_,_,_,_) [0,0,0] ⟨Z1,s4,s5⟩ J J)
 refine rc T 12 ?_
 cases Z1;exact p1 T J [1,0] ⟨a4,n4,H4,s4,J,J⟩ J
def j3.l1:Nat->(List Int)->(List (Int×(List cg)))->List Int->List cg->Int->Option (List cg)
 |0,_,_,_,_,_=>none
 |J0+1,v17,bR,dQ,qf,lH=>if lH<(List.length v17:Int) then(if(0<=lH/\lH<(List.length v17:Int)) then(if(¬(rd v17 lH)∈dQ) then(if(List.length qf+List.length (aO bR (rd v17 lH))<=1099511627776) then(j3.l1 J0 v17 bR ((rd v17 lH)::dQ) (qf++(aO bR (rd v17 lH))) (aa (lH+1))) else none) else none) else none) else(some qf)
def j3.l0:Nat->Int->Int->(List aF)->(List (Int×(List cg)))->(List ((Int×Int)×Int))->Int->Option (List cg)
 |0,_,_,_,_,_,_=>none
 |k8+1,w,h,l,x5,x6,x7=>if x7<(List.length l:Int) then((if(0<=x7/\x7<(List.length l:Int)) then((gD.f w h ((rd l x7).Cell)).bind λv12=>(if(!(bQ x6 ((rd l x7).Goal,v12)))=true then(if(List.length (aO x5 ((rd l x7).Goal))+1<=1099511627776) then(some ((cC x5 ((rd l x7).Goal) ((aO x5 ((rd l x7).Goal))++[(cg.mk ((rd l x7).Goal) v12 [])])),(cC x6 ((rd l x7).Goal,v12) (List.length (aO x5 ((rd l x7).Goal)):Int)),(List.length (aO x5 ((rd l x7).Goal)):Int))) else none) else(some (x5,x6,(aO x6 ((rd l x7).Goal,v12))))).bind λ(aT,bc,cn)=>if(0<=cn/\cn<(List.length (aO aT ((rd l x7).Goal)):Int)) then(if(List.length ((rd (aO aT ((rd l x7).Goal)) cn).cW)+1<=1099511627776) then(some ((sL aT ((rd l x7).Goal) (List.set (aO aT ((rd l x7).Goal)) (Int.toNat cn) (cg.mk ((rd (aO aT ((rd l x7).Goal)) cn).Goal) ((rd (aO aT ((rd l x7).Goal)) cn).eT) ((rd (aO aT ((rd l x7).Goal)) cn).cW++[(rd l x7).Id])))),bc)) else none) else none) else none).bind λ(x9,aM)=>j3.l0 k8 w h l x9 aM (aa (x7+1))) else((nz.f l).bind λv17=>j3.l1 fuel v17 x5 [] [] 0)
def j3.f (w:Int) (h:Int) (l:(List aF)):Option (List cg):=(pj.f w h l).bind λv1=>if(!v1)=true then(some []) else(j3.l0 fuel w h l ([]:(List (Int×(List cg)))) ([]:(List ((Int×Int)×Int))) 0)
def j3.R (r:(List cg)) (u:Value) (G:List Hp):Prop:= ∃(a0:Option Addr) (n0:Nat) (H0:Hp),gu pk 120 r a0 n0 H0/\u=(ll a0 r n0)/\G=[H0]
theorem j3.c (H:j3.f w h l=some r) (dg:aS lD l iu F) (gn:List.length l<=ic):
 QR 28 [(ii w),(ii h),(ll iu l ic)] [] [] F (j3.R r):=by
 unfold j3.f at H;refine aB Tryz.func28 J J (λW=>rc T 11 (k [] J S3 H (pj.c · (rO dg 0) gn) (λv1 H=>ro T 3 (cb J H (λH=>?_) (λH=>?_)))))
 ·refine rc T 7 ?_
  cases H;refine br (p1 T J [1,0] ⟨none,0,[],gu.nil,J,J⟩ J)
 refine rc T 4 (aW (uJ T (Ky.int .i64 u3) tU J J J trivial (λa2 H2 s2=>ro T 5 (aW (uJ T (Ky.pair T .i64 J J J lb u3) (λx:Int=>Value.int .i64 x) J J J trivial (λa3 H3 s3=>ro T 12 (lq [0,1,2,26,27] [0] (λ(⟨k8,x5,x6,x7,a6,H6,a7,H7⟩:Nat×(List (Int×(List cg)))×(List ((Int×Int)×Int))×Int×Nat×Hp×Nat×Hp)=>(j3.l0 k8 w h l x5 x6 x7=some r/\wx (gu pk 120) (Ky.int .i64 u3) [] x5 a6 H6/\cP (Ky.pair T .i64 J J J lb u3) (λx:Int=>Value.int .i64 x) x6 a7 H7,[(7,(.map (some a6))),(8,(.map (some a7))),(28,(ii x7))],[H6,H7])) J J (fuel,([]:(List (Int×(List cg)))),([]:(List ((Int×Int)×Int))),0,a2,H2,a3,H3) [0,0,0] ⟨H,(afD (S:=(gu pk 120)) s2),s3⟩ J J ?_)))))));rintro k8 ⟨x5,x6,x7,a6,H6,a7,H7⟩ ⟨Z3,s6,s7⟩;rw[j3.l0] at Z3;refine rc T 6 (cd J Z3 (λZ3=>?_) (λZ3=>?_))
 ·refine rc T 2 (mq Z3 [0,1,2,26,27,28] [0] (λiW (⟨x9,aM,a8,H8,a9,H9⟩:(List (Int×(List cg)))×(List ((Int×Int)×Int))×Nat×Hp×Nat×Hp)=>((x9,aM)=iW/\wx (gu pk 120) (Ky.int .i64 u3) [] x9 a8 H8/\cP (Ky.pair T .i64 J J J lb u3) (λx:Int=>Value.int .i64 x) aM a9 H9,[(7,(.map (some a8))),(8,(.map (some a9)))],[H8,H9])) J J (λiW Z5 _=>?_) ?_)
  ·refine rc T 3 ?_;obtain⟨c6,Z5⟩:=az Z5;obtain⟨Ks,Kj,pL⟩:=dg.addr c6.1 c6.2;refine ix T J pL c6 (bp J (fm T (cs:=[(ii (rd l x7).Id),(ii (rd l x7).Cell),(ii (rd l x7).Goal)]) J J J J J J (gB (k:=lD) (rO dg 0) pL c6 J)) (nc T J (λjG=>sg T 3 J (ro T 7 (lf T 3 J (k [] J rC Z5 (gD.c ·) (λv12 Z5=>ro T 6 (lf T 3 J (ro T 1 (bp J (I6 T J J J J J J) (nc T J (λki=>sg T 4 J (ro T 5 (lm T 4 J (bp J (pO (k:=((rd l x7).Goal,v12)) T (Ky.pair T .i64 J J J lb u3) (λx:Int=>Value.int .i64 x) J J J J J (oh s7 (j:=2) J)) (ro T 7 (mq Z5 [0,1,2,10,26,27,28] [0,2] (λIa (⟨aT,bc,cn,dy,eo,iC,fx⟩:(List (Int×(List cg)))×(List ((Int×Int)×Int))×Int×Nat×Hp×Nat×Hp)=>((aT,bc,cn)=Ia/\wx (gu pk 120) (Ky.int .i64 u3) [] aT dy eo/\cP (Ky.pair T .i64 J J J lb u3) (λx:Int=>Value.int .i64 x) bc iC fx,[(7,(.map (some dy))),(8,(.map (some iC))),(13,(ii cn))],[eo,fx])) J J (λIa Z8 _=>?_) ?_)))))))))))))))))
   ·refine rc T 6 (cb J Z8 (λZ8=>?_) (λZ8=>?_))
    ·refine rc T 4 (lf T 3 J (Fg (j:=1) (gu.nil (kd:=pk) (E:=120)) ((rd l x7).Goal) bk J s6 (λjT n15 dF fV dK fP=>bp J (FB (kx:=(rd l x7).Goal) (v:=(jT,List.length (aO x5 ((rd l x7).Goal)),n15)) T (Ky.int .i64 u3) J J J J J (Gm (j:=1) J fP)) (ro T 3 (YK (j:=1) (q:=5) J fP J J dK J (λdV fh=>ke [0,1,2,7,8,10,11,12,13,26,27,28] [0,0,0,0,0] J J (rx T 4 (lm T 4 J (ro T 1 (aW (pE (g:=2) (m:=x6) (k:=((rd l x7).Goal,v12)) (v:=(List.length (aO x5 ((rd l x7).Goal)):Int)) T (Ky.pair T .i64 J J J lb u3) (λx:Int=>Value.int .i64 x) J J J J J J J s7 (λfb fq=>ro T 2 (ke [0,1,2,7,8,10,11,13,26,27,28] [0,0,0,0] J J (fz J (rg [13] [0,1,1] mix (bO bN) (λhg pf=>ha T 12 [0,1] (so [0,1,1]) hg pf J (av 2 (so [0,1,1]) hg pf J (aw T J J J J (aD (j:=2) J J)) (ha T 9 [3,4] (so [0,1,1]) hg pf J (av 5 (so [0,1,1]) hg pf J (aw T J J J J (aD (j:=2) J J)) (ha T 7 [7] (so [0,1,1]) hg pf J (av 8 (so [0,1,1]) hg pf J (aw T J J J J (aD (j:=2) J J)) (ha T 4 [9,10] (so [0,1,1]) hg pf J (gw 6 11 ?_ ?_)))))))))))))))))))))))
     ·refine Fg (j:=1) (gu.nil (kd:=pk) (E:=120)) ((rd l x7).Goal) bk J fh (λl9 n19 kF nS gQ lT=>lv J (FB (kx:=(rd l x7).Goal) (v:=(l9,List.length (aO x5 ((rd l x7).Goal)),n19)) T (Ky.int .i64 u3) J J J J J (Gm (j:=1) J lT)) (an (so [0,1,1]) (ao 11 (br (gj [5] J (Ff (kd:=pk) (E:=120) (q:=5) (c:=[(ii (rd l x7).Goal),(ii v12),nl]) T (cg.mk ((rd l x7).Goal) v12 []) J J J J J J J J J J ⟨none,0,[],(aj.nil (k:=(Fl.int .i64)) (E:=3)),J,J⟩ (λa23 jF gR=>an (so [0,1,1]) (ao 12 ?_))))))));obtain⟨gk,Z8⟩:=az Z8;refine Fe (kd:=pk) (xs:=(aO x5 ((rd l x7).Goal))) (ys:=[(cg.mk ((rd l x7).Goal) v12 [])]) T (g:=4) (q:=6) J J J J J J J J J J gQ J J gR gk J (λa24 n24 qX lU=>an (so [0,1,1]) (ao 13 (P9 (q:=4) (kx:=(rd l x7).Goal) (ys:=((aO x5 ((rd l x7).Goal))++[(cg.mk ((rd l x7).Goal) v12 [])])) T (Ky.int .i64 u3) 1 J J J J J J J lT J J lU (λgV jB=>an sl (ae (rx T 1 (am (_,_,_,_,_,_,_) [0,2,0,0] ⟨oi Z8,jB,fq⟩ J J)))))))
     refine br (gj [4] J (Ff (kd:=pk) (E:=120) (q:=4) (c:=[(ii (rd l x7).Goal),(ii v12),nl]) T (cg.mk ((rd l x7).Goal) v12 []) J J J J J J J J J J ⟨none,0,[],(aj.nil (k:=(Fl.int .i64)) (E:=3)),J,J⟩ (λa28 ux j4=>an (so [0,1,1]) (ao 6 (Fg (j:=1) (gu.nil (kd:=pk) (E:=120)) ((rd l x7).Goal) bk J fh (λyi n29 qY qZ qI pn=>lv J (FB (kx:=(rd l x7).Goal) (v:=(yi,List.length (aO x5 ((rd l x7).Goal)),n29)) T (Ky.int .i64 u3) J J J J J (Gm (j:=1) J pn)) (an (so [0,1,1]) (ao 12 ?_))))))));obtain⟨dZ,Z8⟩:=az Z8;refine Fe (kd:=pk) (xs:=(aO x5 ((rd l x7).Goal))) (ys:=[(cg.mk ((rd l x7).Goal) v12 [])]) T (g:=6) (q:=5) J J J J J J J J J J qI J J j4 dZ J (λa31 n31 Bh zi=>an (so [0,1,1]) (ao 13 (P9 (q:=6) (kx:=(rd l x7).Goal) (ys:=((aO x5 ((rd l x7).Goal))++[(cg.mk ((rd l x7).Goal) v12 [])])) T (Ky.int .i64 u3) 1 J J J J J J J pn J J zi (λIg zj=>an sl (ae (rx T 1 (am (_,_,_,_,_,_,_) [0,2,0,0] ⟨oi Z8,zj,fq⟩ J J)))))))
    refine rc T 2 (am (_,_,_,_,_,_,_) [0,2,0,0] ⟨oi Z8,s6,s7⟩ J J)
   rintro _ ⟨aT,bc,cn,dy,eo,iC,fx⟩ ⟨rfl,dh,dO⟩ Z5;refine rc T 4 (lf T 1 J (Fg (j:=2) (gu.nil (kd:=pk) (E:=120)) ((rd l x7).Goal) bk J dh (λa33 n33 Ih uy vL xB=>bp J (FB (kx:=(rd l x7).Goal) (v:=(a33,List.length (aO aT ((rd l x7).Goal)),n33)) T (Ky.int .i64 u3) J J J J J (Gm (j:=2) J xB)) (ro T 1 ?_))));obtain⟨gY,Z5⟩:=az Z5;obtain⟨q35,o35,Md⟩:=vL.r.addr gY.1 gY.2;refine ix T J Md gY (ro T 3 (LB (j:=4) J vL gY (λ_ _ EN o37 CI=>?_)));obtain⟨zO,n36,zI,CH,rfl,rfl⟩:=o37;refine LF (ks [0,1,2,7,8,10,15,26,27,28] J (fz J (rg [8,11] [0,0,0,0,0,0] mix (bO bN) (λhg pf=>ha T 8 [0,1,2,3] sz hg pf J (av 4 sz hg pf J (aw T J J J J (yR (j:=4) J (uF.cells CI) Md 2 J)) (ha T 6 [5] sz hg pf J (av 6 sz hg pf J (aw T J J J J (aD (j:=1) J J)) (ao 7 (cU (k:=(Fl.int .i64)) T [(rd l x7).Id] J J J J J J J J J (λIw zJ AO=>an (so [0,0,0,0,0,0]) (ao 8 ?_)))))))))));obtain⟨ja,Z5⟩:=az Z5;refine dM (k:=(Fl.int .i64)) (xs:=(rd (aO aT ((rd l x7).Goal)) cn).cW) T (g:=5) J J J J J J J J J J CH (oO AO 6) ja J (λa39 n39 K_ AP=>an sl (hb T 9 sl hg pf J (hb T 10 sl hg pf J (ao 11 (LC T 4 2 [(ii (rd (aO aT ((rd l x7).Goal)) cn).Goal),(ii (rd (aO aT ((rd l x7).Goal)) cn).eT),(ll a39 ((rd (aO aT ((rd l x7).Goal)) cn).cW++[(rd l x7).Id]) n39)] J J J J J J CI Md J J J J (λLa El=>an sl (ae (gj [5] J (LA (j:=4) (q:=6) (cg.mk ((rd (aO aT ((rd l x7).Goal)) cn).Goal) ((rd (aO aT ((rd l x7).Goal)) cn).eT) ((rd (aO aT ((rd l x7).Goal)) cn).cW++[(rd l x7).Id])) J El J J ⟨a39,n39,K_,AP,J,J⟩ (λgr sY=>P_ (j:=2) (q:=4) (List.set (aO aT ((rd l x7).Goal)) (Int.toNat cn) (cg.mk ((rd (aO aT ((rd l x7).Goal)) cn).Goal) ((rd (aO aT ((rd l x7).Goal)) cn).eT) ((rd (aO aT ((rd l x7).Goal)) cn).cW++[(rd l x7).Id]))) J xB J J sY (by simp only[List.length_set]) (λEO zk=>rx T 2 (am (_,_,_,_,_,_) [0,1,1] ⟨oi Z5,zk,dO⟩ J J))))))))))))
  rintro _ ⟨x9,aM,a8,H8,a9,H9⟩ ⟨rfl,s8,s9⟩ Z3;refine rc T 5 (ar (_,_,_,_,_,_,_) [0,0,0] ⟨Z3,s8,s9⟩ J J)
 refine rc T 14 (kr nz.R [] [] J adk Z3 (nz.c · (rO dg 0) gn) (λv17 Z3=>?_));rintro _ _ ⟨a44,n44,Xd,CJ,rfl,rfl⟩;refine fz J (ro T 5 (br (lq [89,90] [0,2] (λ(⟨J0,bR,dQ,qf,lH,Iy,EP,EZ,n48,ER⟩:Nat×(List (Int×(List cg)))×List Int×List cg×Int×Nat×Hp×Option Addr×Nat×Hp)=>(j3.l1 J0 v17 bR dQ qf lH=some r/\wx (gu pk 120) (Ky.int .i64 u3) dQ bR Iy EP/\gu pk 120 qf EZ n48 ER,[(7,(.map (some Iy))),(16,(ll EZ qf n48)),(91,(ii lH))],[EP,ER])) J J (fuel,x5,[],[],0,a6,H6,none,0,[]) [0,2,0,1] ⟨Z3,s6,gu.nil⟩ J J ?_)));rintro J0 ⟨bR,dQ,qf,lH,Iy,EP,EZ,n48,ER⟩ ⟨cm,Hb,Kz⟩;rw[j3.l1] at cm;refine rc T 6 (cd J cm (λcm=>?_) (λcm=>?_))
 ·refine rc T 6 ?_;obtain⟨jc,cm⟩:=az cm;obtain⟨q49,o49,Q7⟩:=CJ.r.addr jc.1 jc.2;refine ix T J Q7 jc (le T 0 (oO CJ 1) Q7 jc J J (ro T 7 ?_));obtain⟨lz,cm⟩:=az cm;refine Fg (j:=2) (gu.nil (kd:=pk) (E:=120)) (rd v17 lH) lz J Hb (λa50 n50 Xg Xh OR KA=>bp J (FB (kx:=(rd v17 lH)) (v:=(a50,List.length (aO bR (rd v17 lH)),n50)) T (Ky.int .i64 u3) J J J J J (Gm (j:=2) J KA)) ?_);obtain⟨zT,cm⟩:=az cm;refine aW (Fe (kd:=pk) (xs:=qf) (ys:=(aO bR (rd v17 lH))) T (g:=3) (q:=4) J J J J J J J J J J Kz J J OR zT J (λLi n52 Lb Em=>ro T 2 (YL (j:=2) J KA (λXi OS=>rx T 7 (ar (_,_,_,_,_,_,_,_,_) [0,0,0,0] ⟨cm,OS,Em⟩ J J)))))
 refine rc T 12 ?_
 cases cm;exact p1 T J [3,0] ⟨EZ,n48,ER,Kz,J,J⟩ J
end
end Go.Proofs.YthodkonhneebbaaGreatDoor
