/- What the functions of some packages compute, each as a function of plain Lean, with its contract. No condition. -/
import Derived.Test.YthodkonhneebbaaGreatDoorKFT
import Derived.Test.YthodkonhneebbaaGreatDoorKF5
namespace Go.Proofs.YthodkonhneebbaaGreatDoor
open Go.Hx
set_option maxRecDepth 100000
set_option linter.unusedSimpArgs false
set_option linter.unusedVariables false
set_option maxHeartbeats 4000000
set_option autoImplicit true
set_option relaxedAutoImplicit true
noncomputable section
def mN.f (ag:eO) (n:Int):Option ((List Int)×Er×eO):=if(aa ((List.length ag.b:Int)-ag.ba))<n then(some ([],(Er.dW 6),ag)) else(if(0<=(aa ((aa (ag.ba+n))-n))/\(aa ((aa (ag.ba+n))-n))<=(aa (ag.ba+n))/\(aa (ag.ba+n))<=(List.length ag.b:Int)) then(some ((aA ag.b (aa ((aa (ag.ba+n))-n)) (aa (ag.ba+n))),Er.nil,(eO.mk ag.b (aa (ag.ba+n))))) else none)
def mN.R (el:Nat->Addr) (aW:Nat) (y0:Value) (xr:List Int) (ar:Option Addr) (nr:Nat) (r:((List Int)×Er×eO)) (u:Value) (G:List Hp):Prop:= ∃(a0:Option Addr) (n0:Nat) (v1:Value) (H1:Hp),dr (Fl.int .u8) xr ar nr r.1 a0 n0/\List.length r.1<=n0/\fW 414 el r.2.1 v1 H1/\u=(.tuple #[(ll a0 r.1 n0),v1])/\G=[H1,(cl aW 340 [y0,(ii r.2.2.ba)])]
theorem mN.c (H:mN.f ag n=some r) (hG:fL 414 eZ hU el F) (mH:aT (Fl.int .u8) ag.b gX F) (ko:List.length ag.b<=gS):
 QR 278 [(pp aW),(ii n)] [(cl aW 340 [(ll gX ag.b gS),(ii ag.ba)])] [] F (mN.R el aW (ll gX ag.b gS) ag.b gX gS r):=by
 unfold mN.f at H;refine aB Tryz.func278 J J (λW=>rc T 8 (dA mix ay (aj T J (aj T J (aj T J (aO J J J (aw T J J J J (aF (j:=0) J J)) ?_))))))
 iterate 4 refine aj T J ?_
 refine aO J J J (aw T J J J J (aF (j:=0) J J)) (aj T J (aj T J (aj T J (cH (rx T 1 (cd J H (λH=>?_) (λH=>?_)))))))
 ·refine rc T 1 (dA mix ay (aO J J J (aw T J J J J (rC (j:=1) J hG (g:=6) (by decide))) (aj T J (aj T J (cH (rx T 3 ?_))))))
  cases H;refine bq (p1 T J [2,0,0] ⟨none,0,(.iface 414 (.pointer (some (el 6)))),[],dr.nil,(Nat.zero_le _),nZ,J,J⟩ J)
 refine rc T 7 (lf T 0 J (ro T 4 (sg T 0 J (ro T 3 (dA mix ay (aj T J (aj T J (aj T J (aO J J J (aw T J J J J (aF (j:=0) J J)) (aj T J (aj T J (aj T J (aO J J J (aw T J J J J (aF (j:=0) J J)) ?_)))))))))))))
 iterate 5 refine aj T J ?_
 refine aO J J J (aw T J J J J (aF (j:=0) J J)) ?_;obtain⟨c2,H⟩:=az H;refine aO J J J (kt T J J J J J J c2 ko) (aj T J (aj T J (cH (rx T 2 ?_))))
 cases H;refine bq (p1 T J [2,0,0] ⟨(fU gX gS (Int.toNat (aa ((aa (ag.ba+n))-n))) 1),(gS-Int.toNat (aa ((aa (ag.ba+n))-n))),.nilIface,[],(dr.sub dr.self ko c2),(mr c2 ko),tA,J,J⟩ J)
def pS.f (ag:eO) (n:Int):Option ((List Int)×Er×eO):=(mN.f ag n).bind λv1=>(if(Er.isNil v1.2.1)=true then((vQ.f v1.1 0).bind λv4=>some v4) else(some false)).bind λx2=>if x2=true then(some (v1.1,(Er.dW 5),(eO.mk ag.b v1.2.2.ba))) else(some (v1.1,v1.2.1,(eO.mk ag.b v1.2.2.ba)))
def pS.R (el:Nat->Addr) (aW:Nat) (y0:Value) (xr:List Int) (ar:Option Addr) (nr:Nat) (r:((List Int)×Er×eO)) (u:Value) (G:List Hp):Prop:= ∃(a0:Option Addr) (n0:Nat) (v1:Value) (H1:Hp),dr (Fl.int .u8) xr ar nr r.1 a0 n0/\List.length r.1<=n0/\fW 414 el r.2.1 v1 H1/\u=(.tuple #[(ll a0 r.1 n0),v1])/\G=[H1,(cl aW 340 [y0,(ii r.2.2.ba)])]
theorem pS.c (H:pS.f ag n=some r) (hG:fL 414 eZ hU el F) (mH:aT (Fl.int .u8) ag.b gX F) (ko:List.length ag.b<=gS):
 QR 279 [(pp aW),(ii n)] [(cl aW 340 [(ll gX ag.b gS),(ii ag.ba)])] [] F (pS.R el aW (ll gX ag.b gS) ag.b gX gS r):=by
 unfold pS.f at H;refine aB Tryz.func279 J J (λW=>rc T 10 (kr (mN.R el aW (ll gX ag.b gS) ag.b gX gS) [] [0] J MZ H (mN.c · (dF hG (j:=0) J) (rO mH 0) ko) (λv1 H=>?_)));rintro _ _ ⟨a2,n2,v3,H3,Dn,II,s3,rfl,rfl⟩;refine fz J (ro T 8 (mq H [6,7] [0,0,0] (λz3 (x2:Bool)=>(x2=z3,[(19,(bb x2))],[])) J J (λz3 Z2 _=>?_) ?_))
 ·refine rc T 2 (br J (I2 T J J J (rl s3 (j:=1) J)) (ro T 1 (ab 16 J Z2 (λZ2=>?_) (λZ2=>?_))))
  ·refine ro T 1 (k [] J MR Z2 (vQ.c · (nY Dn (rO mH 0) ko) II) (λv4 Z2=>ro T 3 (am _ [0,0,0] (oi Z2) J J)))
  refine ro T 5 (am _ [0,0,0] (oi Z2) J J)
 rintro _ x2 rfl H;refine cb J H (λH=>?_) (λH=>?_)
 ·refine rc T 1 (lg T J (rC (j:=0) J hG (g:=5) (by decide)) (ro T 12 ?_))
  cases H;refine bq (p1 T J [3,2,0] ⟨a2,n2,(.iface 414 (.pointer (some (el 5)))),[],Dn,II,nZ,J,J⟩ J)
 refine rc T 11 ?_
 cases H;exact p1 T J [1,1,0] ⟨a2,n2,v3,H3,Dn,II,s3,J,J⟩ J
def pn.l0:Nat->eO->Int->Int->List Int->Option (Sum ((List Int)×Er×eO) ((List Int)×Int))
 |0,_,_,_,_=>none
 |k8+1,ag,n,x6,x7=>if(List.length x7:Int)<n then((mN.f (eO.mk ag.b x6) 2).bind λv9=>if(!(Er.isNil v9.2.1))=true then(some (Sum.inl ([],v9.2.1,(eO.mk ag.b v9.2.2.ba)))) else(if(0<=(0:Int)/\(0:Int)<(List.length v9.1:Int)) then(if(0<=(1:Int)/\(1:Int)<(List.length v9.1:Int)) then((if(((rd v9.1 1)==0)||(decide ((aa ((aa (rd v9.1 0))+1))>(aa (n-(List.length x7:Int))))))=true then(some true) else(if(List.length x7:Int)>0 then(if(0<=(aa ((List.length x7:Int)-1))/\(aa ((List.length x7:Int)-1))<(List.length x7:Int)) then(some ((rd x7 (aa ((List.length x7:Int)-1)))==(rd v9.1 1))) else none) else(some false))).bind λaN=>if aN=true then(some (Sum.inl ([],(Er.dW 5),(eO.mk ag.b v9.2.2.ba)))) else((ly.f [(rd v9.1 1)] (aa ((aa (rd v9.1 0))+1))).bind λv12=>if(List.length x7+List.length v12<=1099511627776) then(pn.l0 k8 ag n v9.2.2.ba (x7++v12)) else none)) else none) else none)) else(some (Sum.inr (x7,x6)))
def pn.f (ag:eO) (n:Int):Option ((List Int)×Er×eO):=(pn.l0 fuel ag n ag.ba []).bind λzz=>match zz with |Sum.inl q=>some q |Sum.inr (x1,x2)=>some (x1,Er.nil,(eO.mk ag.b x2))
def pn.R (el:Nat->Addr) (aW:Nat) (y0:Value) (r:((List Int)×Er×eO)) (u:Value) (G:List Hp):Prop:= ∃(a0:Option Addr) (n0:Nat) (H0:Hp) (v1:Value) (H1:Hp),ak (Fl.int .u8) 5 r.1 a0 n0 H0/\fW 414 el r.2.1 v1 H1/\u=(.tuple #[(ll a0 r.1 n0),v1])/\G=[H0,H1,(cl aW 340 [y0,(ii r.2.2.ba)])]
theorem pn.c (H:pn.f ag n=some r) (hG:fL 414 eZ hU el F) (mH:aT (Fl.int .u8) ag.b gX F) (ko:List.length ag.b<=gS):
 QR 281 [(pp aW),(ii n)] [(cl aW 340 [(ll gX ag.b gS),(ii ag.ba)])] [] F (pn.R el aW (ll gX ag.b gS) r):=by
 unfold pn.f at H;refine aB Tryz.func281 J J (λW=>rc T 11 (mq H [] [1] (λz3 (⟨x1,x2,a2,n2,H2⟩:List Int×Int×Option Addr×Nat×Hp)=>((Sum.inr (x1,x2))=z3/\ak (Fl.int .u8) 5 x1 a2 n2 H2,[(6,(ll a2 x1 n2))],[H2,(cl aW 340 [(ll gX ag.b gS),(ii x2)])])) J J (λz3 Z1 H=>?_) ?_))
 ·refine rc T 1 (bq (lq [0,1] [1] (λ(⟨k8,x6,x7,a4,n4,H4⟩:Nat×Int×List Int×Option Addr×Nat×Hp)=>(pn.l0 k8 ag n x6 x7=some z3/\ak (Fl.int .u8) 5 x7 a4 n4 H4,[(6,(ll a4 x7 n4))],[(cl aW 340 [(ll gX ag.b gS),(ii x6)]),H4])) J J (fuel,ag.ba,[],none,0,[]) [1,0,0] ⟨Z1,ak.nil⟩ J J ?_));rintro k8 ⟨x6,x7,a4,n4,H4⟩ ⟨Z2,s4⟩;rw[pn.l0] at Z2;refine rc T 9 (cd J Z2 (λZ2=>?_) (λZ2=>?_))
  ·refine rc T 6 (kr (mN.R el aW (ll gX ag.b gS) ag.b gX gS) [] [1] J MZ Z2 (mN.c (ag:=(eO.mk ag.b x6)) · (dF hG (j:=0) J) (rO mH 0) ko) (λv9 Z2=>?_));rintro _ _ ⟨a5,n5,v6,H6,Fi,Qv,s6,rfl,rfl⟩;refine fz J (ro T 11 (br J (Dx T J J J (rl s6 (j:=2) J)) (ro T 2 (cb J Z2 (λZ2=>?_) (λZ2=>?_)))))
   ·refine rc T 13 ?_;obtain rfl:=Option.some.inj Z2;obtain rfl:=Option.some.inj (show some ([],v9.2.1,(eO.mk ag.b v9.2.2.ba))=some r from H)
    refine bq (p1 T J [4,2,2,0] ⟨none,0,[],v6,H6,ak.nil,s6,J,J⟩ J)
   refine rc T 3 (dA mix ay (aj T J ?_));obtain⟨c6,Z2⟩:=az Z2;obtain⟨q8,o8,e8⟩:=(dr.r Fi mH ko).addr c6.1 c6.2;refine aO J J J (cn T J J J J J e8 c6.1 c6.2) (aO J J J (aw T J J J J (e_ (k:=(Fl.int .u8)) (nY Fi (rO mH 0) ko) e8 c6 0 J)) (aj T J (aj T J (aj T J ?_))));obtain⟨c7,Z2⟩:=az Z2;refine aO J J J (cn T J J J J J e8 c7.1 c7.2) (aO J J J (aw T J J J J (e_ (k:=(Fl.int .u8)) (nY Fi (rO mH 0) ko) e8 c7 0 J)) (aj T J (aj T J (cH (rx T 2 (mq Z2 [0,1,6,9,10] [0,2,0] (λiZ (aN:Bool)=>(aN=iZ,[(55,(bb aN))],[])) J J (λiZ Z8 _=>?_) ?_))))))
   ·refine rc T 4 (go T [3,4,5,6,7,8,9] 33 [0,1,6,9,10] 40 J J J J J J J (ro T 1 (ab 41 J Z8 (λZ8=>?_) (λZ8=>?_))))
    ·refine ro T 16 (am _ [0,2,0] (oi Z8) J J)
    refine ro T 4 (ad 45 J Z8 (λZ8=>?_) (λZ8=>?_))
    ·refine ro T 4 ?_;obtain⟨eh,Z8⟩:=az Z8;obtain⟨q9,o9,e9⟩:=s4.r.addr eh.1 eh.2;refine ix T J e9 eh (le T 0 (oO s4 1) e9 eh J J (ro T 6 (am _ [0,2,0] (oi Z8) J J)))
    refine ro T 12 (am _ [0,2,0] (oi Z8) J J)
   rintro _ aN rfl Z2;refine cb J Z2 (λZ2=>?_) (λZ2=>?_)
   ·refine rc T 1 (dA mix ay (aO J J J (aw T J J J J (rC (j:=0) J hG (g:=5) (by decide))) (aj T J (aj T J (cH (rx T 7 ?_))))))
    obtain rfl:=Option.some.inj Z2;obtain rfl:=Option.some.inj (show some ([],(Er.dW 5),(eO.mk ag.b v9.2.2.ba))=some r from H)
    refine bq (bq (p1 T J [3,3,1,0] ⟨none,0,[],(.iface 414 (.pointer (some (el 5)))),[],ak.nil,nZ,J,J⟩ J))
   refine rc T 5 (aX (cV (k:=(Fl.int .u8)) T [(rd v9.1 1)] J J J J J J J J J (λa12 dt dw=>ro T 1 (kr ly.R [] [] J SS Z2 (ly.c · (oO dw 3) dw.bV) (λv12 Z2=>?_)))));rintro _ _ ⟨dD,n13,ei,cz,rfl,rfl⟩;refine fz J ?_;obtain⟨oL,Z2⟩:=az Z2;refine aX (dR (k:=(Fl.int .u8)) (xs:=x7) T (g:=2) J J J J J J J J J J s4 (oO cz 4) oL J (λiG n14 fG fp=>ro T 4 (ar (_,_,_,_,_) [0,0,0] ⟨Z2,fp⟩ J J)))
  refine rc T 5 (am (_,_,_,_,_) [0,1,0] ⟨oi Z2,s4⟩ J J)
 rintro _ ⟨x1,x2,a2,n2,H2⟩ ⟨rfl,s2⟩ H;refine rc T 8 ?_
 cases H;refine bq (p1 T J [1,2,1,0] ⟨a2,n2,H2,.nilIface,[],s2,tA,J,J⟩ J)
def sK.f (ag:eO) (n:Int):Option ((List Int)×Er×eO):=(mN.f ag 1).bind λv1=>if(!(Er.isNil v1.2.1))=true then(some ([],v1.2.1,(eO.mk ag.b v1.2.2.ba))) else(if(0<=(0:Int)/\(0:Int)<(List.length v1.1:Int)) then(if((rd v1.1 0)==0)=true then((pS.f (eO.mk ag.b v1.2.2.ba) 1).bind λv2=>(ly.f v2.1 n).bind λv3=>some (v3,v2.2.1,(eO.mk ag.b v2.2.2.ba))) else(if((rd v1.1 0)==1)=true then((pS.f (eO.mk ag.b v1.2.2.ba) n).bind λv4=>some (v4.1,v4.2.1,(eO.mk ag.b v4.2.2.ba))) else(if((rd v1.1 0)==2)=true then((pn.f (eO.mk ag.b v1.2.2.ba) n).bind λv5=>some (v5.1,v5.2.1,(eO.mk ag.b v5.2.2.ba))) else(some ([],(Er.dW 5),(eO.mk ag.b v1.2.2.ba)))))) else none)
def sK.R (el:Nat->Addr) (aW:Nat) (y0:Value) (xr:List Int) (ar:Option Addr) (nr:Nat) (r:((List Int)×Er×eO)) (u:Value) (G:List Hp):Prop:= ∃(a0:Option Addr) (n0:Nat) (H0:Hp) (v1:Value) (H1:Hp),HW (Fl.int .u8) 5 xr ar nr r.1 a0 n0 H0/\fW 414 el r.2.1 v1 H1/\u=(.tuple #[(ll a0 r.1 n0),v1])/\G=[H0,H1,(cl aW 340 [y0,(ii r.2.2.ba)])]
theorem sK.c (H:sK.f ag n=some r) (hG:fL 414 eZ hU el F) (mH:aT (Fl.int .u8) ag.b gX F) (ko:List.length ag.b<=gS):
 QR 252 [(pp aW),(ii n)] [(cl aW 340 [(ll gX ag.b gS),(ii ag.ba)])] [] F (sK.R el aW (ll gX ag.b gS) ag.b gX gS r):=by
 unfold sK.f at H;refine aB Tryz.func252 J J (λW=>rc T 9 (kr (mN.R el aW (ll gX ag.b gS) ag.b gX gS) [] [0] J MZ H (mN.c · (dF hG (j:=0) J) (rO mH 0) ko) (λv1 H=>?_)));rintro _ _ ⟨a2,n2,v3,H3,Dn,II,s3,rfl,rfl⟩;refine fz J (ro T 11 (br J (Dx T J J J (rl s3 (j:=1) J)) (ro T 2 (cb J H (λH=>?_) (λH=>?_)))))
 ·refine rc T 9 ?_
  cases H;refine bq (p1 T J [3,1,1,0] ⟨none,0,[],v3,H3,(.inl ⟨dr.nil,Nat.zero_le _,J⟩),s3,J,J⟩ J)
 refine rc T 6 ?_;obtain⟨c3,H⟩:=az H;obtain⟨q5,o5,e5⟩:=(dr.r Dn mH ko).addr c3.1 c3.2;refine ix T J e5 c3 (le T 0 (nY Dn (rO mH 0) ko) e5 c3 J J (ro T 9 (cb J H (λH=>?_) (λH=>?_))))
 ·refine rc T 3 (kr (pS.R el aW (ll gX ag.b gS) ag.b gX gS) [] [2] J SR H (pS.c (ag:=(eO.mk ag.b v1.2.2.ba)) · (dF hG (j:=0) J) (rO mH 0) ko) (λv2 H=>?_));rintro _ _ ⟨a6,n6,v7,H7,Zg,ZC,s7,rfl,rfl⟩;refine fz J (ro T 11 (kr ly.R [] [] J SS H (ly.c · (nY Zg (rO mH 0) ko) ZC) (λv3 H=>?_)));rintro _ _ ⟨a8,n8,H8,s8,rfl,rfl⟩;refine fz J (ro T 4 (ke [4,5] [0,1,1,1] J J (rx T 4 ?_)))
  cases H;exact p1 T J [3,1,1,0] ⟨a8,n8,H8,v7,H7,(.inr s8),s7,J,J⟩ J
 refine rc T 6 (cb J H (λH=>?_) (λH=>?_))
 ·refine rc T 4 (kr (pS.R el aW (ll gX ag.b gS) ag.b gX gS) [] [2] J SR H (pS.c (ag:=(eO.mk ag.b v1.2.2.ba)) · (dF hG (j:=0) J) (rO mH 0) ko) (λv4 H=>?_));rintro _ _ ⟨a9,n9,v10,bX,Zh,ZD,bS,rfl,rfl⟩;refine fz J (ro T 9 ?_)
  cases H;refine bq (p1 T J [4,2,2,0] ⟨a9,n9,[],v10,bX,(.inl ⟨Zh,ZD,J⟩),bS,J,J⟩ J)
 refine rc T 6 (cb J H (λH=>?_) (λH=>?_))
 ·refine rc T 4 (kr (pn.R el aW (ll gX ag.b gS)) [] [2] J ac' H (pn.c (ag:=(eO.mk ag.b v1.2.2.ba)) · (dF hG (j:=0) J) (rO mH 0) ko) (λv5 H=>?_));rintro _ _ ⟨a12,n12,dt,fv,ei,dw,cz,rfl,rfl⟩;refine fz J (ro T 9 ?_)
  cases H;exact p1 T J [2,2,2,0] ⟨a12,n12,dt,fv,ei,(.inr dw),cz,J,J⟩ J
 refine rc T 4 (dA mix ay (aO J J J (aw T J J J J (rC (j:=0) J hG (g:=5) (by decide))) (aj T J (aj T J (cH (rx T 2 ?_))))))
 cases H;refine bq (bq (p1 T J [3,3,2,0] ⟨none,0,[],(.iface 414 (.pointer (some (el 5)))),[],(.inl ⟨dr.nil,Nat.zero_le _,J⟩),nZ,J,J⟩ J))
def Cv.f (ag:Int) (ai:aJ):Option Bool:=if(0<=(0:Int)/\(0:Int)<(List.length ai.C:Int)) then(some (ag !=(rd ai.C 0))) else none
theorem Cv.c (H:Cv.f ag ai=some r) (GB:(tv,Obj.cells #[(ii ai.W),(ii ai.H),(ll It ai.C J9)] 139 (0,0))∈F) (DF:aT (Fl.int .u8) ai.C It F) (Qx:List.length ai.C<=J9):
 QU 304 [(.int .u8 ag),(pp tv)] [] F (bb r):=by
 unfold Cv.f at H;refine aB Tryz.func304 J J (λW=>rc T 9 (lg T J (nt (j:=0) GB J J) ?_));obtain⟨c1,H⟩:=az H;obtain⟨q1,o1,e1⟩:=DF.addr c1.1 c1.2;refine ix T J e1 c1 (le T 0 (rO DF 0) e1 c1 J J (ro T 5 ?_))
 cases H;exact p0 T J [0] J
def qL.l0:Nat->(List Int)->aJ->Int->Option Int
 |0,_,_,_=>none
 |k3+1,s,fm,x2=>if x2<(List.length s:Int) then(if(0<=x2/\x2<(List.length s:Int)) then((Cv.f (rd s x2) fm).bind λv4=>if v4=true then(some x2) else(qL.l0 k3 s fm (aa (x2+1)))) else none) else(some (-1))
def qL.f (s:(List Int)) (fm:aJ):Option Int:=qL.l0 fuel s fm 0
theorem qL.c (H:qL.f s fm=some r) (iK:aT (Fl.int .u8) s iu F) (qn:List.length s<=iA) (Cd:(BA,Obj.cells #[(ii fm.W),(ii fm.H),(ll Bs fm.C Cl)] 139 (0,0))∈F) (BM:aT (Fl.int .u8) fm.C Bs F) (BE:List.length fm.C<=Cl):
 QU 305 [(ll iu s iA),(.func (.func 304) #[] #[(pp BA)])] [] F (ii r):=by
 unfold qL.f at H;refine aB Tryz.func305 J J (λW=>rc T 14 (lq [0,1,7] [0] (λ(⟨k3,x2⟩:Nat×Int)=>(qL.l0 k3 s fm x2=some r,[(8,(ii x2))],[])) J J (fuel,0) [0] H J J ?_));rintro k3 x2 Z1;replace Z1:qL.l0 (k3+1) s fm x2=some r:=Z1;rw[qL.l0] at Z1;refine rc T 6 (cd J Z1 (λZ1=>?_) (λZ1=>?_))
 ·refine rc T 15 ?_;obtain⟨c3,Z1⟩:=az Z1;obtain⟨q1,o1,e1⟩:=iK.addr c3.1 c3.2;refine ix T J e1 c3 (le T 0 (rO iK 0) e1 c3 J J (k [] J adn Z1 (Cv.c · (pR Cd (j:=0) J) (rO BM 0) BE) (λv4 Z1=>ro T 2 (cb J Z1 (λZ1=>?_) (λZ1=>?_)))))
  ·refine rc T 12 ?_
   cases Z1;exact p0 T J [0] J
  refine rc T 8 (ar _ [0] Z1 J J)
 refine rc T 11 ?_
 cases Z1;exact p0 T J [0] J
def CP.f (s:(List Int)) (fm:aJ):Option Bool:=(qL.f s fm).bind λv1=>some (decide (v1≥0))
theorem CP.c (H:CP.f s fm=some r) (iK:aT (Fl.int .u8) s iu F) (qn:List.length s<=iA) (Cd:(BA,Obj.cells #[(ii fm.W),(ii fm.H),(ll Bs fm.C Cl)] 139 (0,0))∈F) (BM:aT (Fl.int .u8) fm.C Bs F) (BE:List.length fm.C<=Cl):
 QU 303 [(ll iu s iA),(.func (.func 304) #[] #[(pp BA)])] [] F (bb r):=by
 unfold CP.f at H;refine aB Tryz.func303 J J (λW=>rc T 9 (k [] J ado H (qL.c · (rO iK 0) qn (pR Cd (j:=0) J) (rO BM 0) BE) (λv1 H=>ro T 5 ?_)))
 cases H;exact p0 T J [0] J
def jl.l1:Nat->aJ->Int->Int->Option Int
 |0,_,_,_=>none
 |wT+1,t,x5,aU=>(if(aa (x5+aU))<(List.length t.C:Int) then(if(0<=(aa (x5+aU))/\(aa (x5+aU))<(List.length t.C:Int)) then(if(0<=x5/\x5<(List.length t.C:Int)) then(some ((rd t.C (aa (x5+aU)))==(rd t.C x5))) else none) else none) else(some false)).bind λcm=>if cm=true then(jl.l1 wT t x5 (aa (aU+1))) else(some aU)
def jl.l0:Nat->aJ->List Int->Int->Option (List Int)
 |0,_,_,_=>none
 |k6+1,t,x4,x5=>if x5<(List.length t.C:Int) then(((jl.l1 fuel t x5 1).bind λaN=>if(0<=x5/\x5<(List.length t.C:Int)) then(if(List.length x4+2<=1099511627776) then(some ((x4++[(bQ (aa (aN-1))),(rd t.C x5)]),(aa (x5+aN)))) else none) else none).bind λ(x7,x8)=>jl.l0 k6 t x7 x8) else(some x4)
def jl.f (t:aJ) (form:Int):Option (List Int):=if(form==0)=true then((CP.f t.C t).bind λv1=>if v1=true then(some []) else(if(0<=(0:Int)/\(0:Int)<(List.length t.C:Int)) then(if(List.length [(bQ form)]+1<=1099511627776) then(some ([(bQ form)]++[(rd t.C 0)])) else none) else none)) else(if(form==1)=true then(if(List.length [(bQ form)]+List.length t.C<=1099511627776) then(some ([(bQ form)]++t.C)) else none) else(jl.l0 fuel t [(bQ form)] 0))
def jl.R (r:(List Int)) (u:Value) (G:List Hp):Prop:= ∃(a0:Option Addr) (n0:Nat) (H0:Hp),ak (Fl.int .u8) 5 r a0 n0 H0/\(r=[]->a0=none)/\u=(ll a0 r n0)/\G=[H0]
theorem jl.c (H:jl.f t form=some r) (dM:aT (Fl.int .u8) t.C iv F) (fg:List.length t.C<=iB):
 QR 297 [(.agg #[(ii t.W),(ii t.H),(ll iv t.C iB)]),(ii form)] [] [] F (jl.R r):=by
 unfold jl.f at H;refine aB Tryz.func297 J J (λW=>rc T 2 (nc T J (λb1=>ro T 7 (aX (cV (k:=(Fl.int .u8)) T [(bQ form)] J J J J J J J J J (λa2 H2 s2=>ro T 16 (cb J H (λH=>?_) (λH=>?_))))))))
 ·refine rc T 4 (lf T 1 J (ro T 1 (k [] J adm H (CP.c · (rO dM 0) fg (yP (j:=1) J) (rO dM 0) fg) (λv1 H=>ro T 2 (cb J H (λH=>?_) (λH=>?_))))))
  ·refine rc T 9 ?_
   cases H;refine bq (p1 T J [3,0] ⟨none,0,[],ak.nil,(λ_=>rfl),J,J⟩ J)
  refine rc T 6 (lf T 1 J ?_);obtain⟨c4,H⟩:=az H;obtain⟨q4,o4,e4⟩:=dM.addr c4.1 c4.2;refine ix T J e4 c4 (le T 0 (rO dM 0) e4 c4 J J (aX (cV (k:=(Fl.int .u8)) T [(rd t.C 0)] J J J J J J J J J (λa5 H5 s5=>?_))));obtain⟨c5,H⟩:=az H;refine aX (dR (k:=(Fl.int .u8)) (xs:=[(bQ form)]) T (g:=2) J J J J J J J J J J s2 (oO s5 3) c5 J (λa6 n6 H6 s6=>ro T 2 (ke [4] [0,1] J J (rx T 4 ?_))))
  cases H;exact p1 T J [1,0] ⟨a6,n6,H6,s6,(Oc (.inr J)),J,J⟩ J
 refine rc T 6 (cb J H (λH=>?_) (λH=>?_))
 ·refine rc T 4 (lf T 1 J ?_);obtain⟨c7,H⟩:=az H;refine aX (dR (k:=(Fl.int .u8)) (xs:=[(bQ form)]) T (g:=2) J J J J J J J J J J s2 (rO dM 0) c7 J (λa7 n7 H7 s7=>ro T 2 (ke [4] [0,1] J J (rx T 4 ?_))))
  cases H;exact p1 T J [1,0] ⟨a7,n7,H7,s7,(Oc (.inl J)),J,J⟩ J
 refine rc T 10 (lq [2] [0,0] (λ(⟨k6,x4,x5,a9,n9,H9⟩:Nat×List Int×Int×Option Addr×Nat×Hp)=>(jl.l0 k6 t x4 x5=some r/\ak (Fl.int .u8) 5 x4 a9 n9 H9/\(x4=[]->a9=none),[(5,(ll a9 x4 n9)),(6,(ii x5))],[H9])) J J (fuel,[(bQ form)],0,a2,(List.length [(bQ form)]),H2) [0,0,0] ⟨H,s2,(λe=>by cases e)⟩ J J ?_)
 rintro k6 ⟨x4,x5,a9,n9,H9⟩ ⟨Z8,s9,r9⟩;rw[jl.l0] at Z8;refine rc T 5 (lf T 1 J (ro T 4 (cd J Z8 (λZ8=>?_) (λZ8=>?_))))
 ·refine rc T 2 (mn Z8 [2] [0,0] (λz9 (⟨x7,x8,cy,n10,bX⟩:List Int×Int×Option Addr×Nat×Hp)=>((x7,x8)=z9/\ak (Fl.int .u8) 5 x7 cy n10 bX/\(x7=[]->cy=none),[(5,(ll cy x7 n10)),(6,(ii x8))],[bX])) J J (λz9 lK _=>?_) ?_)
  ·refine rc T 6 (mq lK [2,5,6] [0,0,0] (λiZ (aN:Int)=>(aN=iZ,[(7,(ii aN))],[])) J J (λiZ bc _=>?_) ?_)
   ·refine rc T 1 (lq [2,5,6] [0,0,0] (λ(⟨wT,aU⟩:Nat×Int)=>(jl.l1 wT t x5 aU=some iZ,[(7,(ii aU))],[])) J J (fuel,1) [0,0,0] bc J J ?_);rintro wT aU bp;replace bp:jl.l1 (wT+1) t x5 aU=some iZ:=bp;rw[jl.l1] at bp;refine rc T 1 (mq bp [2,5,6,7] [0,0,0] (λHV (cm:Bool)=>(cm=HV,[(57,(bb cm))],[])) J J (λHV mX _=>?_) ?_)
    ·refine dA mix ay ?_
     iterate 4 refine aj T J ?_
     refine aO J J J (aw T J J J J (aF (j:=1) J J)) (aj T J (aj T J (aj T J (qd 43 J mX (λmX=>?_) (λmX=>?_)))))
     ·refine aj T J (aO J J J (aw T J J J J (aF (j:=1) J J)) (aj T J (aj T J (aj T J ?_))));obtain⟨yh,mX⟩:=az mX;obtain⟨q11,o11,yj⟩:=dM.addr yh.1 yh.2;refine aO J J J (cn T J J J J J yj yh.1 yh.2) (aO J J J (aw T J J J J (e_ (k:=(Fl.int .u8)) (rO dM 0) yj yh 0 J)) (aj T J (aO J J J (aw T J J J J (aF (j:=1) J J)) (aj T J ?_))));obtain⟨pH,mX⟩:=az mX;refine aO J J J (cn T J J J J J yj pH.1 pH.2) (aO J J J (aw T J J J J (e_ (k:=(Fl.int .u8)) (rO dM 0) yj pH 0 J)) (aj T J (aj T J (cH (rx T 1 (am _ [0,0,0] (oi mX) J J))))))
     iterate 14 refine aj T J ?_
     refine cH (rx T 1 (am _ [0,0,0] (oi mX) J J))
    rintro _ cm rfl bp;refine cb J bp (λbp=>?_) (λbp=>?_)
    ·refine rc T 10 (ar _ [0,0,0] bp J J)
    refine rc T 5 (am _ [0,0,0] (oi bp) J J)
   rintro _ aN rfl lK;refine rc T 7 (lf T 1 J (ro T 1 ?_));obtain⟨lA,lK⟩:=az lK;obtain⟨vx,Og,si⟩:=dM.addr lA.1 lA.2;refine ix T J si lA (le T 0 (rO dM 0) si lA J J (aX (cV (k:=(Fl.int .u8)) T [(bQ (aa (aN-1))),(rd t.C x5)] J J J J J J J J J (λdD ei cz=>?_))));obtain⟨zM,lK⟩:=az lK;refine aX (dR (k:=(Fl.int .u8)) (xs:=x4) T (g:=2) J J J J J J J J J J s9 (oO cz 3) zM J (λiG n14 fG fp=>ro T 11 (am (_,_,_,_,_) [0,0,0] ⟨oi lK,fp,(Oc (.inr J))⟩ J J)))
  rintro _ ⟨x7,x8,cy,n10,bX⟩ ⟨rfl,bS,Ou⟩ Z8;refine rx T 1 (ar (_,_,_,_,_) [0,0,0] ⟨Z8,bS,Ou⟩ J J)
 refine rc T 12 ?_
 cases Z8;exact p1 T J [2,0] ⟨a9,n9,H9,s9,r9,J,J⟩ J
def kW.l0:Nat->aJ->Int->List Int->Int->Option (Int×(List Int))
 |0,_,_,_,_=>none
 |k7+1,t,x4,x5,x6=>if x6<3 then((jl.f t x6).bind λv8=>(if(!List.isEmpty v8)=true then(if(List.isEmpty x5)=true then(some true) else(some (decide ((List.length v8:Int)<(List.length x5:Int))))) else(some false)).bind λx9=>if x9=true then(kW.l0 k7 t x6 v8 (aa (x6+1))) else(kW.l0 k7 t x4 x5 (aa (x6+1)))) else(some (x4,x5))
def kW.f (t:aJ):Option (Int×(List Int)):=kW.l0 fuel t (-1) [] 0
def kW.R (r:(Int×(List Int))) (u:Value) (G:List Hp):Prop:= ∃(a0:Option Addr) (n0:Nat) (H0:Hp),ak (Fl.int .u8) 5 r.2 a0 n0 H0/\(r.2=[]->a0=none)/\u=(.tuple #[(ii r.1),(ll a0 r.2 n0)])/\G=[H0]
theorem kW.c (H:kW.f t=some r) (dM:aT (Fl.int .u8) t.C iv F) (fg:List.length t.C<=iB):
 QR 282 [(.agg #[(ii t.W),(ii t.H),(ll iv t.C iB)])] [] [] F (kW.R r):=by
 unfold kW.f at H;refine aB Tryz.func282 J J (λW=>rc T 2 (nc T J (λb1=>ro T 17 (bq (lq [1] [0,0] (λ(⟨k7,x4,x5,x6,a3,n3,H3⟩:Nat×Int×List Int×Int×Option Addr×Nat×Hp)=>(kW.l0 k7 t x4 x5 x6=some r/\ak (Fl.int .u8) 5 x5 a3 n3 H3/\(x5=[]->a3=none),[(4,(ii x4)),(5,(ll a3 x5 n3)),(8,(ii x6))],[H3])) J J (fuel,(-1),[],0,none,0,[]) [0,0,0] ⟨H,ak.nil,(λ_=>rfl)⟩ J J ?_)))));rintro k7 ⟨x4,x5,x6,a3,n3,H3⟩ ⟨Z1,s3,r3⟩;rw[kW.l0] at Z1;refine rc T 6 (cd J Z1 (λZ1=>?_) (λZ1=>?_))
 ·refine rc T 12 (lm T 1 J (ro T 1 (kr jl.R [] [] J adi Z1 (jl.c · (rO dM 0) fg) (λv8 Z1=>?_))));rintro _ _ ⟨a4,n4,H4,s4,r4,rfl,rfl⟩;refine fz J (ro T 3 (mq Z1 [1,4,5,6,7,8] [0,0,0,0] (λnT (x9:Bool)=>(x9=nT,[(26,(bb x9))],[])) J J (λnT Z4 _=>?_) ?_))
  ·refine rc T 2 (br J (abk T J J J J s4 r4) (ro T 1 (ab 16 J Z4 (λZ4=>?_) (λZ4=>?_))))
   ·refine ro T 1 (br J (abj T J J J J s3 r3) (ro T 1 (ab 19 J Z4 (λZ4=>?_) (λZ4=>?_))))
    ·refine ro T 9 (am _ [0,0,0,0] (oi Z4) J J)
    refine ro T 9 (am _ [0,0,0,0] (oi Z4) J J)
   refine ro T 12 (am _ [0,0,0,0] (oi Z4) J J)
  rintro _ x9 rfl Z1;refine cb J Z1 (λZ1=>?_) (λZ1=>?_)
  ·refine rc T 13 (ar (_,_,_,_,_,_) [0,0,1] ⟨Z1,s4,r4⟩ J J)
  refine rc T 8 (ar (_,_,_,_,_,_) [0,0,0] ⟨Z1,s3,r3⟩ J J)
 refine rc T 14 ?_
 cases Z1;exact p1 T J [2,0] ⟨a3,n3,H3,s3,r3,J,J⟩ J
def sJ.f (t:aJ):Option ((List Int)×Int):=(tg.f t).bind λv1=>if(!v1)=true then(some ([],1)) else((kW.f t).bind λv2=>some (v2.2,0))
def sJ.R (r:((List Int)×Int)) (u:Value) (G:List Hp):Prop:= ∃(a0:Option Addr) (n0:Nat) (H0:Hp),ak (Fl.int .u8) 5 r.1 a0 n0 H0/\u=(.tuple #[(ll a0 r.1 n0),(ii r.2)])/\G=[H0]
theorem sJ.c (H:sJ.f t=some r) (dM:aT (Fl.int .u8) t.C iv F) (fg:List.length t.C<=iB):
 QR 253 [(.agg #[(ii t.W),(ii t.H),(ll iv t.C iB)])] [] [] F (sJ.R r):=by
 unfold sJ.f at H;refine aB Tryz.func253 J J (λW=>rc T 2 (nc T J (λb1=>ro T 7 (lm T 1 J (k [] J Jj H (tg.c · (rO dM 0) fg) (λv1 H=>ro T 3 (cb J H (λH=>?_) (λH=>?_))))))))
 ·refine rc T 8 ?_
  cases H;refine bq (p1 T J [2,0] ⟨none,0,[],ak.nil,J,J⟩ J)
 refine rc T 4 (lm T 1 J (kr kW.R [] [] J ada H (kW.c · (rO dM 0) fg) (λv2 H=>?_)));rintro _ _ ⟨a3,n3,H3,s3,r3,rfl,rfl⟩;refine fz J (ro T 15 ?_)
 cases H;exact p1 T J [2,0] ⟨a3,n3,H3,s3,J,J⟩ J
def vv.f (ag:eO) (w:Int) (h:Int):Option (aJ×Er×eO):=(sK.f ag (aa (w*h))).bind λv1=>(nL.f v1.1).bind λv2=>(if(Er.isNil v1.2.1)=true then((sJ.f (aJ.mk w h v2)).bind λv5=>if(0<=(0:Int)/\(0:Int)<=v1.2.2.ba/\v1.2.2.ba<=(List.length ag.b:Int)) then((Dq.f v5.1 (aA ag.b 0 v1.2.2.ba)).bind λv6=>if(!v6)=true then(some (Er.dW 5)) else(some v1.2.1)) else none) else(some v1.2.1)).bind λx3=>if(Er.isNil x3)=true then(some ((aJ.mk w h v2),Er.nil,(eO.mk ag.b v1.2.2.ba))) else((uQ.f x3 (Er.dW 6)).bind λv7=>if v7=true then(some ((aJ.mk 0 0 []),(Er.wrap 343 [v1.2.2.ba,2] x3),(eO.mk ag.b v1.2.2.ba))) else(some ((aJ.mk 0 0 []),(Er.wrap 343 [v1.2.2.ba,3] x3),(eO.mk ag.b v1.2.2.ba))))
def vv.R (el:Nat->Addr) (aW:Nat) (y0:Value) (r:(aJ×Er×eO)) (u:Value) (G:List Hp):Prop:= ∃(a0:Option Addr) (n0:Nat) (H0:Hp) (v1:Value) (H1:Hp),ak (Fl.int .u8) 5 r.1.C a0 n0 H0/\fW 414 el r.2.1 v1 H1/\u=(.tuple #[(.agg #[(ii r.1.W),(ii r.1.H),(ll a0 r.1.C n0)]),v1])/\G=[H0,H1,(cl aW 340 [y0,(ii r.2.2.ba)])]
theorem vv.c (H:vv.f ag w h=some r) (hG:fL 414 eZ hU el F) (mH:aT (Fl.int .u8) ag.b gX F) (ko:List.length ag.b<=gS):
 QR 230 [(pp aW),(ii w),(ii h)] [(cl aW 340 [(ll gX ag.b gS),(ii ag.ba)])] [] F (vv.R el aW (ll gX ag.b gS) r):=by
 unfold vv.f at H;refine aB Tryz.func230 J J (λW=>rc T 2 (nc T J (λb2=>ro T 9 (kr (sK.R el aW (ll gX ag.b gS) ag.b gX gS) [] [0] J acY H (sK.c · (dF hG (j:=0) J) (rO mH 0) ko) (λv1 H=>?_)))));rintro _ _ ⟨a3,n3,H3,v4,H4,s3,s4,rfl,rfl⟩;refine fz J (ro T 12 (kr nL.R [] [] J MJ H (nL.c · (Zn s3 (j:=2) J (rO mH 0) ko) s3.bV) (λv2 H=>?_)));rintro _ _ ⟨a5,n5,H5,s5,rfl,rfl⟩;refine fz J (ro T 1 (nc T J (λb6=>sg T 6 J (ro T 1 (ke [0,6,9,10] [0,0,1,1,1,1] J J (rx T 1 (mq H [0,6,10] [0,2,0,2,1] (λz4 (⟨x3,C2,H7⟩:Er×Value×Hp)=>(x3=z4/\fW 414 el x3 C2 H7,[(9,C2)],[H7])) J J (λz4 Z3 _=>?_) ?_)))))))
 ·refine rc T 3 (br J (I2 T J J J (rl s4 (j:=2) J)) (ro T 2 (cb J Z3 (λZ3=>?_) (λZ3=>?_))))
  ·refine rc T 2 (lm T 5 J (kr sJ.R [] [] J acZ Z3 (sJ.c (t:=(aJ.mk w h v2)) · (oO s5 4) s5.bV) (λv5 Z3=>?_)));rintro _ _ ⟨a8,n8,H8,s8,rfl,rfl⟩;refine fz J (ro T 8 (dA mix ay ?_))
   iterate 4 refine aj T J ?_
   refine aO J J J (aw T J J J J (aF (j:=3) J J)) (aj T J (aj T J (aj T J (aO J J J (aw T J J J J (aF (j:=3) J J)) ?_))));obtain⟨c6,Z3⟩:=az Z3;refine aO J J J (kt T J J J J J J c6 ko) ?_;obtain⟨v6,V7,Z3⟩:=gj Z3;refine uF J J J J J J ac0 J (Dq.c V7 (oO s8 6) s8.bV (mQ (rO mH 0) c6 ko) (mr c6 ko)) (aj T J (cH (rx T 1 (cb J Z3 (λZ3=>?_) (λZ3=>?_)))))
   ·refine rc T 1 (lg T J (rC (j:=0) J hG (g:=5) (by decide)) (ro T 3 (bq (am (_,_,_) [0,2,0,2,1,2] ⟨oi Z3,nZ⟩ J J))))
   refine rc T 2 (am (_,_,_) [0,2,0,2,1,0] ⟨oi Z3,s4⟩ J J)
  refine rc T 2 (am (_,_,_) [0,2,0,2,1,0] ⟨oi Z3,s4⟩ J J)
 rintro _ ⟨x3,C2,H7⟩ ⟨rfl,s7⟩ H;refine rc T 4 (br J (I2 T J J J (rl s7 (j:=5) J)) (ro T 2 (cb J H (λH=>?_) (λH=>?_))))
 ·refine rc T 2 (lm T 3 J (sg T 2 J (ro T 5 ?_)))
  cases H;refine bq (pb T J (.cO (j:=2) [(ii w),(ii h),(ll a5 v2 n5)] J J J J J J J (.tmp J .nil)) [4,5,1,0] ⟨(_,_),a5,n5,H5,.nilIface,[],s5,tA,J,J⟩ J J)
 refine rc T 7 (lf T 1 J (ro T 1 (br J (Ru (vs:=[(0,(ii v1.2.2.ba)),(1,(ii 3)),(2,C2)]) T [(0,[(ii v1.2.2.ba)]),(1,[(ii 3)]),(2,[C2])] J J J J J (by simp only[List.map,Rb s7];rfl) J) ?_)))
 refine nc T J (λfN=>ro T 7 (lg T J (rC (j:=0) J hG (g:=6) (by decide)) (k [] J Jo H (uQ.c x3 (Er.dW 6) _ _ · (dF hG (j:=0) J) (rl s7 (j:=5) J) IM) (λv7 H=>ro T 2 (cb J H (λH=>?_) (λH=>?_))))))
 ·refine rc T 4 (sg T 6 J (ro T 6 (gi [6,5] J (br J (gZ T J J J J) (sg T 2 J (ro T 2 (ke [6,7] [0,0,0,2] J J (rx T 2 ?_))))))))
  cases H;refine bq (pb T J (.cO (j:=2) [(ii 0),(ii 0),nl] J J J J J J J (.tmp J .nil)) [4,3,1,0] ⟨(_,_),none,0,[],(.iface 343 (pp fN)),(List.flatten [(cl fN 346 [(ii v1.2.2.ba),(ii 2),C2]),H7]),ak.nil,(pL s7),J,J⟩ J J)
 refine rc T 6 (gi [6,5] J (br J (gZ T J J J J) (sg T 2 J (ro T 4 ?_))))
 cases H;refine bq (pb T J (.cO (j:=2) [(ii 0),(ii 0),nl] J J J J J J J (.tmp J .nil)) [6,5,1,0] ⟨(_,_),none,0,[],(.iface 343 (pp fN)),(List.flatten [(cl fN 346 [(ii v1.2.2.ba),(ii 3),C2]),H7]),ak.nil,(pL s7),J,J⟩ J J)
def qF.f (b:(List Int)) (w:Int) (h:Int):Option (aJ×Int×Int):=if((((decide (w<1))||(decide (w>16)))||(decide (h<1)))||(decide (h>16)))=true then(some ((aJ.mk 0 0 []),0,1)) else((vv.f (eO.mk b 0) w h).bind λv1=>(Er.E9 343 v1.2.1).bind λv2=>dq v2 (some (v1.1,v1.2.2.ba,0)) (λrR=>some ((aJ.mk 0 0 []),0,rR.2.1)))
def qF.R (el:Nat->Addr) (r:(aJ×Int×Int)) (u:Value) (G:List Hp):Prop:= ∃(a0:Option Addr) (n0:Nat) (H0:Hp),ak (Fl.int .u8) 5 r.1.C a0 n0 H0/\u=(.tuple #[(.agg #[(ii r.1.W),(ii r.1.H),(ll a0 r.1.C n0)]),(ii r.2.1),(ii r.2.2)])/\G=[H0]
theorem qF.c (H:qF.f b w h=some r) (hG:fL 414 eZ hU el F) (g_:aT (Fl.int .u8) b jX F) (gm:List.length b<=jL):
 QR 192 [(ll jX b jL),(ii w),(ii h)] [] [] F (qF.R el r):=by
 unfold qF.f at H;refine aB Tryz.func192 J J (λW=>rc T 2 (nc T J (λb1=>ro T 10 (go T [3,4,5] 14 [0,1,2,6] 17 J J J J J J J (ro T 1 (go T [7,8,9] 18 [0,1,2,6] 21 J J J J J J J (ro T 1 (go T [11,12,13] 22 [0,1,2,6] 25 J J J J J J J (ro T 2 (cb J H (λH=>?_) (λH=>?_)))))))))))
 ·refine rc T 3 (sg T 1 J (ro T 6 ?_))
  cases H;refine bq (pb T J (.cO (j:=1) [(ii 0),(ii 0),nl] J J J J J J J (.tmp J (.tmp J .nil))) [2,0] ⟨(_,_),none,0,[],ak.nil,J,J⟩ J J)
 refine rc T 6 (nc T J (λb3=>ro T 8 (kr (vv.R el b3 (ll jX b jL)) [] [2] J acJ H (vv.c (ag:=(eO.mk b 0)) · (dF hG (j:=0) J) (rO g_ 0) gm) (λv1 H=>?_))));rintro _ _ ⟨a4,n4,H4,v5,H5,s4,s5,rfl,rfl⟩;refine fz J (ro T 3 (sg T 1 J (ro T 2 (ks [6,9,10] J (rx T 4 (nc T J (λb6=>sg T 5 J (ro T 5 (br J (gZ T J J J J) ?_)))))))));obtain⟨v2,V3,H⟩:=gj H;rcases v2 with _ |rR
 ·replace H:=eT J H;obtain⟨Mi,L_⟩:=X9 V3 s5;subst Mi;subst L_;refine aX (rY (As:=[(cl b6 343 [(.pointer none)])]) (R:=[F,(cl b1 139 [(ii v1.1.W),(ii v1.1.H),(ll a4 v1.1.C n4)]),H4,[],(cl b3 340 [(ll jX b jL),(ii v1.2.2.ba)])]) (B:=λ_=>[(cl b6 343 [(.pointer none)])]) [5] J J J J Jp J J (Mf.n _ (dF hG (j:=0) J)) (λ_=>ro T 2 (eD J (rc T 3 (ke [6,9] [0,0,0,1] J J (fz J (rz [] mix (bO bN) (λhg pf=>av 0 sz hg pf J (gA T 1 J J J J J J J) (ha T 4 [1,2,3] sz hg pf J (av 4 sz hg pf J (aw T J J J J (aF (j:=3) J J)) (ao 5 (sf T 1 J (an sz (ha T 0 [6,7] sz hg pf J (ae (rx T 2 ?_))))))))))))))))
  cases H;exact pb T J (.cO (j:=1) [(ii v1.1.W),(ii v1.1.H),(ll a4 v1.1.C n4)] J J J J J J J (.tmp J (.tmp J .nil))) [2,0] ⟨(_,_),a4,n4,H4,s4,J,J⟩ J J
 replace H:=eU J H;obtain⟨b7,v8_,Xw,H8,Mi,L_,s8⟩:=X_ V3 s5;subst Mi;subst L_;refine IB (j:=3) J (aX (rY (As:=[(cl b6 343 [(.pointer none)])]) (R:=[F,(cl b1 139 [(ii v1.1.W),(ii v1.1.H),(ll a4 v1.1.C n4)]),H4,[(b7,Obj.cells #[(ii rR.1),(ii rR.2.1),v8_] Xw (0,0))],(cl b3 340 [(ll jX b jL),(ii v1.2.2.ba)]),H8]) (B:=λ_=>[(cl b6 343 [(pp b7)])]) [5] J J J J Jp J J (Mf.s _ _ (dF hG (j:=0) J)) (λ_=>ro T 2 (mY J (rc T 1 (ke [6,11] [0,0,0,0,1,1] J J (fz J (rg [] [0,1,1,1,1] mix (bO bN) (λhg pf=>ha T 7 [0] (so [0,1,1,1,1]) hg pf J (av 1 (so [0,1,1,1,1]) hg pf J (aw T J J J J (aF (j:=4) J J)) (ha T 4 [2,3] (so [0,1,1,1,1]) hg pf J (av 4 (so [0,1,1,1,1]) hg pf J (aw T J J J J (aF (j:=2) J J)) (ao 5 (sf T 1 J (an (so [0,1,1,1,1]) (ha T 1 [6] (so [0,1,1,1,1]) hg pf J (ha T 0 [7] (so [0,1,1,1,1]) hg pf J (ae (rx T 3 ?_)))))))))))))))))))
 cases H;refine bq (pb T J (.cO (j:=1) [(ii 0),(ii 0),nl] J J J J J J J (.tmp J (.tmp J .nil))) [6,0] ⟨(_,_),none,0,[],ak.nil,J,J⟩ J J)
end
noncomputable section
def nR.f (w:Int) (h:Int):Option Bool:=some ((((decide (w≥1))&&(decide (w<=1024)))&&(decide (h≥1)))&&(decide (h<=1024)))
theorem nR.c (H:nR.f w h=some r):
 QU 96 [(ii w),(ii h)] [] F (bb r):=by
 unfold nR.f at H;refine aB Tryz.func96 J J (λW=>rc T 10 (ga T [3,4,5] 7 [1] 10 J J J J J J J (ro T 1 (ga T [7,8,9] 11 [1] 14 J J J J J J J (ro T 1 (ga T [11,12,13] 15 [] 18 J J J J J J J (ro T 4 ?_)))))))
 cases H;exact p0 T J [0] J
def p9.f (w:Int) (h:Int):Option (Int×Int):=(nR.f w h).bind λv1=>if(!v1)=true then(some (0,0)) else(some ((aa (Int.tdiv (aa ((aa (w+16))-1)) 16)),(aa (Int.tdiv (aa ((aa (h+16))-1)) 16))))
theorem p9.c (H:p9.f w h=some r):
 QU 59 [(ii w),(ii h)] [] F (.tuple #[(ii r.1),(ii r.2)]):=by
 unfold p9.f at H;refine aB Tryz.func59 J J (λW=>rc T 11 (k [] J BQ H (nR.c ·) (λv1 H=>ro T 3 (cb J H (λH=>?_) (λH=>?_)))))
 ·refine rc T 8 ?_
  cases H;exact p0 T J [0] J
 refine rc T 17 ?_
 cases H;exact p0 T J [0] J
def zq.f (w:Int) (h:Int) (bB:Int):Option (Int×Int×Bool):=(p9.f w h).bind λv1=>if((decide (bB<0))||(decide (bB≥(aa (v1.1*v1.2)))))=true then(some (0,0,false)) else(if(¬v1.1=0) then(if(¬v1.1=0) then(some ((aa ((Int.tmod bB v1.1)*16)),(aa ((aa (Int.tdiv bB v1.1))*16)),true)) else none) else none)
theorem zq.c (H:zq.f w h bB=some r):
 QU 201 [(ii w),(ii h),(ii bB)] [] F (.tuple #[(ii r.1),(ii r.2.1),(bb r.2.2)]):=by
 unfold zq.f at H;refine aB Tryz.func201 J J (λW=>rc T 11 (k [] J FR H (p9.c ·) (λv1 H=>ro T 13 (go T [3,4,5,6,7,8] 19 [2,9] 25 J J J J J J J (ro T 2 (cb J H (λH=>?_) (λH=>?_)))))))
 ·refine rc T 9 ?_
  cases H;exact p0 T J [0] J
 refine rc T 3 (dA mix ay (aj T J (aj T J ?_)));obtain⟨c3,H⟩:=az H;refine aO J J J (uV J J J c3) (aj T J (aj T J (aj T J ?_)));obtain⟨c4,H⟩:=az H;refine aO J J J (uU J J J c4) ?_
 iterate 4 refine aj T J ?_
 refine cH (rx T 2 ?_)
 cases H;exact p0 T J [0] J
def qR.f (w:Int) (h:Int) (bB:Int):Option (Int×Int):=(zq.f w h bB).bind λv1=>if(!v1.2.2)=true then(some (0,0)) else(some ((if(aa (w-v1.1))<16 then(aa (w-v1.1)) else 16),(if(aa (h-v1.2.1))<16 then(aa (h-v1.2.1)) else 16)))
theorem qR.c (H:qR.f w h bB=some r):
 QU 172 [(ii w),(ii h),(ii bB)] [] F (.tuple #[(ii r.1),(ii r.2)]):=by
 unfold qR.f at H;refine aB Tryz.func172 J J (λW=>rc T 11 (k [] J Sz H (zq.c ·) (λv1 H=>ro T 16 (cb J H (λH=>?_) (λH=>?_)))))
 ·refine rc T 8 ?_
  cases H;exact p0 T J [0] J
 refine rc T 17 ?_
 cases H;exact p0 T J [0] J
def zp.f (w:Int) (h:Int) (x:Int) (y:Int):Option Int:=(nR.f w h).bind λv1=>if(((((!v1)||(decide (x<0)))||(decide (x≥w)))||(decide (y<0)))||(decide (y≥h)))=true then(some (-1)) else(some (aa ((aa (y*w))+x)))
theorem zp.c (H:zp.f w h x y=some r):
 QU 202 [(ii w),(ii h),(ii x),(ii y)] [] F (ii r):=by
 unfold zp.f at H;refine aB Tryz.func202 J J (λW=>rc T 10 (k [] J BQ H (nR.c ·) (λv1 H=>ro T 2 (go T [5,6,7] 13 [0,1,2,3] 16 J J J J J J J (ro T 1 (go T [9,10,11,12] 17 [0,1,2,3] 21 J J J J J J J (ro T 1 (go T [14,15,16] 22 [0,1,2,3] 25 J J J J J J J (ro T 1 (go T [18,19,20,21] 26 [0,2,3] 30 J J J J J J J (ro T 2 (cb J H (λH=>?_) (λH=>?_)))))))))))))
 ·refine rc T 7 ?_
  cases H;exact p0 T J [0] J
 refine rc T 13 ?_
 cases H;exact p0 T J [0] J
def tm.f (w:Int) (h:Int) (bB:Int) (p3:Int):Option Int:=(zq.f w h bB).bind λv1=>(qR.f w h bB).bind λv2=>if(((!v1.2.2)||(decide (p3<0)))||(decide (p3≥(aa (v2.1*v2.2)))))=true then(some (-1)) else(if(¬v2.1=0) then(if(¬v2.1=0) then((zp.f w h (aa (v1.1+(Int.tmod p3 v2.1))) (aa (v1.2.1+(aa (Int.tdiv p3 v2.1))))).bind λv3=>some v3) else none) else none)
theorem tm.c (H:tm.f w h bB p3=some r):
 QU 173 [(ii w),(ii h),(ii bB),(ii p3)] [] F (ii r):=by
 unfold tm.f at H;refine aB Tryz.func173 J J (λW=>rc T 10 (k [] J Sz H (zq.c ·) (λv1 H=>ro T 14 (k [] J FN H (qR.c ·) (λv2 H=>ro T 13 (go T [3,4,5] 31 [0,1,3,9,10,12,13] 34 J J J J J J J (ro T 1 (go T [7,8,9,10,11,12] 35 [0,1,3,9,10,12] 41 J J J J J J J (ro T 2 (cb J H (λH=>?_) (λH=>?_)))))))))))
 ·refine rc T 7 ?_
  cases H;exact p0 T J [0] J
 refine rc T 3 (dA mix ay ?_)
 iterate 5 refine aj T J ?_
 obtain⟨c4,H⟩:=az H;refine aO J J J (uV J J J c4) ?_
 iterate 4 refine aj T J ?_
 obtain⟨c5,H⟩:=az H;refine aO J J J (uU J J J c5) (aj T J ?_);obtain⟨v3,V6,H⟩:=gj H;refine uF J J J J J J SA J (zp.c V6) (aj T J (cH (rx T 2 ?_)))
 cases H;exact p0 T J [0] J
def vY.f (w:Int) (h:Int) (cell:Int):Option Bool:=(nR.f w h).bind λv1=>some ((v1&&(decide (cell≥0)))&&(decide (cell<(aa (w*h)))))
theorem vY.c (H:vY.f w h cell=some r):
 QU 95 [(ii w),(ii h),(ii cell)] [] F (bb r):=by
 unfold vY.f at H;refine aB Tryz.func95 J J (λW=>rc T 9 (k [] J BQ H (nR.c ·) (λv1 H=>ro T 1 (ga T [4,5,6] 10 [0,1,2] 13 J J J J J J J (ro T 1 (ga T [8,9,10,11,12,13] 14 [] 20 J J J J J J J (ro T 4 ?_)))))))
 cases H;exact p0 T J [0] J
def vX.f (w:Int) (h:Int) (cell:Int):Option (Int×Int):=(vY.f w h cell).bind λv1=>if(!v1)=true then(some ((-1),(-1))) else(if(¬w=0) then(if(¬w=0) then(some ((Int.tmod cell w),(aa (Int.tdiv cell w)))) else none) else none)
theorem vX.c (H:vX.f w h cell=some r):
 QU 58 [(ii w),(ii h),(ii cell)] [] F (.tuple #[(ii r.1),(ii r.2)]):=by
 unfold vX.f at H;refine aB Tryz.func58 J J (λW=>rc T 12 (k [] J M7 H (vY.c ·) (λv1 H=>ro T 3 (cb J H (λH=>?_) (λH=>?_)))))
 ·refine rc T 8 ?_
  cases H;exact p0 T J [0] J
 refine rc T 3 (dA mix ay (aj T J (aj T J ?_)));obtain⟨c3,H⟩:=az H;refine aO J J J (uV J J J c3) (aj T J (aj T J ?_));obtain⟨c4,H⟩:=az H;refine aO J J J (uU J J J c4) (aj T J (aj T J (cH (rx T 2 ?_))))
 cases H;exact p0 T J [0] J
def gG.f (w:Int) (h:Int) (cell:Int):Option Int:=(vX.f w h cell).bind λv1=>if v1.1<0 then(some (-1)) else((p9.f w h).bind λv2=>some (aa ((aa ((aa (Int.tdiv v1.2 16))*v2.1))+(aa (Int.tdiv v1.1 16)))))
theorem gG.c (H:gG.f w h cell=some r):
 QU 26 [(ii w),(ii h),(ii cell)] [] F (ii r):=by
 unfold gG.f at H;refine aB Tryz.func26 J J (λW=>rc T 10 (k [] J M5 H (vX.c ·) (λv1 H=>ro T 14 (cd J H (λH=>?_) (λH=>?_)))))
 ·refine rc T 7 ?_
  cases H;exact p0 T J [0] J
 refine rc T 6 (k [] J FR H (p9.c ·) (λv2 H=>ro T 20 ?_))
 cases H;exact p0 T J [0] J
def l8.f (w:Int) (h:Int) (cell:Int) (side:Int):Option Int:=(vX.f w h cell).bind λv1=>if v1.1<0 then(some (-1)) else((if(side==0)=true then(some (Sum.inr (v1.1,(aa (v1.2+(-1)))))) else(if(side==2)=true then(some (Sum.inr (v1.1,(aa (v1.2+1))))) else(if(side==3)=true then(some (Sum.inr ((aa (v1.1+(-1))),v1.2))) else(if(side==1)=true then(some (Sum.inr ((aa (v1.1+1)),v1.2))) else(if(side==4)=true then(some (Sum.inr (v1.1,v1.2))) else(some (Sum.inl (-1)))))))).bind λzz=>match zz with |Sum.inl q=>some q |Sum.inr (x2,x3)=>(zp.f w h x2 x3).bind λv5=>some v5)
theorem l8.c (H:l8.f w h cell side=some r):
 QU 207 [(ii w),(ii h),(ii cell),(ii side)] [] F (ii r):=by
 unfold l8.f at H;refine aB Tryz.func207 J J (λW=>rc T 10 (k [] J M5 H (vX.c ·) (λv1 H=>ro T 14 (cd J H (λH=>?_) (λH=>?_)))))
 ·refine rc T 7 ?_
  cases H;exact p0 T J [0] J
 refine rc T 7 (mq H [0,1] [0] (λz4 (⟨x2,x3⟩:Int×Int)=>((Sum.inr (x2,x3))=z4,[(9,(ii x2)),(10,(ii x3))],[])) J J (λz4 Z3 H=>?_) ?_)
 ·refine rc T 26 (cb J Z3 (λZ3=>?_) (λZ3=>?_))
  ·refine rc T 29 (am (_,_) [0] (oi Z3) J J)
  refine rc T 9 (cb J Z3 (λZ3=>?_) (λZ3=>?_))
  ·refine rc T 26 (am (_,_) [0] (oi Z3) J J)
  refine rc T 9 (cb J Z3 (λZ3=>?_) (λZ3=>?_))
  ·refine rc T 29 (am (_,_) [0] (oi Z3) J J)
  refine rc T 9 (cb J Z3 (λZ3=>?_) (λZ3=>?_))
  ·refine rc T 26 (am (_,_) [0] (oi Z3) J J)
  refine rc T 8 (cb J Z3 (λZ3=>?_) (λZ3=>?_))
  ·refine rc T 17 (am (_,_) [0] (oi Z3) J J)
  refine rc T 25 ?_;obtain rfl:=Option.some.inj Z3;obtain rfl:=Option.some.inj (show some (-1)=some r from H)
  exact p0 T J [0] J
 rintro _ ⟨x2,x3⟩ rfl H;refine rc T 6 (k [] J SA H (zp.c ·) (λv5 H=>ro T 4 ?_))
 cases H;exact p0 T J [0] J
def qQ.f (w:Int) (h:Int) (cell:Int):Option Int:=(vX.f w h cell).bind λv1=>if v1.1<0 then(some (-1)) else((gG.f w h cell).bind λv2=>(qR.f w h v2).bind λv3=>some (aa ((aa ((Int.tmod v1.2 16)*v3.1))+(Int.tmod v1.1 16))))
theorem qQ.c (H:qQ.f w h cell=some r):
 QU 165 [(ii w),(ii h),(ii cell)] [] F (ii r):=by
 unfold qQ.f at H;refine aB Tryz.func165 J J (λW=>rc T 10 (k [] J M5 H (vX.c ·) (λv1 H=>ro T 14 (cd J H (λH=>?_) (λH=>?_)))))
 ·refine rc T 7 ?_
  cases H;exact p0 T J [0] J
 refine rc T 9 (k [] J ru H (gG.c ·) (λv2 H=>k [] J FN H (qR.c ·) (λv3 H=>ro T 20 ?_)))
 cases H;exact p0 T J [0] J
def p_.l0:Nat->Int->Int->Int->Int->Int->Option Int
 |0,_,_,_,_,_=>none
 |k7+1,w,h,a,b,x6=>if x6<=4 then((l8.f w h a x6).bind λv8=>if(v8==b)=true then(some x6) else(p_.l0 k7 w h a b (aa (x6+1)))) else(some 5)
def p_.f (w:Int) (h:Int) (a:Int) (b:Int):Option Int:=((vY.f w h a).bind λv3=>if(!v3)=true then(some true) else((vY.f w h b).bind λv4=>some (!v4))).bind λx1=>if x1=true then(some 5) else(p_.l0 fuel w h a b 0)
theorem p_.c (H:p_.f w h a b=some r):
 QU 178 [(ii w),(ii h),(ii a),(ii b)] [] F (ii r):=by
 unfold p_.f at H;refine aB Tryz.func178 J J (λW=>rc T 6 (mq H [0,1,2,3] [0] (λz2 (x1:Bool)=>(x1=z2,[(21,(bb x1))],[])) J J (λz2 Z1 _=>?_) ?_))
 ·refine rc T 4 (k [] J M7 Z1 (vY.c ·) (λv3 Z1=>ro T 2 (ab 15 J Z1 (λZ1=>?_) (λZ1=>?_))))
  ·refine ro T 8 (am _ [0] (oi Z1) J J)
  refine ro T 3 (k [] J M7 Z1 (vY.c ·) (λv4 Z1=>ro T 4 (am _ [0] (oi Z1) J J)))
 rintro _ x1 rfl H;refine cb J H (λH=>?_) (λH=>?_)
 ·refine rc T 7 ?_
  cases H;exact p0 T J [0] J
 refine rc T 9 (lq [0,1,2,3] [0] (λ(⟨k7,x6⟩:Nat×Int)=>(p_.l0 k7 w h a b x6=some r,[(9,(ii x6))],[])) J J (fuel,0) [0] H J J ?_);rintro k7 x6 Z6;replace Z6:p_.l0 (k7+1) w h a b x6=some r:=Z6;rw[p_.l0] at Z6;refine rc T 7 (cd J Z6 (λZ6=>?_) (λZ6=>?_))
 ·refine rc T 10 (k [] J Ab Z6 (l8.c ·) (λv8 Z6=>ro T 4 (cb J Z6 (λZ6=>?_) (λZ6=>?_))))
  ·refine rc T 12 ?_
   cases Z6;exact p0 T J [0] J
  refine rc T 9 (ar _ [0] Z6 J J)
 refine rc T 11 ?_
 cases Z6;exact p0 T J [0] J
end
noncomputable section
def Bu.f (w:Int) (h:Int):Option Int:=(p9.f w h).bind λv1=>some (aa (v1.1*v1.2))
theorem Bu.c (H:Bu.f w h=some r):
 QU 191 [(ii w),(ii h)] [] F (ii r):=by
 unfold Bu.f at H;refine aB Tryz.func191 J J (λW=>rc T 9 (k [] J FR H (p9.c ·) (λv1 H=>ro T 16 ?_)))
 cases H;exact p0 T J [0] J
def nX.l0:Nat->aJ->aJ->Int->List Int->Int->Option (List Int)
 |0,_,_,_,_,_=>none
 |k6+1,m,t,v1,x4,x5=>if x5<t.H then(if(0<=(aa (v1+(aa (x5*m.W))))/\(aa (v1+(aa (x5*m.W))))<=(List.length x4:Int)/\(List.length x4:Int)<=(List.length x4:Int)) then(if(0<=(aa (x5*t.W))/\(aa (x5*t.W))<=(aa ((aa (x5+1))*t.W))/\(aa ((aa (x5+1))*t.W))<=(List.length t.C:Int)) then(nX.l0 k6 m t v1 (cg x4 (Int.toNat (aa (v1+(aa (x5*m.W))))) (min (List.length (aA t.C (aa (x5*t.W)) (aa ((aa (x5+1))*t.W)))) (List.length (aA x4 (aa (v1+(aa (x5*m.W)))) (List.length x4:Int)))) (aA t.C (aa (x5*t.W)) (aa ((aa (x5+1))*t.W)))) (aa (x5+1))) else none) else none) else(some x4)
def nX.f (m:aJ) (bB:Int) (t:aJ):Option (List Int):=(tm.f m.W m.H bB 0).bind λv1=>nX.l0 fuel m t v1 m.C 0
def nX.R (aiR:Option Addr) (aiY:Nat) (aiW:Nat) (r:(List Int)) (u:Value) (G:List Hp):Prop:= ∃(H0:Hp),ak (Fl.int .u8) 5 r aiR aiY H0/\List.length r=aiW/\u=(.tuple #[])/\G=[H0]
theorem nX.c (H:nX.f m bB t=some r) (ahv:ak (Fl.int .u8) 5 m.C oE oo Pw) (dM:aT (Fl.int .u8) t.C iv F) (fg:List.length t.C<=iB):
 QR 193 [(.agg #[(ii m.W),(ii m.H),(ll oE m.C oo)]),(ii bB),(.agg #[(ii t.W),(ii t.H),(ll iv t.C iB)])] [Pw] [] F (nX.R oE oo (List.length m.C) r):=by
 unfold nX.f at H;refine aB Tryz.func193 J J (λW=>rc T 2 (nc T J (λb2=>nc T J (λb3=>ro T 5 (lf T 2 J (ro T 1 (lf T 2 J (ro T 1 (k [] J Je H (tm.c ·) (λv1 H=>ro T 6 (lf T 3 J (ro T 4 (lq [3,5,6,15] [1,2] (λ(⟨k6,x4,x5,H5⟩:Nat×List Int×Int×Hp)=>(nX.l0 k6 m t v1 x4 x5=some r/\ak (Fl.int .u8) 5 x4 oE oo H5/\List.length x4=List.length m.C,[(16,(ii x5))],[(cl b2 30 [(ii m.W),(ii m.H),(ll oE x4 oo)]),H5])) J J (fuel,m.C,0,Pw) [1,2,1,0] ⟨H,ahv,J⟩ J J ?_)))))))))))));rintro k6 ⟨x4,x5,H5⟩ ⟨Z2,s5,l5⟩;rw[nX.l0] at Z2;refine rc T 6 (cd J Z2 (λZ2=>?_) (λZ2=>?_))
 ·refine rc T 10 (fz J (rz [21] mix (bO bN) (λhg pf=>ha T 21 [0] sz hg pf J (av 1 sz hg pf J (aw T J J J J (aF (j:=2) J J)) (ha T 17 [2,3,4] sz hg pf J (av 5 sz hg pf J (aw T J J J J (aF (j:=2) J J)) (ha T 14 [6,7] sz hg pf J ?_)))))));obtain⟨c4,Z2⟩:=az Z2;refine av 8 sz hg pf J (kt T J J J J J J c4 s5.bV) (ha T 12 [9] sz hg pf J (av 10 sz hg pf J (aw T J J J J (aF (j:=1) J J)) (ha T 9 [11,12] sz hg pf J (av 13 sz hg pf J (aw T J J J J (aF (j:=1) J J)) (ha T 4 [14,15,16,17] sz hg pf J (av 18 sz hg pf J (aw T J J J J (aF (j:=1) J J)) (ha T 2 [19] sz hg pf J ?_)))))));obtain⟨c5,Z2⟩:=az Z2;refine av 20 sz hg pf J (kt T J J J J J J c5 fg) (ao 21 ?_);have L6:(Int.toNat (aa (v1+(aa (x5*m.W)))))+(List.length (aA x4 (aa (v1+(aa (x5*m.W)))) (List.length x4:Int)))<=List.length x4:=(Hz c4);refine Bt (k:=(Fl.int .u8)) (xs:=x4) (ys:=(aA t.C (aa (x5*t.W)) (aa ((aa (x5+1))*t.W)))) (lo:=(Int.toNat (aa (v1+(aa (x5*m.W)))))) (g:=3) T J J J J J J J J s5 (mQ (rO dM 0) c5 fg) (.inr J) L6 (λH6 s6=>?_);have V7:(0<=(aa (v1+(aa (x5*m.W))))/\(aa (v1+(aa (x5*m.W))))<=(List.length x4:Int)/\(List.length x4:Int)<=(List.length (cg x4 (Int.toNat (aa (v1+(aa (x5*m.W))))) (min (List.length (aA t.C (aa (x5*t.W)) (aa ((aa (x5+1))*t.W)))) (List.length (aA x4 (aa (v1+(aa (x5*m.W)))) (List.length x4:Int)))) (aA t.C (aa (x5*t.W)) (aa ((aa (x5+1))*t.W)))):Int)):=by simp only[lO L6];exact c4
  refine kg [3,5,6,7,15,16,19,21,22,23,24,25,26,28,29,30,31,32,33,34,35,36,37,38,39,40] [0,0,1] [0,0,1,0] [(20,(ll oE (cg x4 (Int.toNat (aa (v1+(aa (x5*m.W))))) (min (List.length (aA t.C (aa (x5*t.W)) (aa ((aa (x5+1))*t.W)))) (List.length (aA x4 (aa (v1+(aa (x5*m.W)))) (List.length x4:Int)))) (aA t.C (aa (x5*t.W)) (aa ((aa (x5+1))*t.W)))) oo)),(27,(ll (fU oE oo (Int.toNat (aa (v1+(aa (x5*m.W))))) 1) (aA (cg x4 (Int.toNat (aa (v1+(aa (x5*m.W))))) (min (List.length (aA t.C (aa (x5*t.W)) (aa ((aa (x5+1))*t.W)))) (List.length (aA x4 (aa (v1+(aa (x5*m.W)))) (List.length x4:Int)))) (aA t.C (aa (x5*t.W)) (aa ((aa (x5+1))*t.W)))) (aa (v1+(aa (x5*m.W)))) (List.length x4:Int)) (oo-Int.toNat (aa (v1+(aa (x5*m.W)))))))] [(cl b2 30 [(ii m.W),(ii m.H),(ll oE (cg x4 (Int.toNat (aa (v1+(aa (x5*m.W))))) (min (List.length (aA t.C (aa (x5*t.W)) (aa ((aa (x5+1))*t.W)))) (List.length (aA x4 (aa (v1+(aa (x5*m.W)))) (List.length x4:Int)))) (aA t.C (aa (x5*t.W)) (aa ((aa (x5+1))*t.W)))) oo)])] J J ⟨(by first |rfl |(simp only[ll,lO L6];rfl)),(by simp only[ll];rw[iP V7,<-iP c4];rfl),trivial⟩ (by first |rfl |(simp only[ll,lO L6];rfl)) (an sl (ae (rx T 7 ?_)))
  exact ar (_,_,_) [0,0,1,0] ⟨Z2,s6,(Eq.trans (lO L6) l5)⟩ J J
 refine rc T 4 (jd ?_)
 cases Z2;exact p1 T J [3,0] ⟨H5,s5,l5,J,J⟩ J
def oI.l0:Nat->(List Int)->Int->List Int->List Int->Int->Option (aJ×Er)
 |0,_,_,_,_,_=>none
 |k9+1,b,v2,x6,x7,x8=>if x8<v2 then((qR.f (aa (BitVec.toNat (BitVec.ofInt (IntKind.bits .i64) (aa (rd b 0))|||BitVec.ofInt (IntKind.bits .i64) (aa ((aa (rd b 1))*2^8))))) (aa (BitVec.toNat (BitVec.ofInt (IntKind.bits .i64) (aa (rd b 2))|||BitVec.ofInt (IntKind.bits .i64) (aa ((aa (rd b 3))*2^8))))) x8).bind λv10=>(qF.f x6 v10.1 v10.2).bind λv11=>if(v11.2.2 !=0)=true then(some ((aJ.mk 0 0 []),(Er.wrap 301 [x8] (Er.num 243 v11.2.2)))) else((nX.f (aJ.mk (aa (BitVec.toNat (BitVec.ofInt (IntKind.bits .i64) (aa (rd b 0))|||BitVec.ofInt (IntKind.bits .i64) (aa ((aa (rd b 1))*2^8))))) (aa (BitVec.toNat (BitVec.ofInt (IntKind.bits .i64) (aa (rd b 2))|||BitVec.ofInt (IntKind.bits .i64) (aa ((aa (rd b 3))*2^8))))) x7) x8 v11.1).bind λv12=>if(0<=v11.2.1/\v11.2.1<=(List.length x6:Int)/\(List.length x6:Int)<=(List.length x6:Int)) then(oI.l0 k9 b v2 (aA x6 v11.2.1 (List.length x6:Int)) v12 (aa (x8+1))) else none)) else(if(List.length x6:Int)>0 then(some ((aJ.mk 0 0 []),(Er.num 243 3))) else(some ((aJ.mk (aa (BitVec.toNat (BitVec.ofInt (IntKind.bits .i64) (aa (rd b 0))|||BitVec.ofInt (IntKind.bits .i64) (aa ((aa (rd b 1))*2^8))))) (aa (BitVec.toNat (BitVec.ofInt (IntKind.bits .i64) (aa (rd b 2))|||BitVec.ofInt (IntKind.bits .i64) (aa ((aa (rd b 3))*2^8))))) x7),Er.nil)))
def oI.f (b:(List Int)):Option (aJ×Er):=if(List.length b:Int)<4 then(some ((aJ.mk 0 0 []),(Er.num 243 2))) else(if(0<=(0:Int)/\(0:Int)<(List.length b:Int)) then(if(0<=(1:Int)/\(1:Int)<(List.length b:Int)) then(if(0<=(2:Int)/\(2:Int)<(List.length b:Int)) then(if(0<=(3:Int)/\(3:Int)<(List.length b:Int)) then((nR.f (aa (BitVec.toNat (BitVec.ofInt (IntKind.bits .i64) (aa (rd b 0))|||BitVec.ofInt (IntKind.bits .i64) (aa ((aa (rd b 1))*2^8))))) (aa (BitVec.toNat (BitVec.ofInt (IntKind.bits .i64) (aa (rd b 2))|||BitVec.ofInt (IntKind.bits .i64) (aa ((aa (rd b 3))*2^8)))))).bind λv1=>if(!v1)=true then(some ((aJ.mk 0 0 []),(Er.num 243 3))) else(if(0<=(4:Int)/\(4:Int)<=(List.length b:Int)/\(List.length b:Int)<=(List.length b:Int)) then(if(0<=(aa ((aa (BitVec.toNat (BitVec.ofInt (IntKind.bits .i64) (aa (rd b 0))|||BitVec.ofInt (IntKind.bits .i64) (aa ((aa (rd b 1))*2^8)))))*(aa (BitVec.toNat (BitVec.ofInt (IntKind.bits .i64) (aa (rd b 2))|||BitVec.ofInt (IntKind.bits .i64) (aa ((aa (rd b 3))*2^8)))))))/\(aa ((aa (BitVec.toNat (BitVec.ofInt (IntKind.bits .i64) (aa (rd b 0))|||BitVec.ofInt (IntKind.bits .i64) (aa ((aa (rd b 1))*2^8)))))*(aa (BitVec.toNat (BitVec.ofInt (IntKind.bits .i64) (aa (rd b 2))|||BitVec.ofInt (IntKind.bits .i64) (aa ((aa (rd b 3))*2^8)))))))<=1099511627776) then((Bu.f (aa (BitVec.toNat (BitVec.ofInt (IntKind.bits .i64) (aa (rd b 0))|||BitVec.ofInt (IntKind.bits .i64) (aa ((aa (rd b 1))*2^8))))) (aa (BitVec.toNat (BitVec.ofInt (IntKind.bits .i64) (aa (rd b 2))|||BitVec.ofInt (IntKind.bits .i64) (aa ((aa (rd b 3))*2^8)))))).bind λv2=>oI.l0 fuel b v2 (aA b 4 (List.length b:Int)) (List.replicate (Int.toNat (aa ((aa (BitVec.toNat (BitVec.ofInt (IntKind.bits .i64) (aa (rd b 0))|||BitVec.ofInt (IntKind.bits .i64) (aa ((aa (rd b 1))*2^8)))))*(aa (BitVec.toNat (BitVec.ofInt (IntKind.bits .i64) (aa (rd b 2))|||BitVec.ofInt (IntKind.bits .i64) (aa ((aa (rd b 3))*2^8)))))))) (0:Int)) 0) else none) else none)) else none) else none) else none) else none)
def oI.R (el:Nat->Addr) (r:(aJ×Er)) (u:Value) (G:List Hp):Prop:= ∃(a0:Option Addr) (n0:Nat) (H0:Hp) (v1:Value) (H1:Hp),ak (Fl.int .u8) 5 r.1.C a0 n0 H0/\fW 414 el r.2 v1 H1/\u=(.tuple #[(.agg #[(ii r.1.W),(ii r.1.H),(ll a0 r.1.C n0)]),v1])/\G=[H0,H1]
theorem oI.c (H:oI.f b=some r) (hG:fL 414 eZ hU el F) (g_:aT (Fl.int .u8) b jX F) (gm:List.length b<=jL):
 QR 147 [(ll jX b jL)] [] [] F (oI.R el r):=by
 unfold oI.f at H;refine aB Tryz.func147 J J (λW=>rc T 2 (nc T J (λb1=>ro T 11 (cd J H (λH=>?_) (λH=>?_)))))
 ·refine rc T 3 (br J (gZ T J J J J) (sg T 1 J (ro T 5 ?_)))
  cases H;refine bq (bq (pb T J (.cO (j:=1) [(ii 0),(ii 0),nl] J J J J J J J (.tmp J .nil)) [2,2,0] ⟨(_,_),none,0,[],(.iface 243 (ii 2)),[],ak.nil,rk,J,J⟩ J J))
 refine rc T 3 (ks [0,2] J (fz J (rg [] [0,0] mix (bO bN) (λhg pf=>ha T 22 [0] sz hg pf J ?_))));obtain⟨c2,H⟩:=az H;obtain⟨q4,o4,e4⟩:=g_.addr c2.1 c2.2;refine av 1 sz hg pf J (cn T J J J J J e4 c2.1 c2.2) (av 2 sz hg pf J (aw T J J J J (e_ (k:=(Fl.int .u8)) (rO g_ 0) e4 c2 0 J)) (ha T 18 [3,4] sz hg pf J ?_));obtain⟨c3,H⟩:=az H;refine av 5 sz hg pf J (cn T J J J J J e4 c3.1 c3.2) (av 6 sz hg pf J (aw T J J J J (e_ (k:=(Fl.int .u8)) (rO g_ 0) e4 c3 0 J)) (ha T 12 [7,8,9,10] sz hg pf J ?_));obtain⟨c4,H⟩:=az H;refine av 11 sz hg pf J (cn T J J J J J e4 c4.1 c4.2) (av 12 sz hg pf J (aw T J J J J (e_ (k:=(Fl.int .u8)) (rO g_ 0) e4 c4 0 J)) (ha T 8 [13,14] sz hg pf J ?_));obtain⟨c5,H⟩:=az H;refine av 15 sz hg pf J (cn T J J J J J e4 c5.1 c5.2) (av 16 sz hg pf J (aw T J J J J (e_ (k:=(Fl.int .u8)) (rO g_ 0) e4 c5 0 J)) (ha T 2 [17,18,19,20] sz hg pf J (ao 21 (nw T J (λb5=>an (so [0,0]) (ao 22 (sf T 2 J (an (so [0,0]) (ae (rx T 5 (lf T 2 J (ro T 1 (lf T 2 J (k [] J BQ H (nR.c ·) (λv1 H=>ro T 3 (cb J H (λH=>?_) (λH=>?_)))))))))))))))))
 ·refine rc T 3 (br J (gZ T J J J J) (sg T 1 J (ro T 5 ?_)))
  cases H;refine bq (bq (pb T J (.cO (j:=1) [(ii 0),(ii 0),nl] J J J J J J J (.tmp J .nil)) [3,3,0] ⟨(_,_),none,0,[],(.iface 243 (ii 3)),[],ak.nil,rk,J,J⟩ J J))
 refine rc T 5 ?_;obtain⟨c8,H⟩:=az H;refine br J (kt T J J J J J J c8 gm) (ro T 6 (lf T 2 J (ro T 1 (lf T 2 J (ro T 1 ?_)))));obtain⟨c9,H⟩:=az H;refine aX (x_ (k:=(Fl.int .u8)) T (0:Int) J J J J J J J J c9 J (λa8 n8 H8 s8=>ro T 1 (sg T 2 J (ro T 6 (lf T 2 J (ro T 1 (lf T 2 J (k [] J acm H (Bu.c ·) (λv2 H=>ro T 4 (lq [2,4,58] [0,0] (λ(⟨k9,x6,x7,x8,du,n11,a12,n12,dt⟩:Nat×List Int×List Int×Int×Option Addr×Nat×Option Addr×Nat×Hp)=>(oI.l0 k9 b v2 x6 x7 x8=some r/\dr (Fl.int .u8) b jX jL x6 du n11/\List.length x6<=n11/\ak (Fl.int .u8) 5 x7 a12 n12 dt,[(0,(ll du x6 n11)),(59,(ii x8))],[(cl b5 30 [(ii (aa (BitVec.toNat (BitVec.ofInt (IntKind.bits .i64) (aa (rd b 0))|||BitVec.ofInt (IntKind.bits .i64) (aa ((aa (rd b 1))*2^8)))))),(ii (aa (BitVec.toNat (BitVec.ofInt (IntKind.bits .i64) (aa (rd b 2))|||BitVec.ofInt (IntKind.bits .i64) (aa ((aa (rd b 3))*2^8)))))),(ll a12 x7 n12)]),dt])) J J (fuel,(aA b 4 (List.length b:Int)),(List.replicate (Int.toNat (aa ((aa (BitVec.toNat (BitVec.ofInt (IntKind.bits .i64) (aa (rd b 0))|||BitVec.ofInt (IntKind.bits .i64) (aa ((aa (rd b 1))*2^8)))))*(aa (BitVec.toNat (BitVec.ofInt (IntKind.bits .i64) (aa (rd b 2))|||BitVec.ofInt (IntKind.bits .i64) (aa ((aa (rd b 3))*2^8)))))))) (0:Int)),0,(fU jX jL (Int.toNat 4) 1),(jL-Int.toNat 4),a8,n8,H8) [0,0,0,0] ⟨H,(dr.sub dr.self gm c8),(mr c8 gm),s8⟩ J J ?_))))))))))
 rintro k9 ⟨x6,x7,x8,du,n11,a12,n12,dt⟩ ⟨bc,yc,zL,dw⟩;rw[oI.l0] at bc;refine rc T 6 (cd J bc (λbc=>?_) (λbc=>?_))
 ·refine rc T 13 (lf T 2 J (ro T 1 (lf T 2 J (ro T 1 (k [] J FN bc (qR.c ·) (λv10 bc=>ro T 12 (kr (qF.R el) [] [] J acn bc (qF.c · (dF hG (j:=0) J) (nY yc (rO g_ 0) gm) zL) (λv11 bc=>?_))))))));rintro _ _ ⟨dD,n13,ei,cz,rfl,rfl⟩;refine fz J (ro T 4 (nc T J (λIE=>sg T 5 J (ro T 11 (cb J bc (λbc=>?_) (λbc=>?_))))))
  ·refine rc T 5 (br J (gZ T J J J J) (ro T 1 (nc T J (λmZ=>bq (gi [6,6] J (br J (gZ T J J J J) (sg T 1 J (ro T 10 ?_))))))))
   cases bc;refine bq (pb T J (.cO (j:=1) [(ii 0),(ii 0),nl] J J J J J J J (.tmp J .nil)) [7,6,0] ⟨(_,_),none,0,[],(.iface 301 (pp mZ)),(List.flatten [(cl mZ 303 [(ii x8),(.iface 243 (ii v11.2.2))]),[]]),ak.nil,(pL rk),J,J⟩ J J)
  refine rc T 4 (lm T 2 J (ro T 1 (lm T 5 J (kr (nX.R a12 n12 (List.length x7)) [] [3] J aco bc (nX.c (m:=(aJ.mk (aa (BitVec.toNat (BitVec.ofInt (IntKind.bits .i64) (aa (rd b 0))|||BitVec.ofInt (IntKind.bits .i64) (aa ((aa (rd b 1))*2^8))))) (aa (BitVec.toNat (BitVec.ofInt (IntKind.bits .i64) (aa (rd b 2))|||BitVec.ofInt (IntKind.bits .i64) (aa ((aa (rd b 3))*2^8))))) x7)) · dw (oO cz 3) cz.bV) (λv12 bc=>?_)))))
  rintro _ _ ⟨kJ,gT,l19,rfl,rfl⟩;refine fz J (kg [0,2,4,9,58,59] [0,0,3] [0,0,3,0] [] [(cl b5 30 [(ii (aa (BitVec.toNat (BitVec.ofInt (IntKind.bits .i64) (aa (rd b 0))|||BitVec.ofInt (IntKind.bits .i64) (aa ((aa (rd b 1))*2^8)))))),(ii (aa (BitVec.toNat (BitVec.ofInt (IntKind.bits .i64) (aa (rd b 2))|||BitVec.ofInt (IntKind.bits .i64) (aa ((aa (rd b 3))*2^8)))))),(ll a12 v12 n12)])] J J trivial (by first |rfl |(simp only[ll,l19];rfl)) (ro T 5 ?_))
  obtain⟨lz,bc⟩:=az bc;refine br J (kt T J J J J J J lz zL) (ro T 9 (ar (_,_,_,_,_,_,_,_) [0,0,1,0] ⟨bc,(dr.sub yc gm lz),(mr lz zL),gT⟩ J J))
 refine rc T 13 (cd J bc (λbc=>?_) (λbc=>?_))
 ·refine rc T 3 (br J (gZ T J J J J) (sg T 1 J (ro T 5 ?_)))
  cases bc;refine bq (bq (pb T J (.cO (j:=1) [(ii 0),(ii 0),nl] J J J J J J J (.tmp J .nil)) [4,4,0] ⟨(_,_),none,0,[],(.iface 243 (ii 3)),[],ak.nil,rk,J,J⟩ J J))
 refine rc T 4 (lm T 2 J (sg T 1 J (ro T 4 ?_)))
 cases bc;refine bq (pb T J (.cO (j:=1) [(ii (aa (BitVec.toNat (BitVec.ofInt (IntKind.bits .i64) (aa (rd b 0))|||BitVec.ofInt (IntKind.bits .i64) (aa ((aa (rd b 1))*2^8)))))),(ii (aa (BitVec.toNat (BitVec.ofInt (IntKind.bits .i64) (aa (rd b 2))|||BitVec.ofInt (IntKind.bits .i64) (aa ((aa (rd b 3))*2^8)))))),(ll a12 x7 n12)] J J J J J J J (.tmp J .nil)) [3,3,0] ⟨(_,_),a12,n12,dt,.nilIface,[],dw,tA,J,J⟩ J J)
def wu.f (b:(List Int)):Option (aJ×Int):=(oI.f b).bind λv1=>(yl.f v1.2).bind λv2=>if(Option.isSome v2)=true then(some ((aJ.mk 0 0 []),(Option.getD v2 0))) else(some (v1.1,0))
def wu.R (el:Nat->Addr) (r:(aJ×Int)) (u:Value) (G:List Hp):Prop:= ∃(a0:Option Addr) (n0:Nat) (H0:Hp),ak (Fl.int .u8) 5 r.1.C a0 n0 H0/\u=(.tuple #[(.agg #[(ii r.1.W),(ii r.1.H),(ll a0 r.1.C n0)]),(ii r.2)])/\G=[H0]
theorem wu.c (H:wu.f b=some r) (hG:fL 414 eZ hU el F) (g_:aT (Fl.int .u8) b jX F) (gm:List.length b<=jL):
 QR 114 [(ll jX b jL)] [] [] F (wu.R el r):=by
 unfold wu.f at H;refine aB Tryz.func114 J J (λW=>rc T 2 (nc T J (λb1=>ro T 6 (kr (oI.R el) [] [] J ab1 H (oI.c · (dF hG (j:=0) J) (rO g_ 0) gm) (λv1 H=>?_)))));rintro _ _ ⟨a2,n2,H2,v3,H3,s2,s3,rfl,rfl⟩;refine fz J (ro T 3 (nc T J (λb4=>sg T 4 J (ro T 6 (nc T J (λb5=>sg T 5 J (ro T 1 (ks [2,4,5,6] J (rx T 4 (br J (gZ T J J J J) ?_))))))))));obtain⟨v2,V2,H⟩:=gj H;refine aX (rY (As:=[(cl b5 243 [(ii 0)])]) (R:=[F,(cl b1 30 [(ii 0),(ii 0),nl]),H2,H3,(cl b4 30 [(ii v1.1.W),(ii v1.1.H),(ll a2 v1.1.C n2)])]) (B:=λ_=>[(cl b5 243 [(ii (Option.getD v2 0))])]) [5] J J J J Jp J J (yl.c v1.2 v2 _ V2 (dF hG (j:=0) J) (rl s3 (j:=3) J)) (λ_=>ro T 2 (cb J H (λH=>?_) (λH=>?_))))
 ·refine rc T 1 (ke [2,6] [0,0,3] J J (fz J (rz [] mix (bO bN) (λhg pf=>ha T 3 [0] sz hg pf J (av 1 sz hg pf J (aw T J J J J (aF (j:=2) J J)) (ao 2 (sf T 1 J (an sz (ha T 0 [3] sz hg pf J (ae (rx T 1 (rc T 2 ?_))))))))))))
  cases H;refine bq (pb T J (.cO (j:=1) [(ii 0),(ii 0),nl] J J J J J J J (.tmp J .nil)) [3,0] ⟨(_,_),none,0,[],ak.nil,J,J⟩ J J)
 refine rc T 4 (lm T 4 J (sg T 1 J (ro T 4 ?_)))
 cases H;exact pb T J (.cO (j:=1) [(ii v1.1.W),(ii v1.1.H),(ll a2 v1.1.C n2)] J J J J J J J (.tmp J .nil)) [2,0] ⟨(_,_),a2,n2,H2,s2,J,J⟩ J J
def yb.f (m:aJ):Option Bool:=((nR.f m.W m.H).bind λv3=>if v3=true then(if((List.length m.C:Int)==(aa (m.W*m.H)))=true then((vQ.f m.C 0).bind λv4=>some (!v4)) else(some false)) else(some false)).bind λx1=>some x1
theorem yb.c (H:yb.f m=some r) (sv:aT (Fl.int .u8) m.C oE F) (uI:List.length m.C<=oo):
 QU 148 [(.agg #[(ii m.W),(ii m.H),(ll oE m.C oo)])] [] F (bb r):=by
 unfold yb.f at H;refine aB Tryz.func148 J J (λW=>rc T 2 (nc T J (λb1=>ro T 3 (mq H [] [0] (λz2 (x1:Bool)=>(x1=z2,[(2,(bb x1))],[])) J J (λz2 Z1 _=>?_) ?_))))
 ·refine rc T 2 (lf T 1 J (ro T 1 (lf T 1 J (k [] J BQ Z1 (nR.c ·) (λv3 Z1=>ro T 1 (ab 8 J Z1 (λZ1=>?_) (λZ1=>?_)))))))
  ·refine ro T 1 (lf T 1 J (ro T 2 (lf T 1 J (ro T 1 (lf T 1 J (ro T 4 (ab 19 J Z1 (λZ1=>?_) (λZ1=>?_))))))))
   ·refine ro T 1 (lf T 1 J (k [] J MR Z1 (vQ.c · (rO sv 0) uI) (λv4 Z1=>ro T 5 (am _ [0] (oi Z1) J J))))
   refine ro T 8 (am _ [0] (oi Z1) J J)
  refine ro T 19 (am _ [0] (oi Z1) J J)
 rintro _ x1 rfl H;refine rc T 1 ?_
 cases H;exact p0 T J [0] J
end
noncomputable section
def ss.f (cells:Int):Option (Option fk):=if((decide (cells<1))||(decide (cells>1048576)))=true then(some none) else(if(0<=cells/\cells<=1099511627776) then(some (some (fk.mk (List.replicate (Int.toNat cells) (0:Int)) 0))) else none)
def ss.R (r:(Option fk)) (u:Value) (G:List Hp):Prop:= ∃(u0:Value) (G0:List Hp),Xh r u0 G0/\u=u0/\G=G0
theorem ss.c (H:ss.f cells=some r):
 QR 153 [(ii cells)] [] [] F (ss.R r):=by
 unfold ss.f at H;refine aB Tryz.func153 J J (λW=>rc T 11 (go T [3,4,5] 5 [0] 8 J J J J J J J (ro T 2 (cb J H (λH=>?_) (λH=>?_)))))
 ·refine rc T 7 ?_
  cases H;exact p1 T J [0] ⟨_,_,⟨J,J⟩,J,J⟩ J
 refine rc T 5 ?_;obtain⟨c2,H⟩:=az H;refine aX (x_ (k:=(Fl.int .u32)) T (0:Int) J J J J J J J J c2 J (λa1 n1 H1 s1=>ro T 1 (nc T J (λb2=>ro T 4 ?_))))
 cases H;exact p1 T J [2,1,0] ⟨_,_,⟨b2,a1,n1,H1,s1,J,J⟩,J,J⟩ J
def yn.f (ag:fk) (cell:Int):Option Bool:=(if cell≥0 then(some (decide (cell<(List.length ag.words:Int)))) else(some false)).bind λx1=>some x1
theorem yn.c (H:yn.f ag cell=some r) (j8:ak (Fl.int .u32) 65 ag.words mf ml oB):
 QU 195 [(pp aW),(ii cell)] [(cl aW 221 [(ll mf ag.words ml),(ii ag.count)]),oB] F (bb r):=by
 unfold yn.f at H;refine aB Tryz.func195 J J (λW=>rc T 5 (mq H [] [2,0,0] (λz2 (x1:Bool)=>(x1=z2,[(4,(bb x1))],[])) J J (λz2 Z1 _=>?_) ?_))
 ·refine rc T 8 (ad 11 J Z1 (λZ1=>?_) (λZ1=>?_))
  ·refine ro T 4 (lf T 0 J (ro T 6 (am _ [2,0,0] (oi Z1) J J)))
  refine ro T 11 (am _ [2,0,0] (oi Z1) J J)
 rintro _ x1 rfl H;refine rc T 1 ?_
 cases H;exact p0 T J [1,1,0] J
def qq.f (ag:fk) (cell:Int):Option Int:=(yn.f ag cell).bind λv1=>if(!v1)=true then(some (-1)) else(if(0<=cell/\cell<(List.length ag.words:Int)) then(some (aa ((aa (rd ag.words cell))-1))) else none)
theorem qq.c (H:qq.f ag cell=some r) (j8:ak (Fl.int .u32) 65 ag.words mf ml oB):
 QU 154 [(pp aW),(ii cell)] [(cl aW 221 [(ll mf ag.words ml),(ii ag.count)]),oB] F (ii r):=by
 unfold qq.f at H;refine aB Tryz.func154 J J (λW=>rc T 10 (k [0,0] J Sw H (yn.c · j8) (λv1 H=>ro T 3 (cb J H (λH=>?_) (λH=>?_)))))
 ·refine rc T 7 ?_
  cases H;exact p0 T J [0,0,0] J
 refine rc T 7 (lf T 0 J (ro T 1 ?_));obtain⟨c3,H⟩:=az H;obtain⟨q3,o3,e3⟩:=j8.r.addr c3.1 c3.2;refine ix T J e3 c3 (le T 0 (oO j8 1) e3 c3 J J (ro T 6 ?_))
 cases H;exact p0 T J [0,0,0] J
def ym.f (ag:fk) (cell:Int):Option Bool:=((yn.f ag cell).bind λv3=>if v3=true then(if(0<=cell/\cell<(List.length ag.words:Int)) then(some ((rd ag.words cell)==0)) else none) else(some false)).bind λx1=>some x1
theorem ym.c (H:ym.f ag cell=some r) (j8:ak (Fl.int .u32) 65 ag.words mf ml oB):
 QU 196 [(pp aW),(ii cell)] [(cl aW 221 [(ll mf ag.words ml),(ii ag.count)]),oB] F (bb r):=by
 unfold ym.f at H;refine aB Tryz.func196 J J (λW=>rc T 5 (mq H [] [2,0,0] (λz2 (x1:Bool)=>(x1=z2,[(4,(bb x1))],[])) J J (λz2 Z1 _=>?_) ?_))
 ·refine rc T 3 (k [0,0] J Sw Z1 (yn.c · j8) (λv3 Z1=>ro T 1 (ab 8 J Z1 (λZ1=>?_) (λZ1=>?_))))
  ·refine ro T 3 (lf T 0 J (ro T 1 ?_));obtain⟨c4,Z1⟩:=az Z1;obtain⟨q3,o3,e3⟩:=j8.r.addr c4.1 c4.2;refine ix T J e3 c4 (le T 0 (oO j8 1) e3 c4 J J (ro T 5 (am _ [2,0,0] (oi Z1) J J)))
  refine ro T 12 (am _ [2,0,0] (oi Z1) J J)
 rintro _ x1 rfl H;refine rc T 1 ?_
 cases H;exact p0 T J [1,1,0] J
def sk.f (ag:fk) (cell:Int) (p2:Int):Option (Bool×fk):=(ym.f ag cell).bind λv1=>if(((!v1)||(decide (p2<0)))||(decide (p2≥4294967295)))=true then(some (false,ag)) else(if(0<=cell/\cell<(List.length ag.words:Int)) then(some (true,(fk.mk (List.set ag.words (Int.toNat cell) (Bb (aa (p2+1)))) (aa (ag.count+1))))) else none)
def sk.R (aW:Nat) (r:(Bool×fk)) (u:Value) (G:List Hp):Prop:= ∃(a0:Option Addr) (n0:Nat) (H0:Hp),ak (Fl.int .u32) 65 r.2.words a0 n0 H0/\u=(bb r.1)/\G=[(cl aW 221 [(ll a0 r.2.words n0),(ii r.2.count)]),H0]
theorem sk.c (H:sk.f ag cell p2=some r) (j8:ak (Fl.int .u32) 65 ag.words mf ml oB):
 QR 157 [(pp aW),(ii cell),(ii p2)] [(cl aW 221 [(ll mf ag.words ml),(ii ag.count)]),oB] [] F (sk.R aW r):=by
 unfold sk.f at H;refine aB Tryz.func157 J J (λW=>rc T 10 (k [0,0] J Sy H (ym.c · j8) (λv1 H=>ro T 2 (go T [5,6,7] 11 [0,1,2] 14 J J J J J J J (ro T 1 (go T [9,10,11] 15 [0,1,2] 18 J J J J J J J (ro T 2 (cb J H (λH=>?_) (λH=>?_)))))))))
 ·refine rc T 7 ?_
  cases H;exact p1 T J [0,0,0] ⟨mf,ml,oB,j8,J,J⟩ J
 refine rc T 7 (lf T 0 J (ro T 4 ?_));obtain⟨c3,H⟩:=az H;obtain⟨q3,o3,e3⟩:=j8.r.addr c3.1 c3.2;refine ix T J e3 c3 (aX (kK (k:=(Fl.int .u32)) T 1 0 (Bb (aa (p2+1))) J J J J J J j8 e3 c3 J J J (λH4 s4=>kg [0] [1,1] [1,1,0] [] [(cl aW 221 [(ll mf (List.set ag.words (Int.toNat cell) (Bb (aa (p2+1)))) ml),(ii ag.count)])] J J trivial (by first |rfl |(simp only[ll,List.length_set];rfl)) (ro T 7 (lf T 2 J (ro T 3 (sg T 2 J (ro T 8 ?_))))))))
 cases H;exact p1 T J [2,0,0] ⟨mf,ml,H4,s4,J,J⟩ J
def sm.f (ag:fk) (cell:Int):Option (Int×fk):=(qq.f ag cell).bind λv1=>if(v1 !=(-1))=true then(if(0<=cell/\cell<(List.length ag.words:Int)) then(some (v1,(fk.mk (List.set ag.words (Int.toNat cell) 0) (aa (ag.count-1))))) else none) else(some (v1,ag))
def sm.R (aW:Nat) (r:(Int×fk)) (u:Value) (G:List Hp):Prop:= ∃(a0:Option Addr) (n0:Nat) (H0:Hp),ak (Fl.int .u32) 65 r.2.words a0 n0 H0/\u=(ii r.1)/\G=[(cl aW 221 [(ll a0 r.2.words n0),(ii r.2.count)]),H0]
theorem sm.c (H:sm.f ag cell=some r) (j8:ak (Fl.int .u32) 65 ag.words mf ml oB):
 QR 160 [(pp aW),(ii cell)] [(cl aW 221 [(ll mf ag.words ml),(ii ag.count)]),oB] [] F (sm.R aW r):=by
 unfold sm.f at H;refine aB Tryz.func160 J J (λW=>rc T 9 (k [0,0] J FL H (qq.c · j8) (λv1 H=>ro T 10 (cb J H (λH=>?_) (λH=>?_)))))
 ·refine rc T 5 (lf T 0 J (ro T 1 ?_));obtain⟨c3,H⟩:=az H;obtain⟨q3,o3,e3⟩:=j8.r.addr c3.1 c3.2;refine ix T J e3 c3 (aX (kK (k:=(Fl.int .u32)) T 1 0 0 J J J J J J j8 e3 c3 J J J (λH4 s4=>kg [0,5] [1,1] [1,1,0] [] [(cl aW 221 [(ll mf (List.set ag.words (Int.toNat cell) 0) ml),(ii ag.count)])] J J trivial (by first |rfl |(simp only[ll,List.length_set];rfl)) (ro T 6 (lf T 2 J (ro T 3 (sg T 2 J (ro T 9 ?_))))))))
  cases H;exact p1 T J [2,0,0] ⟨mf,ml,H4,s4,J,J⟩ J
 refine rc T 9 ?_
 cases H;exact p1 T J [0,0,0] ⟨mf,ml,oB,j8,J,J⟩ J
def wG.f (ag:fk) (ai:Int) (p2:Int):Option (Bool×fk):=((qq.f ag ai).bind λv3=>if(v3==(-1))=true then(some true) else((ym.f ag p2).bind λv4=>some (!v4))).bind λx1=>if x1=true then(some (false,ag)) else((sm.f ag ai).bind λv5=>(sk.f v5.2 p2 v5.1).bind λv6=>some (v6.1,v6.2))
def wG.R (aW:Nat) (r:(Bool×fk)) (u:Value) (G:List Hp):Prop:= ∃(a0:Option Addr) (n0:Nat) (H0:Hp),ak (Fl.int .u32) 65 r.2.words a0 n0 H0/\u=(bb r.1)/\G=[(cl aW 221 [(ll a0 r.2.words n0),(ii r.2.count)]),H0]
theorem wG.c (H:wG.f ag ai p2=some r) (j8:ak (Fl.int .u32) 65 ag.words mf ml oB):
 QR 167 [(pp aW),(ii ai),(ii p2)] [(cl aW 221 [(ll mf ag.words ml),(ii ag.count)]),oB] [] F (wG.R aW r):=by
 unfold wG.f at H;refine aB Tryz.func167 J J (λW=>rc T 6 (mq H [0,1,2] [2,0,0] (λz2 (x1:Bool)=>(x1=z2,[(16,(bb x1))],[])) J J (λz2 Z1 _=>?_) ?_))
 ·refine rc T 3 (k [0,0] J FL Z1 (qq.c · j8) (λv3 Z1=>ro T 2 (ab 11 J Z1 (λZ1=>?_) (λZ1=>?_))))
  ·refine ro T 7 (am _ [2,0,0] (oi Z1) J J)
  refine ro T 2 (k [0,0] J Sy Z1 (ym.c · j8) (λv4 Z1=>ro T 4 (am _ [2,0,0] (oi Z1) J J)))
 rintro _ x1 rfl H;refine cb J H (λH=>?_) (λH=>?_)
 ·refine rc T 7 ?_
  cases H;exact p1 T J [1,1,0] ⟨mf,ml,oB,j8,J,J⟩ J
 refine rc T 8 (kr (sm.R aW) [] [1,1] J Sq H (sm.c · j8) (λv5 H=>?_));rintro _ _ ⟨a3,n3,H3,s3,rfl,rfl⟩;refine fz J (kr (sk.R aW) [] [1,1] J Sp H (sk.c · s3) (λv6 H=>?_));rintro _ _ ⟨a4,n4,H4,s4,rfl,rfl⟩;refine fz J (ro T 4 ?_)
 cases H;exact p1 T J [1,1,0] ⟨a4,n4,H4,s4,J,J⟩ J
def wH.f (ag:fk):Option (List Int):=(zj.f ag.words).bind λv1=>some v1
def wH.R (r:(List Int)) (u:Value) (G:List Hp):Prop:= ∃(a0:Option Addr) (n0:Nat) (H0:Hp),ak (Fl.int .u32) 65 r a0 n0 H0/\u=(ll a0 r n0)/\G=[H0]
theorem wH.c (H:wH.f ag=some r) (j8:ak (Fl.int .u32) 65 ag.words mf ml oB):
 QR 98 [(pp aW)] [(cl aW 221 [(ll mf ag.words ml),(ii ag.count)]),oB] [(cl aW 221 [(ll mf ag.words ml),(ii ag.count)]),oB] F (wH.R r):=by
 unfold wH.f at H;refine aB Tryz.func98 J J (λW=>rc T 12 (eD J (rc T 7 (lf T 0 J (kr zj.R [] [] J abX H (zj.c · (oO j8 1) j8.bV) (λv1 H=>?_))))));rintro _ _ ⟨a3,n3,H3,s3,rfl,rfl⟩;refine fz J (ro T 4 ?_)
 cases H;exact p1 T J [3,0,0,0] ⟨a3,n3,H3,s3,J,J⟩ J
end
noncomputable section
def po.l0:Nat->Int->Int->(List aD)->Int->(List (Int×Bool))->Int->Option Bool
 |0,_,_,_,_,_,_=>none
 |k8+1,w,h,l,x5,x6,x7=>if x7<(List.length l:Int) then(if(0<=x7/\x7<(List.length l:Int)) then((if(rd l x7).Id<=x5 then(some true) else((gG.f w h ((rd l x7).Cell)).bind λv11=>if v11<0 then(some true) else((gG.f w h ((rd l x7).Goal)).bind λv12=>if v12<0 then(some true) else(some (aP x6 ((rd l x7).Cell)))))).bind λx9=>if x9=true then(some false) else(po.l0 k8 w h l ((rd l x7).Id) (cE x6 ((rd l x7).Cell) true) (aa (x7+1)))) else none) else(some true)
def po.f (w:Int) (h:Int) (l:(List aD)):Option Bool:=(nR.f w h).bind λv1=>if(!v1)=true then(some false) else(po.l0 fuel w h l (-1) ([]:(List (Int×Bool))) 0)
theorem po.c (H:po.f w h l=some r) (df:aT gP l ir F) (gn:List.length l<=hZ):
 QU 61 [(ii w),(ii h),(ll ir l hZ)] [] F (bb r):=by
 unfold po.f at H;refine aB Tryz.func61 J J (λW=>rc T 10 (k [] J BQ H (nR.c ·) (λv1 H=>ro T 3 (cb J H (λH=>?_) (λH=>?_)))))
 ·refine rc T 7 ?_
  cases H;exact p0 T J [0] J
 refine rc T 11 (aX (uD T (Ky.int .i64 u3) (λx:Bool=>Value.bool x) J J J ⟨_,_,J⟩ (λa1 H1 s1=>ro T 12 (lq [0,1,18,19] [0] (λ(⟨k8,x5,x6,x7,a3,H3⟩:Nat×Int×(List (Int×Bool))×Int×Nat×Hp)=>(po.l0 k8 w h l x5 x6 x7=some r/\cP (Ky.int .i64 u3) (λx:Bool=>Value.bool x) x6 a3 H3,[(7,(ii x5)),(8,(.map (some a3))),(20,(ii x7))],[H3])) J J (fuel,(-1),([]:(List (Int×Bool))),0,a1,H1) [0,0] ⟨H,s1⟩ J J ?_))));rintro k8 ⟨x5,x6,x7,a3,H3⟩ ⟨Z3,s3⟩;rw[po.l0] at Z3;refine rc T 6 (cd J Z3 (λZ3=>?_) (λZ3=>?_))
 ·refine rc T 6 ?_;obtain⟨c5,Z3⟩:=az Z3;obtain⟨q4,o4,e4⟩:=df.addr c5.1 c5.2;refine ix T J e4 c5 (br J (fO T (cs:=[(ii (rd l x7).Id),(ii (rd l x7).Cell),(ii (rd l x7).Goal)]) J J J J J J (hJ (k:=gP) (rO df 0) e4 c5 J)) (nc T J (λb5=>sg T 2 J (ro T 3 (mq Z3 [0,1,8,10,18,19,20] [0,0,0] (λnT (x9:Bool)=>(x9=nT,[(49,(bb x9))],[])) J J (λnT Z6 _=>?_) ?_)))))
  ·refine rc T 2 (lf T 2 J (ro T 3 (ad 28 J Z6 (λZ6=>?_) (λZ6=>?_))))
   ·refine ro T 23 (am _ [0,0,0] (oi Z6) J J)
   refine ro T 3 (lf T 2 J (k [] J ru Z6 (gG.c ·) (λv11 Z6=>ro T 3 (ad 36 J Z6 (λZ6=>?_) (λZ6=>?_)))))
   ·refine ro T 15 (am _ [0,0,0] (oi Z6) J J)
   refine ro T 3 (lf T 2 J (k [] J ru Z6 (gG.c ·) (λv12 Z6=>ro T 3 (ad 44 J Z6 (λZ6=>?_) (λZ6=>?_)))))
   ·refine ro T 7 (am _ [0,0,0] (oi Z6) J J)
   refine ro T 2 (lf T 2 J (br J (pN (k:=(rd l x7).Cell) T (Ky.int .i64 u3) (λx:Bool=>Value.bool x) J J J J J (oh s3 (j:=1) J)) (ro T 3 (am _ [0,0,0] (oi Z6) J J))))
  rintro _ x9 rfl Z3;refine cb J Z3 (λZ3=>?_) (λZ3=>?_)
  ·refine rc T 12 ?_
   cases Z3;exact p0 T J [0] J
  refine rc T 2 (fz J (rz [6] mix (bO bN) (λhg pf=>ha T 5 [0,1] sz hg pf J (av 2 sz hg pf J (aw T J J J J (aF (j:=2) J J)) (ha T 3 [3] sz hg pf J (av 4 sz hg pf J (aw T J J J J (aF (j:=2) J J)) (ha T 1 [5] sz hg pf J (ao 6 (pG (g:=1) (m:=x6) (k:=(rd l x7).Cell) (v:=true) T (Ky.int .i64 u3) (λx:Bool=>Value.bool x) J J J J J J J s3 (λH6 s6=>an sl (ae (rx T 7 (ar (_,_,_,_,_) [0,0] ⟨Z3,s6⟩ J J)))))))))))))
 refine rc T 11 ?_
 cases Z3;exact p0 T J [0] J
def nD.l0:Nat->(List aD)->List Int->(List (Int×Bool))->Int->Option (List Int)
 |0,_,_,_,_=>none
 |k7+1,l,x4,x5,x6=>if x6<(List.length l:Int) then(if(0<=x6/\x6<(List.length l:Int)) then(if(!(aP x5 ((rd l x6).Goal)))=true then(if(List.length x4+1<=1099511627776) then(nD.l0 k7 l (x4++[(rd l x6).Goal]) (cE x5 ((rd l x6).Goal) true) (aa (x6+1))) else none) else(nD.l0 k7 l x4 x5 (aa (x6+1)))) else none) else(some x4)
def nD.f (l:(List aD)):Option (List Int):=nD.l0 fuel l [] ([]:(List (Int×Bool))) 0
def nD.R (r:(List Int)) (u:Value) (G:List Hp):Prop:= ∃(a0:Option Addr) (n0:Nat) (H0:Hp),ak (Fl.int .i64) 3 r a0 n0 H0/\u=(ll a0 r n0)/\G=[H0]
theorem nD.c (H:nD.f l=some r) (df:aT gP l ir F) (gn:List.length l<=hZ):
 QR 29 [(ll ir l hZ)] [] [] F (nD.R r):=by
 unfold nD.f at H;refine aB Tryz.func29 J J (λW=>rc T 12 (aX (uD T (Ky.int .i64 u3) (λx:Bool=>Value.bool x) J J J trivial (λa1 H1 s1=>ro T 12 (bq (lq [8,9] [0] (λ(⟨k7,x4,x5,x6,a4,n4,H4,a5,H5⟩:Nat×List Int×(List (Int×Bool))×Int×Option Addr×Nat×Hp×Nat×Hp)=>(nD.l0 k7 l x4 x5 x6=some r/\ak (Fl.int .i64) 3 x4 a4 n4 H4/\cP (Ky.int .i64 u3) (λx:Bool=>Value.bool x) x5 a5 H5,[(3,(ll a4 x4 n4)),(4,(.map (some a5))),(10,(ii x6))],[H4,H5])) J J (fuel,[],([]:(List (Int×Bool))),0,none,0,[],a1,H1) [0,1,0] ⟨H,ak.nil,s1⟩ J J ?_))))));rintro k7 ⟨x4,x5,x6,a4,n4,H4,a5,H5⟩ ⟨Z1,s4,s5⟩;rw[nD.l0] at Z1;refine rc T 6 (cd J Z1 (λZ1=>?_) (λZ1=>?_))
 ·refine rc T 6 ?_;obtain⟨c3,Z1⟩:=az Z1;obtain⟨q6,o6,e6⟩:=df.addr c3.1 c3.2;refine ix T J e6 c3 (br J (fO T (cs:=[(ii (rd l x6).Id),(ii (rd l x6).Cell),(ii (rd l x6).Goal)]) J J J J J J (hJ (k:=gP) (rO df 0) e6 c3 J)) (nc T J (λb7=>sg T 3 J (ro T 6 (lf T 3 J (br J (pN (k:=(rd l x6).Goal) T (Ky.int .i64 u3) (λx:Bool=>Value.bool x) J J J J J (oh s5 (j:=2) J)) (ro T 3 (cb J Z1 (λZ1=>?_) (λZ1=>?_)))))))))
  ·refine rc T 4 (lf T 3 J (aX (pG (g:=2) (m:=x5) (k:=(rd l x6).Goal) (v:=true) T (Ky.int .i64 u3) (λx:Bool=>Value.bool x) J J J J J J J s5 (λH8 s8=>ro T 5 (lf T 3 J (aX (cV (k:=(Fl.int .i64)) T [(rd l x6).Goal] J J J J J J J J J (λa9 H9 s9=>?_))))))));obtain⟨c5,Z1⟩:=az Z1;refine aX (dR (k:=(Fl.int .i64)) (xs:=x4) T (g:=1) J J J J J J J J J J s4 (oO s9 4) c5 J (λcy n10 bX bS=>ro T 2 (ke [3,4,8,9,10] [0,0,0] J J (rx T 7 (ar (_,_,_,_,_,_,_,_) [0,0,0] ⟨Z1,bS,s8⟩ J J)))))
  refine rc T 8 (ar (_,_,_,_,_,_,_,_) [0,0,0] ⟨Z1,s4,s5⟩ J J)
 refine rc T 12 ?_
 cases Z1;exact p1 T J [1,0] ⟨a4,n4,H4,s4,J,J⟩ J
def j5.l1:Nat->(List Int)->(List (Int×(List b_)))->List Int->List b_->Int->Option (List b_)
 |0,_,_,_,_,_=>none
 |JT+1,v17,bU,dz,qa,lI=>if lI<(List.length v17:Int) then(if(0<=lI/\lI<(List.length v17:Int)) then(if(¬(rd v17 lI)∈dz) then(if(List.length qa+List.length (aP bU (rd v17 lI))<=1099511627776) then(j5.l1 JT v17 bU ((rd v17 lI)::dz) (qa++(aP bU (rd v17 lI))) (aa (lI+1))) else none) else none) else none) else(some qa)
def j5.l0:Nat->Int->Int->(List aD)->(List (Int×(List b_)))->(List ((Int×Int)×Int))->Int->Option (List b_)
 |0,_,_,_,_,_,_=>none
 |k8+1,w,h,l,x5,x6,x7=>if x7<(List.length l:Int) then((if(0<=x7/\x7<(List.length l:Int)) then((gG.f w h ((rd l x7).Cell)).bind λv12=>(if(!(bM x6 ((rd l x7).Goal,v12)))=true then(if(List.length (aP x5 ((rd l x7).Goal))+1<=1099511627776) then(some ((cE x5 ((rd l x7).Goal) ((aP x5 ((rd l x7).Goal))++[(b_.mk ((rd l x7).Goal) v12 [])])),(cE x6 ((rd l x7).Goal,v12) (List.length (aP x5 ((rd l x7).Goal)):Int)),(List.length (aP x5 ((rd l x7).Goal)):Int))) else none) else(some (x5,x6,(aP x6 ((rd l x7).Goal,v12))))).bind λ(aU,bd,cm)=>if(0<=cm/\cm<(List.length (aP aU ((rd l x7).Goal)):Int)) then(if(List.length ((rd (aP aU ((rd l x7).Goal)) cm).cX)+1<=1099511627776) then(some ((sF aU ((rd l x7).Goal) (List.set (aP aU ((rd l x7).Goal)) (Int.toNat cm) (b_.mk ((rd (aP aU ((rd l x7).Goal)) cm).Goal) ((rd (aP aU ((rd l x7).Goal)) cm).eP) ((rd (aP aU ((rd l x7).Goal)) cm).cX++[(rd l x7).Id])))),bd)) else none) else none) else none).bind λ(x9,aN)=>j5.l0 k8 w h l x9 aN (aa (x7+1))) else((nD.f l).bind λv17=>j5.l1 fuel v17 x5 [] [] 0)
def j5.f (w:Int) (h:Int) (l:(List aD)):Option (List b_):=(po.f w h l).bind λv1=>if(!v1)=true then(some []) else(j5.l0 fuel w h l ([]:(List (Int×(List b_)))) ([]:(List ((Int×Int)×Int))) 0)
def j5.R (r:(List b_)) (u:Value) (G:List Hp):Prop:= ∃(a0:Option Addr) (n0:Nat) (H0:Hp),gv pq 120 r a0 n0 H0/\u=(ll a0 r n0)/\G=[H0]
theorem j5.c (H:j5.f w h l=some r) (df:aT gP l ir F) (gn:List.length l<=hZ):
 QR 28 [(ii w),(ii h),(ll ir l hZ)] [] [] F (j5.R r):=by
 unfold j5.f at H;refine aB Tryz.func28 J J (λW=>rc T 11 (k [] J S0 H (po.c · (rO df 0) gn) (λv1 H=>ro T 3 (cb J H (λH=>?_) (λH=>?_)))))
 ·refine rc T 7 ?_
  cases H;refine bq (p1 T J [1,0] ⟨none,0,[],gv.nil,J,J⟩ J)
 refine rc T 4 (aX (uD T (Ky.int .i64 u3) tM J J J trivial (λa2 H2 s2=>ro T 5 (aX (uD T (Ky.pair T .i64 J J J lG u3) (λx:Int=>Value.int .i64 x) J J J trivial (λa3 H3 s3=>ro T 12 (lq [0,1,2,26,27] [0] (λ(⟨k8,x5,x6,x7,a6,H6,a7,H7⟩:Nat×(List (Int×(List b_)))×(List ((Int×Int)×Int))×Int×Nat×Hp×Nat×Hp)=>(j5.l0 k8 w h l x5 x6 x7=some r/\wk (gv pq 120) (Ky.int .i64 u3) [] x5 a6 H6/\cP (Ky.pair T .i64 J J J lG u3) (λx:Int=>Value.int .i64 x) x6 a7 H7,[(7,(.map (some a6))),(8,(.map (some a7))),(28,(ii x7))],[H6,H7])) J J (fuel,([]:(List (Int×(List b_)))),([]:(List ((Int×Int)×Int))),0,a2,H2,a3,H3) [0,0,0] ⟨H,(afq (S:=(gv pq 120)) s2),s3⟩ J J ?_)))))));rintro k8 ⟨x5,x6,x7,a6,H6,a7,H7⟩ ⟨Z3,s6,s7⟩;rw[j5.l0] at Z3;refine rc T 6 (cd J Z3 (λZ3=>?_) (λZ3=>?_))
 ·refine rc T 2 (mq Z3 [0,1,2,26,27,28] [0] (λiZ (⟨x9,aN,a8,H8,a9,H9⟩:(List (Int×(List b_)))×(List ((Int×Int)×Int))×Nat×Hp×Nat×Hp)=>((x9,aN)=iZ/\wk (gv pq 120) (Ky.int .i64 u3) [] x9 a8 H8/\cP (Ky.pair T .i64 J J J lG u3) (λx:Int=>Value.int .i64 x) aN a9 H9,[(7,(.map (some a8))),(8,(.map (some a9)))],[H8,H9])) J J (λiZ Z5 _=>?_) ?_)
  ·refine rc T 3 ?_;obtain⟨c6,Z5⟩:=az Z5;obtain⟨Kn,Ke,pK⟩:=df.addr c6.1 c6.2;refine ix T J pK c6 (br J (fO T (cs:=[(ii (rd l x7).Id),(ii (rd l x7).Cell),(ii (rd l x7).Goal)]) J J J J J J (hJ (k:=gP) (rO df 0) pK c6 J)) (nc T J (λjG=>sg T 3 J (ro T 7 (lf T 3 J (k [] J ru Z5 (gG.c ·) (λv12 Z5=>ro T 6 (lf T 3 J (ro T 1 (br J (I0 T J J J J J J) (nc T J (λkL=>sg T 4 J (ro T 5 (lm T 4 J (br J (pN (k:=((rd l x7).Goal,v12)) T (Ky.pair T .i64 J J J lG u3) (λx:Int=>Value.int .i64 x) J J J J J (oh s7 (j:=2) J)) (ro T 7 (mq Z5 [0,1,2,10,26,27,28] [0,2] (λHV (⟨aU,bd,cm,dD,ei,iG,fG⟩:(List (Int×(List b_)))×(List ((Int×Int)×Int))×Int×Nat×Hp×Nat×Hp)=>((aU,bd,cm)=HV/\wk (gv pq 120) (Ky.int .i64 u3) [] aU dD ei/\cP (Ky.pair T .i64 J J J lG u3) (λx:Int=>Value.int .i64 x) bd iG fG,[(7,(.map (some dD))),(8,(.map (some iG))),(13,(ii cm))],[ei,fG])) J J (λHV Z8 _=>?_) ?_)))))))))))))))))
   ·refine rc T 6 (cb J Z8 (λZ8=>?_) (λZ8=>?_))
    ·refine rc T 4 (lf T 3 J (Fe (j:=1) (gv.nil (kd:=pq) (E:=120)) ((rd l x7).Goal) bk J s6 (λjV n15 dJ fX dP fR=>br J (FB (kx:=(rd l x7).Goal) (v:=(jV,List.length (aP x5 ((rd l x7).Goal)),n15)) T (Ky.int .i64 u3) J J J J J (Gk (j:=1) J fR)) (ro T 3 (YB (j:=1) (q:=5) J fR J J dP J (λek fq=>ke [0,1,2,7,8,10,11,12,13,26,27,28] [0,0,0,0,0] J J (rx T 4 (lm T 4 J (ro T 1 (aX (pG (g:=2) (m:=x6) (k:=((rd l x7).Goal,v12)) (v:=(List.length (aP x5 ((rd l x7).Goal)):Int)) T (Ky.pair T .i64 J J J lG u3) (λx:Int=>Value.int .i64 x) J J J J J J J s7 (λfc ft=>ro T 2 (ke [0,1,2,7,8,10,11,13,26,27,28] [0,0,0,0] J J (fz J (rg [13] [0,1,1] mix (bO bN) (λhg pf=>ha T 12 [0,1] (so [0,1,1]) hg pf J (av 2 (so [0,1,1]) hg pf J (aw T J J J J (aF (j:=2) J J)) (ha T 9 [3,4] (so [0,1,1]) hg pf J (av 5 (so [0,1,1]) hg pf J (aw T J J J J (aF (j:=2) J J)) (ha T 7 [7] (so [0,1,1]) hg pf J (av 8 (so [0,1,1]) hg pf J (aw T J J J J (aF (j:=2) J J)) (ha T 4 [9,10] (so [0,1,1]) hg pf J (gy 6 11 ?_ ?_)))))))))))))))))))))))
     ·refine Fe (j:=1) (gv.nil (kd:=pq) (E:=120)) ((rd l x7).Goal) bk J fq (λmc n19 kJ nU gT lW=>lv J (FB (kx:=(rd l x7).Goal) (v:=(mc,List.length (aP x5 ((rd l x7).Goal)),n19)) T (Ky.int .i64 u3) J J J J J (Gk (j:=1) J lW)) (an (so [0,1,1]) (ao 11 (bq (gi [5] J (Fc (kd:=pq) (E:=120) (q:=5) (c:=[(ii (rd l x7).Goal),(ii v12),nl]) T (b_.mk ((rd l x7).Goal) v12 []) J J J J J J J J J J ⟨none,0,[],(ak.nil (k:=(Fl.int .i64)) (E:=3)),J,J⟩ (λa23 jF gU=>an (so [0,1,1]) (ao 12 ?_))))))));obtain⟨gk,Z8⟩:=az Z8;refine Fb (kd:=pq) (xs:=(aP x5 ((rd l x7).Goal))) (ys:=[(b_.mk ((rd l x7).Goal) v12 [])]) T (g:=4) (q:=6) J J J J J J J J J J gT J J gU gk J (λa24 n24 qX lX=>an (so [0,1,1]) (ao 13 (P6 (q:=4) (kx:=(rd l x7).Goal) (ys:=((aP x5 ((rd l x7).Goal))++[(b_.mk ((rd l x7).Goal) v12 [])])) T (Ky.int .i64 u3) 1 J J J J J J J lW J J lX (λgW jA=>an sl (ae (rx T 1 (am (_,_,_,_,_,_,_) [0,2,0,0] ⟨oi Z8,jA,ft⟩ J J)))))))
     refine bq (gi [4] J (Fc (kd:=pq) (E:=120) (q:=4) (c:=[(ii (rd l x7).Goal),(ii v12),nl]) T (b_.mk ((rd l x7).Goal) v12 []) J J J J J J J J J J ⟨none,0,[],(ak.nil (k:=(Fl.int .i64)) (E:=3)),J,J⟩ (λa28 um j7=>an (so [0,1,1]) (ao 6 (Fe (j:=1) (gv.nil (kd:=pq) (E:=120)) ((rd l x7).Goal) bk J fq (λxZ n29 qY qZ qH pr=>lv J (FB (kx:=(rd l x7).Goal) (v:=(xZ,List.length (aP x5 ((rd l x7).Goal)),n29)) T (Ky.int .i64 u3) J J J J J (Gk (j:=1) J pr)) (an (so [0,1,1]) (ao 12 ?_))))))));obtain⟨eh,Z8⟩:=az Z8;refine Fb (kd:=pq) (xs:=(aP x5 ((rd l x7).Goal))) (ys:=[(b_.mk ((rd l x7).Goal) v12 [])]) T (g:=6) (q:=5) J J J J J J J J J J qH J J j7 eh J (λa31 n31 Bh y_=>an (so [0,1,1]) (ao 13 (P6 (q:=6) (kx:=(rd l x7).Goal) (ys:=((aP x5 ((rd l x7).Goal))++[(b_.mk ((rd l x7).Goal) v12 [])])) T (Ky.int .i64 u3) 1 J J J J J J J pr J J y_ (λHZ za=>an sl (ae (rx T 1 (am (_,_,_,_,_,_,_) [0,2,0,0] ⟨oi Z8,za,ft⟩ J J)))))))
    refine rc T 2 (am (_,_,_,_,_,_,_) [0,2,0,0] ⟨oi Z8,s6,s7⟩ J J)
   rintro _ ⟨aU,bd,cm,dD,ei,iG,fG⟩ ⟨rfl,cz,fp⟩ Z5;refine rc T 4 (lf T 1 J (Fe (j:=2) (gv.nil (kd:=pq) (E:=120)) ((rd l x7).Goal) bk J cz (λa33 n33 H_ uo vG xp=>br J (FB (kx:=(rd l x7).Goal) (v:=(a33,List.length (aP aU ((rd l x7).Goal)),n33)) T (Ky.int .i64 u3) J J J J J (Gk (j:=2) J xp)) (ro T 1 ?_))));obtain⟨gY,Z5⟩:=az Z5;obtain⟨q35,o35,L9⟩:=vG.r.addr gY.1 gY.2;refine ix T J L9 gY (ro T 3 (Lw (j:=4) J vG gY (λ_ _ EK o37 CG=>?_)));obtain⟨zG,n36,zy,CF,rfl,rfl⟩:=o37;refine Lz (ks [0,1,2,7,8,10,15,26,27,28] J (fz J (rg [8,11] [0,0,0,0,0,0] mix (bO bN) (λhg pf=>ha T 8 [0,1,2,3] sz hg pf J (av 4 sz hg pf J (aw T J J J J (B5 (j:=4) J (uz.cells CG) L9 2 J)) (ha T 6 [5] sz hg pf J (av 6 sz hg pf J (aw T J J J J (aF (j:=1) J J)) (ao 7 (cV (k:=(Fl.int .i64)) T [(rd l x7).Id] J J J J J J J J J (λIq zA AN=>an (so [0,0,0,0,0,0]) (ao 8 ?_)))))))))));obtain⟨je,Z5⟩:=az Z5;refine dR (k:=(Fl.int .i64)) (xs:=(rd (aP aU ((rd l x7).Goal)) cm).cX) T (g:=5) J J J J J J J J J J CF (oO AN 6) je J (λa39 n39 K5 AO=>an sl (hb T 9 sl hg pf J (hb T 10 sl hg pf J (ao 11 (Lx T 4 2 [(ii (rd (aP aU ((rd l x7).Goal)) cm).Goal),(ii (rd (aP aU ((rd l x7).Goal)) cm).eP),(ll a39 ((rd (aP aU ((rd l x7).Goal)) cm).cX++[(rd l x7).Id]) n39)] J J J J J J CG L9 J J J J (λK6 Ej=>an sl (ae (gi [5] J (Lv (j:=4) (q:=6) (b_.mk ((rd (aP aU ((rd l x7).Goal)) cm).Goal) ((rd (aP aU ((rd l x7).Goal)) cm).eP) ((rd (aP aU ((rd l x7).Goal)) cm).cX++[(rd l x7).Id])) J Ej J J ⟨a39,n39,K5,AO,J,J⟩ (λgu sP=>P7 (j:=2) (q:=4) (List.set (aP aU ((rd l x7).Goal)) (Int.toNat cm) (b_.mk ((rd (aP aU ((rd l x7).Goal)) cm).Goal) ((rd (aP aU ((rd l x7).Goal)) cm).eP) ((rd (aP aU ((rd l x7).Goal)) cm).cX++[(rd l x7).Id]))) J xp J J sP (by simp only[List.length_set]) (λEL zb=>rx T 2 (am (_,_,_,_,_,_) [0,1,1] ⟨oi Z5,zb,fp⟩ J J))))))))))))
  rintro _ ⟨x9,aN,a8,H8,a9,H9⟩ ⟨rfl,s8,s9⟩ Z3;refine rc T 5 (ar (_,_,_,_,_,_,_) [0,0,0] ⟨Z3,s8,s9⟩ J J)
 refine rc T 14 (kr nD.R [] [] J adf Z3 (nD.c · (rO df 0) gn) (λv17 Z3=>?_));rintro _ _ ⟨a44,n44,W6,CH,rfl,rfl⟩;refine fz J (ro T 5 (bq (lq [89,90] [0,2] (λ(⟨JT,bU,dz,qa,lI,Is,EM,EX,n48,EN⟩:Nat×(List (Int×(List b_)))×List Int×List b_×Int×Nat×Hp×Option Addr×Nat×Hp)=>(j5.l1 JT v17 bU dz qa lI=some r/\wk (gv pq 120) (Ky.int .i64 u3) dz bU Is EM/\gv pq 120 qa EX n48 EN,[(7,(.map (some Is))),(16,(ll EX qa n48)),(91,(ii lI))],[EM,EN])) J J (fuel,x5,[],[],0,a6,H6,none,0,[]) [0,2,0,1] ⟨Z3,s6,gv.nil⟩ J J ?_)));rintro JT ⟨bU,dz,qa,lI,Is,EM,EX,n48,EN⟩ ⟨cQ,G8,Kt⟩;rw[j5.l1] at cQ;refine rc T 6 (cd J cQ (λcQ=>?_) (λcQ=>?_))
 ·refine rc T 6 ?_;obtain⟨lz,cQ⟩:=az cQ;obtain⟨q49,o49,Q4⟩:=CH.r.addr lz.1 lz.2;refine ix T J Q4 lz (le T 0 (oO CH 1) Q4 lz J J (ro T 7 ?_));obtain⟨lA,cQ⟩:=az cQ;refine Fe (j:=2) (gv.nil (kd:=pq) (E:=120)) (rd v17 lI) lA J G8 (λa50 n50 W9 W_ ON Ku=>br J (FB (kx:=(rd v17 lI)) (v:=(a50,List.length (aP bU (rd v17 lI)),n50)) T (Ky.int .i64 u3) J J J J J (Gk (j:=2) J Ku)) ?_);obtain⟨zM,cQ⟩:=az cQ;refine aX (Fb (kd:=pq) (xs:=qa) (ys:=(aP bU (rd v17 lI))) T (g:=3) (q:=4) J J J J J J J J J J Kt J J ON zM J (λLd n52 K7 Ek=>ro T 2 (YC (j:=2) J Ku (λXa OO=>rx T 7 (ar (_,_,_,_,_,_,_,_,_) [0,0,0,0] ⟨cQ,OO,Ek⟩ J J)))))
 refine rc T 12 ?_
 cases cQ;exact p1 T J [3,0] ⟨EX,n48,EN,Kt,J,J⟩ J
end
end Go.Proofs.YthodkonhneebbaaGreatDoor
