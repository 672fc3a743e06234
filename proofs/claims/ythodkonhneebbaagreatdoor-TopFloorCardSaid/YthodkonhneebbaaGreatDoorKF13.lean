/- What the functions of some packages compute, each as a function of plain Lean, with its contract. No condition. -/
import Derived.Test.YthodkonhneebbaaGreatDoorKFT
import Derived.Test.YthodkonhneebbaaGreatDoorKF6
import Derived.Test.YthodkonhneebbaaGreatDoorKF7
import Derived.Test.YthodkonhneebbaaGreatDoorKF12
import Derived.Test.YthodkonhneebbaaGreatDoorKF5
namespace Go.Hx
section
def ajI {P:Program} (T:Ty P) (n:Nat) (ops:Array Oper):Nat->List Oper->Env->Option (List Oper×Env)
 |0,l,env=>some (l,env)
 |k+1,o::l,env=>match Ws T n ops env o with
  |some e=>ajI T n ops k l (e::env)
  |none=>none
 |_+1,[],_=>none
theorem aqr {W:World} {P:Program} {H:Hp} (T:Ty P) {n:Nat} {ops:Array Oper} {F:Act->Prop} {l':List Oper} {f_:Env}: ∀(k:Nat) {l:List Oper} {env:Env},ajI T n ops k l env=some (l',f_)->i_ W P n ops H l' F f_->i_ W P n ops H l F env
 |0,l,env,hs,h=>by
  simp only[ajI,Option.some.injEq,Prod.mk.injEq] at hs;obtain⟨rfl,rfl⟩:=hs;exact h
 |k+1,[],env,hs,h=>by simp[ajI] at hs
 |k+1,o::l,env,hs,h=>by
  unfold ajI at hs;split at hs
  ·rename_i e he;exact aj T he (aqr T k hs h)
  ·cases hs
end
section
open Region
variable {ops : Array Oper}
def ajJ (ops:Array Oper):Nat->List Oper->Bool
 |_,[]=>true
 |k,o::r=>(o.after.all λe=>!Region.binds .any e||Nat.blt e.on k)&&(r.all λoj=>oj.after.any (λe=>Region.binds .any e&&e.on==k)||o.apart ops oj)&&ajJ ops (k+1) r
theorem ajK: ∀{l:List Oper} {k:Nat},ajJ ops k l=true-> ∀(i:Nat) (o:Oper),l[i]? =some o->(o.after.all λe=>!Region.binds .any e||Nat.blt e.on (k+i))=true/\ ∀(j:Nat) (oj:Oper),i<j->l[j]? =some oj->(oj.after.any (λe=>Region.binds .any e&&e.on==k+i)||o.apart ops oj)=true
 |[],_,_,i,o,h=>by simp at h
 |a::r,k,hc,i,o,h=>by
  simp only[ajJ,Bool.and_eq_true] at hc;obtain⟨⟨h1,h2⟩,h3⟩:=hc
  cases i with
  |zero=>
   simp only[List.getElem?_cons_zero,Option.some.injEq] at h;subst h;refine⟨h1,λj oj hj DP=>?_⟩
   obtain⟨j,rfl⟩: ∃q,j=q+1:=⟨j-1,by omega⟩
   rw[List.getElem?_cons_succ] at DP;exact List.all_eq_true.1 h2 oj (List.mem_of_getElem? DP)
  |succ i=>
   rw[List.getElem?_cons_succ] at h;obtain⟨a1,a2⟩:=ajK h3 i o h;rw[show k+1+i=k+(i+1) by omega] at a1 a2
   refine⟨a1,λj oj hj DP=>?_⟩
   obtain⟨j,rfl⟩: ∃q,j=q+1:=⟨j-1,by omega⟩
   rw[List.getElem?_cons_succ] at DP;exact a2 j oj U DP
theorem ajL (h:ajJ ops 0 ops.toList=true): ∀(f k:Nat) (listed:Array Bool),f+k=ops.size->(∀(i:Nat) (d:Bool),i<ops.size->listed.getD i d=decide (i<k))->listed.size=ops.size->Region.lexFrom .any ops f k listed=true
 |0,k,listed,hk,hl,hz=>by
  simp only[Region.lexFrom,Region.ready,List.isEmpty_iff,List.filter_eq_nil_iff];intro i hi;rw[List.mem_range] at hi;rw[hl i true hi,decide_eq_true U];simp
 |f+1,k,listed,hk,hl,hz=>by
  have aQ:k<ops.size:=U;have ho:ops[k]? =some ops[k]:=Array.getElem?_eq_getElem aQ;have hol:ops.toList[k]? =some ops[k]:=by rw[Array.getElem?_toList];exact ho
  obtain⟨h1,h2⟩:=ajK h k _ hol;rw[Nat.zero_add] at h1 h2;simp only[Region.lexFrom,Bool.and_eq_true];refine⟨⟨?_,?_⟩,ajL h f (k+1) _ U (λi d hi=>?_) (by simpa using hz)⟩
  ·rw[List.contains_iff_mem];unfold Region.ready;rw[List.mem_filter,List.mem_range];refine⟨aQ,?_⟩;rw[hl k true aQ,decide_eq_false U,ho];simp only[Bool.not_false,Bool.true_and,Option.map_some,Option.getD_some];rw[Array.all_eq_true_iff_forall_mem] at h1⊢;intro e he;have:=h1 e he;simp only[Bool.or_eq_true,Nat.blt_eq] at this⊢;rcases this with z |z
   ·exact .inl z
   ·exact .inr (by rw[hl e.on false U];exact decide_eq_true z)
  ·unfold Region.free;rw[ho];simp only[List.all_eq_true,List.mem_range];intro j hj
   by_cases z:j<k
   ·rw[hl j true hj,decide_eq_true z];simp
   ·by_cases y:j=k
    ·simp[y]
    ·have DP:ops[j]? =some ops[j]:=Array.getElem?_eq_getElem hj;have:=h2 j _ U (by rw[Array.getElem?_toList];exact DP)
     rw[DP];simp only;rw[this];simp
  ·have e:(listed.setIfInBounds k true).getD i d=if i=k then true else listed.getD i d:=by
    have dZ:i<listed.size:=U
    by_cases z:i=k
    ·subst z;simp[Array.getD,dZ]
    ·simp[Array.getD,dZ,z,Ne.symm z]
   rw[e];split
   ·exact(decide_eq_true U).symm
   ·rw[hl i d hi];exact decide_eq_decide.2 U
theorem ajM (h:(Region.noSelect ops&&ajJ ops 0 ops.toList)=true):Region.lexB .any ops=true:=by
 rw[Bool.and_eq_true] at h;unfold Region.lexB;rw[Bool.and_eq_true];refine⟨h.1,ajL h.2 ops.size 0 _ U (λi d hi=>?_) bk⟩;simp[Array.getD,hi]
end
end Go.Hx
namespace Go.Proofs.YthodkonhneebbaaGreatDoor
open Go.Hx
set_option maxRecDepth 100000
set_option linter.unusedSimpArgs false
set_option linter.unusedVariables false
set_option maxHeartbeats 4000000
set_option autoImplicit true
set_option relaxedAutoImplicit true
noncomputable section
def s_.f (ag:Int) (most:Int):Option (Option bE):=if(((decide (ag<1))||(decide (most<1)))||(decide (most>65536)))=true then(some none) else((xf.f ag).bind λv1=>dq v1 (none) (λeX=>some (some (bE.mk most eX none))))
def s_.R (r:(Option bE)) (u:Value) (G:List Hp):Prop:= ∃(u0:Value) (G0:List Hp),Xr r u0 G0/\u=u0/\G=G0
theorem s_.c (H:s_.f ag most=some r):
 QR 21 [(ii ag),(ii most)] [] [] F (s_.R r):=by
 unfold s_.f at H;refine aB Tryz.func21 J J (λW=>rc T 11 (go T [3,4,5] 7 [0,1] 10 J J J J J J J (ro T 1 (go T [7,8,9] 11 [0,1] 14 J J J J J J J (ro T 2 (cb J H (λH=>?_) (λH=>?_)))))))
 ·refine rc T 7 ?_
  cases H;exact p1 T J [0] ⟨_,_,⟨J,J⟩,J,J⟩ J
 refine rc T 6 (kr xf.R [] [] J adt H (xf.c ·) (λv1 H=>?_));rintro _ _ ⟨_,_,O3,rfl,rfl⟩;rcases v1 with _ |eX
 ·replace H:=eT J H
  cases H
 replace H:=eU J H;obtain⟨b1,H1,s1,rfl,rfl⟩:=O3;refine ro T 1 (nc T J (λb2=>fz J (ro T 4 ?_)))
 cases H;refine aq J (gq [2,1,1] J (p1 T J [1,0] ⟨_,_,⟨b2,(List.flatten [(cl b2 103 [(ii most),(pp b1),(.pointer none)]),H1,[]]),(show fM (bE.mk most eX none) b2 (List.flatten [(cl b2 103 [(ii most),(pp b1),(.pointer none)]),H1,[]]) from⟨b1,H1,(.pointer none),[],s1,(show Bj none (.pointer none) [] from⟨J,J⟩),J⟩),J,J⟩,J,J⟩ J))
def ui.f (s:bE) (o:dn):Option Er:=if(o.Kind==3)=true then((sI.f s.nav o.B).bind λv1=>if(v1==0)=true then(some (Er.num 148 7)) else((sI.f s.nav o.A).bind λv2=>if(v2==0)=true then(some (Er.num 148 7)) else(some Er.nil))) else(if(o.Kind==2)=true then((sI.f s.nav o.A).bind λv3=>if(v3==0)=true then(some (Er.num 148 7)) else(some Er.nil)) else(some Er.nil))
def ui.R (el:Nat->Addr) (r:Er) (u:Value) (G:List Hp):Prop:= ∃(v0:Value) (H0:Hp),fW 414 el r v0 H0/\u=v0/\G=[H0]
theorem ui.c (H:ui.f s o=some r) (hG:fL 414 eZ hU el F) (cT:fM s bf dL) (z_:aT (Fl.int .u8) o.Map Br F) (zO:List.length o.Map<=Ck):
 QR 83 [(pp bf),(.agg #[(ii o.Kind),(ii o.A),(ii o.B),(ll Br o.Map Ck)])] [dL] [dL] F (ui.R el r):=by
 unfold ui.f at H;refine aB Tryz.func83 J J (λW=>rc T 2 (nc T J (λb2=>fz J (ro T 7 (lf T 2 J (ro T 15 (cb J H (λH=>?_) (λH=>?_))))))))
 ·refine rc T 6 ?_;obtain⟨b4,H4,xL,H5,s4,s5,dp⟩:=(λx=>x) cT;refine bP 0 (congrArg some dp) (fz J (dA mix ay (aj T J (aj T J (aj T J (aO J J J (aw T J J J J (aF (j:=2) J J)) (aj T J (aO J J J (aw T J J J J (aF (j:=1) J J)) ?_))))))));obtain⟨v1,V2,H⟩:=gj H;refine wv [3] J J J J J J Jd J (sI.c V2 s4) (aj T J (cH (rx T 1 (cb J H (λH=>?_) (λH=>?_)))))
  ·refine rc T 2 (br J (gZ T J J J J) (ro T 8 ?_))
   cases H;refine cq [2,2,2] J dp (aq J (p1 T J [3,2,0] ⟨(.iface 148 (ii 7)),[],rk,J,J⟩ J))
  refine rc T 5 (dA mix ay (aj T J (aj T J (aj T J (aO J J J (aw T J J J J (aF (j:=2) J J)) (aj T J (aO J J J (aw T J J J J (aF (j:=1) J J)) ?_)))))));obtain⟨v2,V4,H⟩:=gj H;refine wv [3] J J J J J J Jd J (sI.c V4 s4) (aj T J (cH (rx T 1 (cb J H (λH=>?_) (λH=>?_)))))
  ·refine rc T 2 (br J (gZ T J J J J) (ro T 7 ?_))
   cases H;refine cq [2,2,2] J dp (aq J (p1 T J [3,2,0] ⟨(.iface 148 (ii 7)),[],rk,J,J⟩ J))
  refine rc T 11 ?_
  cases H;refine cq [2,2,2] J dp (aq J (p1 T J [3,2,0] ⟨.nilIface,[],tA,J,J⟩ J))
 refine rc T 8 (cb J H (λH=>?_) (λH=>?_))
 ·refine rc T 8 ?_;obtain⟨fN,bX,KV,cB,bS,cS,FG⟩:=(λx=>x) cT;refine bP 0 (congrArg some FG) (fz J (dA mix ay (aj T J (aj T J (aj T J (aO J J J (aw T J J J J (aF (j:=2) J J)) (aj T J (aO J J J (aw T J J J J (aF (j:=1) J J)) ?_))))))));obtain⟨v3,V7,H⟩:=gj H;refine wv [3] J J J J J J Jd J (sI.c V7 bS) (aj T J (cH (rx T 1 (cb J H (λH=>?_) (λH=>?_)))))
  ·refine rc T 2 (br J (gZ T J J J J) (ro T 7 ?_))
   cases H;refine cq [2,2,2] J FG (aq J (p1 T J [3,2,0] ⟨(.iface 148 (ii 7)),[],rk,J,J⟩ J))
  refine rc T 11 ?_
  cases H;refine cq [2,2,2] J FG (aq J (p1 T J [3,2,0] ⟨.nilIface,[],tA,J,J⟩ J))
 refine rc T 15 ?_
 cases H;refine aq J (p1 T J [3,0,0] ⟨.nilIface,[],tA,J,J⟩ J)
def fE.f (code:Int):Option Er:=if(code==0)=true then(some Er.nil) else(some (Er.num 148 code))
def fE.R (el:Nat->Addr) (r:Er) (u:Value) (G:List Hp):Prop:= ∃(v0:Value) (H0:Hp),fW 414 el r v0 H0/\u=v0/\G=[H0]
theorem fE.c (H:fE.f code=some r) (hG:fL 414 eZ hU el F):
 QR 88 [(ii code)] [] [] F (fE.R el r):=by
 unfold fE.f at H;refine aB Tryz.func88 J J (λW=>rc T 12 (cb J H (λH=>?_) (λH=>?_)))
 ·refine rc T 7 ?_
  cases H;refine aq J (p1 T J [1,0] ⟨.nilIface,[],tA,J,J⟩ J)
 refine rc T 5 (br J (gZ T J J J J) (ro T 4 ?_))
 cases H;refine aq J (p1 T J [1,0] ⟨(.iface 148 (ii code)),[],rk,J,J⟩ J)
def xz.f (s:bE) (b:(List Int)):Option (Er×bE):=(wu.f b).bind λv1=>if(v1.2 !=0)=true then(some ((Er.num 148 6),s)) else((xd.f s.nav v1.1).bind λv2=>if(v2.1==0)=true then((uP.f v1.1.W v1.1.H s.most).bind λv3=>dq v3 (none) (λzx=>(fE.f v2.1).bind λv4=>some (v4,(bE.mk s.most v2.2 (some zx))))) else((fE.f v2.1).bind λv5=>some (v5,(bE.mk s.most v2.2 s.eH))))
def xz.R (el:Nat->Addr) (nh:Nat) (r:(Er×bE)) (u:Value) (G:List Hp):Prop:= ∃(v0:Value) (H0:Hp) (H1:Hp),fW 414 el r.1 v0 H0/\fM r.2 nh H1/\u=v0/\G=[H0,H1]
theorem xz.c (H:xz.f s b=some r) (hG:fL 414 eZ hU el F) (cT:fM s bf dL) (g_:aT (Fl.int .u8) b jX F) (gm:List.length b<=jL):
 QR 84 [(pp bf),(ll jX b jL)] [dL] [] F (xz.R el bf r):=by
 unfold xz.f at H;refine aB Tryz.func84 J J (λW=>rc T 8 (kr (wu.R el) [] [] J abM H (wu.c · (dF hG (j:=1) J) (rO g_ 1) gm) (λv1 H=>?_)));rintro _ _ ⟨a2,n2,H2,s2,rfl,rfl⟩;refine fz J (ro T 3 (nc T J (λb3=>fz J (jR T 3 J (ro T 10 (cb J H (λH=>?_) (λH=>?_)))))))
 ·refine rc T 2 (br J (gZ T J J J J) (ro T 5 ?_))
  cases H;refine aq J (p1 T J [4,0,0] ⟨(.iface 148 (ii 6)),[],dL,rk,cT,J,J⟩ J)
 refine rc T 4 ?_;obtain⟨b6,H6,vW,H7,s6,s7,rn⟩:=(λx=>x) cT;refine bP 0 (congrArg some rn) (fz J (ks [0,5] J (fz J (rz [5] mix (bO bN) (λhg pf=>ha T 4 [0,1,2] sz hg pf J (av 3 sz hg pf J (aw T J J J J (aF (j:=3) J J)) (av 4 sz hg pf J (gA T 2 J J J J J J J) (ao 5 (kR (xd.R b6) [] [4] J abN H (xd.c · s6 (oO s2 1) s2.bV) (λv2 H=>?_))))))))));rintro _ _ ⟨H8,s8,rfl,rfl⟩;refine fz J (an sl (hb T 6 sl hg pf J (ae (rx T 7 (cb J H (λH=>?_) (λH=>?_))))))
 ·refine ks [0,5,6] J (fz J (rq [12] [0,0,0,0,0,0] J mix (bO bN) (λhg pf=>ha T 11 [0,1] sz hg pf J (av 2 sz hg pf J (aw T J J J J (aF (j:=2) J J)) (ha T 9 [3] sz hg pf J (av 4 sz hg pf J (aw T J J J J (aF (j:=2) J J)) (ha T 5 [5,6,7] sz hg pf J (av 8 sz hg pf J (aw T J J J J (aF (j:=3) J J)) (ao 9 (kR uP.R [] [] J abO H (uP.c ·) (λv3 H=>?_)))))))))));rintro _ _ ⟨_,_,O6,rfl,rfl⟩;rcases v3 with _ |zx
  ·replace H:=eT J H
   cases H
  replace H:=eU J H;obtain⟨b9,H9,s9,rfl,rfl⟩:=O6;refine an (so [0,0,0,0,0,0]) (ha T 1 [10,11] (so [0,0,0,0,0,0]) hg pf J (ao 12 (iX T 3 J (an sl (ae (rx T 4 (kr (fE.R el) [] [] J u5 H (fE.c · (dF hG (j:=0) J)) (λv4 H=>?_))))))));rintro v10 _ ⟨v10,bX,bS,rfl,rfl⟩;refine fz J (ro T 4 ?_)
  cases H;refine gq [6] J (gq [3,4,5] J (p1 T J [4,4,0] ⟨v10,bX,(List.flatten [(cl bf 103 [(ii s.most),(pp b6),(pp b9)]),H8,(List.flatten [H9])]),bS,(show fM (bE.mk s.most v2.2 (some zx)) bf (List.flatten [(cl bf 103 [(ii s.most),(pp b6),(pp b9)]),H8,(List.flatten [H9])]) from⟨b6,H8,(pp b9),(List.flatten [H9]),s8,(show Bj (some zx) (pp b9) (List.flatten [H9]) from⟨b9,H9,s9,J,J⟩),J⟩),J,J⟩ J))
 refine rc T 5 (kr (fE.R el) [] [] J u5 H (fE.c · (dF hG (j:=0) J)) (λv5 H=>?_));rintro v12 _ ⟨v12,dt,dw,rfl,rfl⟩;refine fz J (ro T 4 ?_)
 cases H;refine gq [3,4,3] J (p1 T J [3,3,0] ⟨v12,dt,(List.flatten [(cl bf 103 [(ii s.most),(pp b6),vW]),H8,H7]),dw,(show fM (bE.mk s.most v2.2 s.eH) bf (List.flatten [(cl bf 103 [(ii s.most),(pp b6),vW]),H8,H7]) from⟨b6,H8,vW,H7,s8,s7,J⟩),J,J⟩ J)
def xy.f (s:bE) (cell:Int) (cost:Int):Option (Er×bE):=if((decide (cost<1))||(decide (cost>255)))=true then(some ((Er.num 148 8),s)) else((dq s.eH (none) (λx3=>if(cost==255)=true then((zT.f x3 cell).bind λv4=>some (decide (v4≥0))) else(some false))).bind λx1=>if x1=true then(some ((Er.num 148 10),s)) else((xa.f s.nav cell cost).bind λv5=>(fE.f v5.1).bind λv6=>some (v6,(bE.mk s.most v5.2 s.eH))))
def xy.R (el:Nat->Addr) (nh:Nat) (r:(Er×bE)) (u:Value) (G:List Hp):Prop:= ∃(v0:Value) (H0:Hp) (H1:Hp),fW 414 el r.1 v0 H0/\fM r.2 nh H1/\u=v0/\G=[H0,H1]
theorem xy.c (H:xy.f s cell cost=some r) (hG:fL 414 eZ hU el F) (cT:fM s bf dL):
 QR 86 [(pp bf),(ii cell),(ii cost)] [dL] [] F (xy.R el bf r):=by
 unfold xy.f at H;refine aB Tryz.func86 J J (λW=>rc T 12 (go T [3,4,5] 10 [0,1,2] 13 J J J J J J J (ro T 3 (cb J H (λH=>?_) (λH=>?_)))))
 ·refine rc T 2 (br J (gZ T J J J J) (ro T 6 ?_))
  cases H;refine aq J (p1 T J [2,0,0] ⟨(.iface 148 (ii 8)),[],dL,rk,cT,J,J⟩ J)
 refine mq H [0,1,2] [1,0] (λz2 (x1:Bool)=>(x1=z2,[(15,(bb x1))],[])) J J (λz2 Z2 _=>?_) ?_
 ·obtain⟨b4,H4,xL,H5,s4,s5,dp⟩:=(λx=>x) cT;refine bP 0 (congrArg some dp) (fz J ?_);rcases q3:s.eH with _ |x3
  ·replace Z2:=eT q3 Z2
   cases Z2
  replace Z2:=eU q3 Z2;rw[q3] at s5;obtain⟨b7,H7,s7,rfl,oa⟩:=s5;refine bP 3 (congrArg some oa) (fz J (rc T 4 (ab 18 J Z2 (λZ2=>?_) (λZ2=>?_))))
  ·refine ro T 3 (lf T 1 J (ro T 1 (k [3] J abP Z2 (zT.c · s7) (λv4 Z2=>ro T 5 (cq [3] J oa (cq [1,1,1] J dp (am _ [0,0] (oi Z2) J J)))))))
  refine ro T 11 (cq [3] J oa (cq [1,1,1] J dp (am _ [0,0] (oi Z2) J J)))
 rintro _ x1 rfl H;refine cb J H (λH=>?_) (λH=>?_)
 ·refine rc T 2 (br J (gZ T J J J J) (ro T 6 ?_))
  cases H;refine aq J (p1 T J [2,1,0] ⟨(.iface 148 (ii 10)),[],dL,rk,cT,J,J⟩ J)
 refine rc T 4 ?_;obtain⟨fN,bX,KV,cB,bS,cS,FG⟩:=(λx=>x) cT;refine bP 1 (congrArg some FG) (fz J (rc T 4 (lf T 1 J (ro T 2 (kr (xa.R fN) [] [2] J abQ H (xa.c · bS) (λv5 H=>?_))))));rintro _ _ ⟨dt,dw,rfl,rfl⟩;refine fz J (kr (fE.R el) [] [] J u5 H (fE.c · (dF hG (j:=0) J)) (λv6 H=>?_));rintro fv _ ⟨fv,ei,cz,rfl,rfl⟩;refine fz J (ro T 4 ?_)
 cases H;refine gq [1,2,1] J (p1 T J [1,1,0] ⟨fv,ei,(List.flatten [(cl bf 103 [(ii s.most),(pp fN),KV]),dt,cB]),cz,(show fM (bE.mk s.most v5.2 s.eH) bf (List.flatten [(cl bf 103 [(ii s.most),(pp fN),KV]),dt,cB]) from⟨fN,dt,KV,cB,dw,cS,J⟩),J,J⟩ J)
def xB.f (s:bE) (cell:Int) (goal:Int):Option (Int×Er×bE):=(sI.f s.nav cell).bind λv1=>if(v1==255)=true then(some ((-1),(Er.num 148 9),s)) else(dq s.eH (none) (λx2=>(wD.f x2 cell goal).bind λv3=>(fE.f v3.2.1).bind λv4=>some (v3.1,v4,(bE.mk s.most s.nav (some v3.2.2)))))
def xB.R (el:Nat->Addr) (nh:Nat) (r:(Int×Er×bE)) (u:Value) (G:List Hp):Prop:= ∃(v0:Value) (H0:Hp) (H1:Hp),fW 414 el r.2.1 v0 H0/\fM r.2.2 nh H1/\u=(.tuple #[(ii r.1),v0])/\G=[H0,H1]
theorem xB.c (H:xB.f s cell goal=some r) (hG:fL 414 eZ hU el F) (cT:fM s bf dL):
 QR 87 [(pp bf),(ii cell),(ii goal)] [dL] [] F (xB.R el bf r):=by
 unfold xB.f at H;refine aB Tryz.func87 J J (λW=>rc T 8 ?_);obtain⟨b3,H3,tj,H4,s3,s4,ck⟩:=(λx=>x) cT;refine bP 0 (congrArg some ck) (fz J (rc T 4 (lf T 1 J (ro T 1 (k [2] J Jd H (sI.c · s3) (λv1 H=>ro T 3 (cb J H (λH=>?_) (λH=>?_))))))))
 ·refine rc T 2 (br J (gZ T J J J J) (ro T 6 ?_))
  cases H;refine cq [1,1,1] J ck (aq J (p1 T J [2,1,0] ⟨(.iface 148 (ii 9)),[],dL,rk,cT,J,J⟩ J))
 refine rc T 3 ?_;rcases q3:s.eH with _ |x2
 ·replace H:=eT q3 H
  cases H
 replace H:=eU q3 H;rw[q3] at s4;obtain⟨b7,H7,s7,rfl,oa⟩:=s4;refine bP 3 (congrArg some oa) (fz J (rc T 4 (lf T 1 J (ro T 2 (kr (wD.R b7) [] [3] J abR H (wD.c · s7) (λv3 H=>?_))))));rintro _ _ ⟨H8,s8,rfl,rfl⟩;refine fz J (ro T 11 (kr (fE.R el) [] [] J u5 H (fE.c · (dF hG (j:=0) J)) (λv4 H=>?_)));rintro v9 _ ⟨v9,H9,s9,rfl,rfl⟩;refine fz J (ro T 5 ?_)
 cases H;refine gq [3] J (gq [1,1,2] J (p1 T J [1,1,0] ⟨v9,H9,(List.flatten [(cl bf 103 [(ii s.most),(pp b3),(pp b7)]),H3,(List.flatten [H8])]),s9,(show fM (bE.mk s.most s.nav (some v3.2.2)) bf (List.flatten [(cl bf 103 [(ii s.most),(pp b3),(pp b7)]),H3,(List.flatten [H8])]) from⟨b3,H3,(pp b7),(List.flatten [H8]),s3,(show Bj (some v3.2.2) (pp b7) (List.flatten [H8]) from⟨b7,H8,s8,J,J⟩),J⟩),J,J⟩ J))
def xA.f (s:bE) (a:iH) (goal:Int) (cell:Int):Option (Er×bE×iH):=(xe.f s.nav goal cell).bind λv1=>if(v1.2.2.1==0)=true then((fE.f v1.2.2.1).bind λv2=>some (v2,(bE.mk s.most v1.2.2.2 s.eH),(iH.mk a.Code v1.1 v1.2.1 a.Id a.fh a.ig a.Stats))) else((fE.f v1.2.2.1).bind λv3=>some (v3,(bE.mk s.most v1.2.2.2 s.eH),a))
def xA.R (el:Nat->Addr) (nh:Nat) (oJ:Nat) (r:(Er×bE×iH)) (u:Value) (G:List Hp):Prop:= ∃(v0:Value) (H0:Hp) (H1:Hp) (a2:Option Addr) (n2:Nat) (H2:Hp) (a3:Option Addr) (n3:Nat) (H3:Hp),fW 414 el r.1 v0 H0/\fM r.2.1 nh H1/\ak jw 94 r.2.2.fh a2 n2 H2/\ak (Fl.int .i64) 3 r.2.2.ig a3 n3 H3/\u=v0/\G=[H0,H1,(cl oJ 52 [(ii r.2.2.Code),(ii r.2.2.D),(ii r.2.2.cA),(ii r.2.2.Id),(ll a2 r.2.2.fh n2),(ll a3 r.2.2.ig n3),(uu r.2.2.Stats.bC),(uu r.2.2.Stats.bD),(uu r.2.2.Stats.bA),(uu r.2.2.Stats.bz),(uu r.2.2.Stats.bJ),(uu r.2.2.Stats.bF)]),H2,H3]
theorem xA.c (H:xA.f s a goal cell=some r) (hG:fL 414 eZ hU el F) (cT:fM s bf dL) (nK:ak jw 94 a.fh uB vp ur) (nJ:ak (Fl.int .i64) 3 a.ig uA vn uq):
 QR 91 [(pp bf),(pp oJ),(ii goal),(ii cell)] [dL,(cl oJ 52 [(ii a.Code),(ii a.D),(ii a.cA),(ii a.Id),(ll uB a.fh vp),(ll uA a.ig vn),(uu a.Stats.bC),(uu a.Stats.bD),(uu a.Stats.bA),(uu a.Stats.bz),(uu a.Stats.bJ),(uu a.Stats.bF)]),ur,uq] [] F (xA.R el bf oJ r):=by
 unfold xA.f at H;refine aB Tryz.func91 J J (λW=>rc T 6 ?_);obtain⟨b6,H6,vW,H7,s6,s7,rn⟩:=(λx=>x) cT;refine bP 0 (congrArg some rn) (fz J (rc T 4 (lf T 4 J (ro T 2 (kr (xe.R el b6) [] [5] J abT H (xe.c · (dF hG (j:=3) J) s6) (λv1 H=>?_))))));rintro _ _ ⟨H8,s8,rfl,rfl⟩;refine fz J (ro T 16 (cb J H (λH=>?_) (λH=>?_)))
 ·refine rc T 7 (jR T 0 J (ro T 2 (jR T 0 J (ro T 5 (kr (fE.R el) [] [] J u5 H (fE.c · (dF hG (j:=3) J)) (λv2 H=>?_))))));rintro v9 _ ⟨v9,H9,s9,rfl,rfl⟩;refine fz J (ro T 2 (ks [8] J (rx T 2 ?_)))
  cases H;refine gq [4,5,4] J (p1 T J [4,4,0,0,0,0] ⟨v9,H9,(List.flatten [(cl bf 103 [(ii s.most),(pp b6),vW]),H8,H7]),uB,vp,ur,uA,vn,uq,s9,(show fM (bE.mk s.most v1.2.2.2 s.eH) bf (List.flatten [(cl bf 103 [(ii s.most),(pp b6),vW]),H8,H7]) from⟨b6,H8,vW,H7,s8,s7,J⟩),nK,nJ,J,J⟩ J)
 refine rc T 5 (kr (fE.R el) [] [] J u5 H (fE.c · (dF hG (j:=3) J)) (λv3 H=>?_));rintro v10 _ ⟨v10,bX,bS,rfl,rfl⟩;refine fz J (ro T 4 ?_)
 cases H;refine gq [4,5,4] J (p1 T J [4,4,0,0,0,0] ⟨v10,bX,(List.flatten [(cl bf 103 [(ii s.most),(pp b6),vW]),H8,H7]),uB,vp,ur,uA,vn,uq,bS,(show fM (bE.mk s.most v1.2.2.2 s.eH) bf (List.flatten [(cl bf 103 [(ii s.most),(pp b6),vW]),H8,H7]) from⟨b6,H8,vW,H7,s8,s7,J⟩),nK,nJ,J,J⟩ J)
def eA.l3:Nat->bE->(List aD)->bZ->(List (Int×Int))->List Int->Int->Option ((List Int)×Er×bE)
 |0,_,_,_,_,_,_=>none
 |JV+1,s,l,bt,aU,nS,rQ=>if rQ<(List.length l:Int) then(if(0<=rQ/\rQ<(List.length l:Int)) then(if(List.length nS+1<=1099511627776) then(eA.l3 JV s l bt aU (nS++[(aP aU ((rd l rQ).Id))]) (aa (rQ+1))) else none) else none) else(some (nS,Er.nil,(bE.mk s.most bt s.eH)))
def eA.l2:Nat->(List (Int×Int))->Int->(List b_)->bZ->List Int->(List (Int×Int))->Int->Option (Sum ((List Int)×Er×bE) (bZ×(List (Int×Int))))
 |0,_,_,_,_,_,_,_=>none
 |JU+1,x4,bd,v8,dy,dh,jE,iY=>if iY<(List.length ((rd v8 bd).cX):Int) then(if(0<=iY/\iY<(List.length ((rd v8 bd).cX):Int)) then(if(0<=(aP x4 (rd ((rd v8 bd).cX) iY))/\(aP x4 (rd ((rd v8 bd).cX) iY))<(List.length dh:Int)) then(eA.l2 JU x4 bd v8 dy dh (cE jE (rd ((rd v8 bd).cX) iY) (rd dh (aP x4 (rd ((rd v8 bd).cX) iY)))) (aa (iY+1))) else none) else none) else(some (Sum.inr (dy,jE)))
def eA.l1:Nat->bE->(List aD)->(List (Int×Int))->(List b_)->bZ->(List (Int×Int))->Int->Option ((List Int)×Er×bE)
 |0,_,_,_,_,_,_,_=>none
 |lE+1,s,l,x4,v8,bt,aU,bd=>if bd<(List.length v8:Int) then((if(0<=bd/\bd<(List.length v8:Int)) then(((tZ.f bt ((rd v8 bd).Goal) ((rd v8 bd).eP)).bind λv24=>some (v24.2.2,v24.1.fb,v24.1.cA,v24.2.1)).bind λ(dy,fV,dh,bU)=>if(bU !=0)=true then(some (Sum.inl ([],(Er.num 148 bU),(bE.mk s.most dy s.eH)))) else(eA.l2 fuel x4 bd v8 dy dh aU 0)) else none).bind λzz=>match zz with |Sum.inl q=>some q |Sum.inr (dm,c_)=>eA.l1 lE s l x4 v8 dm c_ (aa (bd+1))) else(eA.l3 fuel s l bt aU [] 0)
def eA.l0:Nat->bE->(List aD)->(Int×Int)->(List (Int×Int))->Int->Option ((List Int)×Er×bE)
 |0,_,_,_,_,_=>none
 |k6+1,s,l,v1,x4,x5=>if x5<(List.length l:Int) then(if(0<=x5/\x5<(List.length l:Int)) then((qQ.f v1.1 v1.2 ((rd l x5).Cell)).bind λv7=>eA.l0 k6 s l v1 (cE x4 ((rd l x5).Id) v7) (aa (x5+1))) else none) else((j5.f v1.1 v1.2 l).bind λv8=>eA.l1 fuel s l x4 v8 s.nav ([]:(List (Int×Int))) 0)
def eA.f (s:bE) (l:(List aD)):Option ((List Int)×Er×bE):=(yQ.f s.nav).bind λv1=>eA.l0 fuel s l v1 ([]:(List (Int×Int))) 0
def eA.R (el:Nat->Addr) (nh:Nat) (r:((List Int)×Er×bE)) (u:Value) (G:List Hp):Prop:= ∃(a0:Option Addr) (n0:Nat) (H0:Hp) (v1:Value) (H1:Hp) (H2:Hp),ak (Fl.int .i64) 3 r.1 a0 n0 H0/\fW 414 el r.2.1 v1 H1/\fM r.2.2 nh H2/\u=(.tuple #[(ll a0 r.1 n0),v1])/\G=[H0,H1,H2]
theorem eA.c (H:eA.f s l=some r) (hG:fL 414 eZ hU el F) (cT:fM s bf dL) (df:aT gP l ir F) (gn:List.length l<=hZ):
 QR 128 [(pp bf),(ll ir l hZ)] [dL] [] F (eA.R el bf r):=by
 unfold eA.f at H;refine aB Tryz.func128 J J (λW=>rc T 7 ?_);obtain⟨b3,H3,tj,H4,s3,s4,ck⟩:=(λx=>x) cT;refine bP 0 (congrArg some ck) (fz J (rc T 4 (lf T 1 J (k [2] J Ss H (yQ.c · s3) (λv1 H=>ro T 9 (aX (uD T (Ky.int .i64 u3) (λx:Int=>Value.int .i64 x) J J J trivial (λa5 H5 s5=>ro T 12 (lq [0,1,6,7,30,31] [0,0,1,0] (λ(⟨k6,x4,x5,a7,H7⟩:Nat×(List (Int×Int))×Int×Nat×Hp)=>(eA.l0 k6 s l v1 x4 x5=some r/\cP (Ky.int .i64 u3) (λx:Int=>Value.int .i64 x) x4 a7 H7,[(8,(.map (some a7))),(32,(ii x5))],[H7])) J J (fuel,([]:(List (Int×Int))),0,a5,H5) [0,0,1,0,0] ⟨H,s5⟩ J J ?_)))))))));rintro k6 ⟨x4,x5,a7,H7⟩ ⟨Z2,s7⟩;rw[eA.l0] at Z2;refine rc T 6 (cd J Z2 (λZ2=>?_) (λZ2=>?_))
 ·refine rc T 6 ?_;obtain⟨c4,Z2⟩:=az Z2;obtain⟨q8,o8,e8⟩:=df.addr c4.1 c4.2;refine ix T J e8 c4 (br J (fO T (cs:=[(ii (rd l x5).Id),(ii (rd l x5).Cell),(ii (rd l x5).Goal)]) J J J J J J (hJ (k:=gP) (rO df 0) e8 c4 J)) (nc T J (λb9=>fz J (jR T 5 J (ro T 2 (ks [0,1,6,7,8,10,30,31,32] J (fz J (rz [8] mix (bO bN) (λhg pf=>ha T 7 [0,1] sz hg pf J (av 2 sz hg pf J (aw T J J J J (aF (j:=5) J J)) (ha T 3 [3,4,5] sz hg pf J (av 6 sz hg pf J (aw T J J J J (aF (j:=5) J J)) (ao 7 (kh [] J FM Z2 (qQ.c ·) (λv7 Z2=>an sz (ao 8 (pG (g:=4) (m:=x4) (k:=(rd l x5).Id) (v:=v7) T (Ky.int .i64 u3) (λx:Int=>Value.int .i64 x) J J J J J J J s7 (λbX bS=>an sl (ae (rx T 7 (ar (_,_,_,_) [0,0,0,0,0] ⟨Z2,bS⟩ J J)))))))))))))))))))))
 refine rc T 7 (aX (uD T (Ky.int .i64 u3) (λx:Int=>Value.int .i64 x) J J J trivial (λdu cB cS=>ro T 9 (kr j5.R [] [] J ac_ Z2 (j5.c · (rO df 0) gn) (λv8 Z2=>?_)))));rintro _ _ ⟨a12,n12,dt,dw,rfl,rfl⟩;refine fz J (ro T 5 (lq [0,1,8,49,50] [0,0,0,1,2] (λ(⟨lE,bt,aU,bd,dJ,jW,fX⟩:Nat×bZ×(List (Int×Int))×Int×Hp×Nat×Hp)=>(eA.l1 lE s l x4 v8 bt aU bd=some r/\gL bt b3 dJ/\cP (Ky.int .i64 u3) (λx:Int=>Value.int .i64 x) aU jW fX,[(11,(.map (some jW))),(51,(ii bd))],[dJ,fX])) J J (fuel,s.nav,([]:(List (Int×Int))),0,H3,du,cB) [0,0,0,1,2,0,0] ⟨Z2,s3,cS⟩ J J ?_));rintro lE ⟨bt,aU,bd,dJ,jW,fX⟩ ⟨Z7,dP,fR⟩;rw[eA.l1] at Z7;refine rc T 6 (cd J Z7 (λZ7=>?_) (λZ7=>?_))
 ·refine rc T 2 (mq Z7 [0,1,8,49,50,51] [0,0,0,0,0] (λPq (⟨dm,c_,ek,jc,fc⟩:bZ×(List (Int×Int))×Hp×Nat×Hp)=>((Sum.inr (dm,c_))=Pq/\gL dm b3 ek/\cP (Ky.int .i64 u3) (λx:Int=>Value.int .i64 x) c_ jc fc,[(11,(.map (some jc)))],[ek,fc])) J J (λPq Z9 Z7=>?_) ?_)
  ·refine rc T 3 ?_;obtain⟨gk,Z9⟩:=az Z9;obtain⟨Vv,UR,zX⟩:=dw.r.addr gk.1 gk.2;refine ix T J zX gk ?_;obtain⟨_,w21,⟨a20,n20,⟨VM,m20⟩,rfl⟩⟩:=mW.view dw.r gk;refine br J (fO T (cs:=[(ii (rd v8 bd).Goal),(ii (rd v8 bd).eP),(ll a20 (rd v8 bd).cX n20)]) J J J J J J (NQ (j:=4) J w21 zX 0 J)) (nc T J (λkM=>fz J (jR T 7 J (ro T 2 (mq Z9 [0,1,8,11,13,49,50,51] [0,0,0,0,2,2,0] (λz23 (⟨dy,fV,dh,bU,jF,Fg,a25,n25,gW,a26,n26,oz⟩:bZ×List Int×List Int×Int×Hp×Nat×Option Addr×Nat×Hp×Option Addr×Nat×Hp)=>((dy,fV,dh,bU)=z23/\gL dy b3 jF/\ak (Fl.int .i64) 3 fV a25 n25 gW/\ak (Fl.int .i64) 3 dh a26 n26 oz,[(14,(pp Fg)),(15,(ii bU))],[jF,(cl Fg 79 [(ll a25 fV n25),(ll a26 dh n26)]),gW,oz])) J J (λz23 bc _=>?_) ?_)))))
   ·refine ks [0,1,8,11,13,49,50,51] J (fz J (rz [8] mix (bO bN) (λhg pf=>ha T 12 [0,1,2] sz hg pf J (av 3 sz hg pf J (aw T J J J J (aF (j:=1) J J)) (ha T 10 [4] sz hg pf J (av 5 sz hg pf J (aw T J J J J (aF (j:=7) J J)) (ha T 8 [6] sz hg pf J (av 7 sz hg pf J (aw T J J J J (aF (j:=7) J J)) (gy 8 12 ?_ ?_)))))))))
    ·refine kR (tZ.R el b3) [] [5] J S4 bc (tZ.c · (dF hG (j:=0) J) dP) (λv24 bc=>?_);rintro _ _ ⟨Ip,n27,EJ,a28,n28,um,qY,vF,j7,qH,rfl,rfl⟩;refine fz J (an sl (hb T 9 sl hg pf J (hb T 10 sl hg pf J (hb T 11 sl hg pf J (ao 12 (nw T J (λb30=>fz J (an sl (ao 13 (iX T 10 J (an sl (hb T 14 sl hg pf J (ae (rx T 1 (am (_,_,_,_,_,_,_,_,_,_,_,_) [0,0,0,0,1,1,0,2,2,0,0] ⟨oi bc,qH,vF,j7⟩ J J)))))))))))))))
    refine nw T J (λZe=>fz J (an (so [0,0,0,0,0,0,0,0]) (ao 8 (kR (tZ.R el b3) [] [5] J S4 bc (tZ.c · (dF hG (j:=0) J) dP) (λv25 bc=>?_)))));rintro _ _ ⟨a32,n32,HZ,a33,n33,H_,uo,za,vG,xp,rfl,rfl⟩;refine fz J (an sl (hb T 9 sl hg pf J (hb T 10 sl hg pf J (hb T 11 sl hg pf J (ao 13 (iX T 7 J (an sl (hb T 14 sl hg pf J (ae (rx T 1 (am (_,_,_,_,_,_,_,_,_,_,_,_) [0,0,0,0,1,1,0,3,0,0,0] ⟨oi bc,xp,za,vG⟩ J J)))))))))))
   rintro _ ⟨dy,fV,dh,bU,jF,Fg,a25,n25,gW,a26,n26,oz⟩ ⟨rfl,gU,jA,nI⟩ Z9;refine rc T 7 (cb J Z9 (λZ9=>?_) (λZ9=>?_))
   ·refine rc T 3 (br J (gZ T J J J J) (ro T 11 ?_));obtain rfl:=Option.some.inj Z9;obtain rfl:=Option.some.inj (show some ([],(Er.num 148 bU),(bE.mk s.most dy s.eH))=some r from Z7)
    refine gq [1,6,1] J (aq J (aq J (p1 T J [9,9,8,0] ⟨none,0,[],(.iface 148 (ii bU)),[],(List.flatten [(cl bf 103 [(ii s.most),(pp b3),tj]),jF,H4]),ak.nil,rk,(show fM (bE.mk s.most dy s.eH) bf (List.flatten [(cl bf 103 [(ii s.most),(pp b3),tj]),jF,H4]) from⟨b3,jF,tj,H4,gU,s4,J⟩),J,J⟩ J)))
   refine rc T 5 (lf T 5 J (ro T 5 (lq [0,1,8,14,49,50,51,72,73] [0,0,0,4,0,3,3,3,2] (λ(⟨JU,jE,iY,Iq,zA⟩:Nat×(List (Int×Int))×Int×Nat×Hp)=>(eA.l2 JU x4 bd v8 dy dh jE iY=some Pq/\cP (Ky.int .i64 u3) (λx:Int=>Value.int .i64 x) jE Iq zA,[(11,(.map (some Iq))),(74,(ii iY))],[zA])) J J (fuel,aU,0,jW,fX) [0,0,0,4,0,3,3,3,2,0] ⟨Z9,fR⟩ J J ?_)));rintro JU ⟨jE,iY,Iq,zA⟩ ⟨cQ,AN⟩;rw[eA.l2] at cQ;refine rc T 6 (cd J cQ (λcQ=>?_) (λcQ=>?_))
   ·refine rc T 6 ?_;obtain⟨lz,cQ⟩:=az cQ;obtain⟨q39,o39,Q1⟩:=VM.addr lz.1 lz.2;refine ix T J Q1 lz (le T 0 (rO VM 8) Q1 lz J J (ro T 7 (lf T 5 J (ro T 2 (br J (pN (k:=(rd ((rd v8 bd).cX) iY)) T (Ky.int .i64 u3) (λx:Int=>Value.int .i64 x) J J J J J (oh s7 (j:=4) J)) ?_)))));obtain⟨lA,cQ⟩:=az cQ;obtain⟨q40,o40,Q2⟩:=nI.r.addr lA.1 lA.2;refine ix T J Q2 lA (le T 0 (oO nI 7) Q2 lA J J (aX (pG (g:=9) (m:=jE) (k:=(rd ((rd v8 bd).cX) iY)) (v:=(rd dh (aP x4 (rd ((rd v8 bd).cX) iY)))) T (Ky.int .i64 u3) (λx:Int=>Value.int .i64 x) J J J J J J J AN (λEL zb=>ro T 8 (ar (_,_,_,_) [0,0,0,0,0,0,0,0,0,0] ⟨cQ,zb⟩ J J)))))
   refine rc T 6 (am (_,_,_,_,_) [0,0,0,1,4,0,3] ⟨oi cQ,gU,AN⟩ J J)
  rintro _ ⟨dm,c_,ek,jc,fc⟩ ⟨rfl,fq,ft⟩ Z7;refine rc T 5 (ar (_,_,_,_,_,_) [0,0,0,0,0,0,0] ⟨Z7,fq,ft⟩ J J)
 refine rc T 19 (aq J (lq [11,89,90] [0,5,0,0,2] (λ(⟨JV,nS,rQ,Ir,n43,gu⟩:Nat×List Int×Int×Option Addr×Nat×Hp)=>(eA.l3 JV s l bt aU nS rQ=some r/\ak (Fl.int .i64) 3 nS Ir n43 gu,[(18,(ll Ir nS n43)),(91,(ii rQ))],[gu])) J J (fuel,[],0,none,0,[]) [0,5,0,0,2,2] ⟨Z7,ak.nil⟩ J J ?_));rintro JV ⟨nS,rQ,Ir,n43,gu⟩ ⟨eQ,sP⟩;rw[eA.l3] at eQ;refine rc T 6 (cd J eQ (λeQ=>?_) (λeQ=>?_))
 ·refine rc T 6 ?_;obtain⟨lN,eQ⟩:=az eQ;obtain⟨q44,o44,Q3⟩:=df.addr lN.1 lN.2;refine ix T J Q3 lN (br J (fO T (cs:=[(ii (rd l rQ).Id),(ii (rd l rQ).Cell),(ii (rd l rQ).Goal)]) J J J J J J (hJ (k:=gP) (rO df 0) Q3 lN J)) (nc T J (λb45=>fz J (jR T 6 J (ro T 6 (lf T 6 J (br J (pN (k:=(rd l rQ).Id) T (Ky.int .i64 u3) (λx:Int=>Value.int .i64 x) J J J J J (oh fR (j:=1) J)) (aX (cV (k:=(Fl.int .i64)) T [(aP aU ((rd l rQ).Id))] J J J J J J J J J (λa46 W7 OM=>?_))))))))));obtain⟨zN,eQ⟩:=az eQ;refine aX (dR (k:=(Fl.int .i64)) (xs:=nS) T (g:=5) J J J J J J J J J J sP (oO OM 7) zN J (λIs n47 EM G8=>ro T 9 (ar (_,_,_,_,_) [0,0,0,0,0,0] ⟨eQ,G8⟩ J J)))
 refine rc T 13 ?_
 cases eQ;refine gq [2,3,2] J (aq J (p1 T J [2,3,2,0] ⟨Ir,n43,gu,.nilIface,[],(List.flatten [(cl bf 103 [(ii s.most),(pp b3),tj]),dJ,H4]),sP,tA,(show fM (bE.mk s.most bt s.eH) bf (List.flatten [(cl bf 103 [(ii s.most),(pp b3),tj]),dJ,H4]) from⟨b3,dJ,tj,H4,dP,s4,J⟩),J,J⟩ J))
def xC.f (s:bE) (a:iH):Option (Er×bE×iH):=dq s.eH (none) (λx1=>(oS.f x1).bind λv2=>(eA.f s v2).bind λv3=>if(!(Er.isNil v3.2.1))=true then(some (v3.2.1,v3.2.2,a)) else(dq v3.2.2.eH (none) (λx4=>(ni.f x4 v3.1).bind λv5=>(fE.f v5.2.2.1).bind λv6=>some (v6,(bE.mk v3.2.2.most v3.2.2.nav (some v5.2.2.2)),(iH.mk a.Code a.D a.cA a.Id v5.1 v5.2.1 a.Stats)))))
def xC.R (el:Nat->Addr) (nh:Nat) (oJ:Nat) (r:(Er×bE×iH)) (u:Value) (G:List Hp):Prop:= ∃(v0:Value) (H0:Hp) (H1:Hp) (a2:Option Addr) (n2:Nat) (H2:Hp) (a3:Option Addr) (n3:Nat) (H3:Hp),fW 414 el r.1 v0 H0/\fM r.2.1 nh H1/\ak jw 94 r.2.2.fh a2 n2 H2/\ak (Fl.int .i64) 3 r.2.2.ig a3 n3 H3/\u=v0/\G=[H0,H1,(cl oJ 52 [(ii r.2.2.Code),(ii r.2.2.D),(ii r.2.2.cA),(ii r.2.2.Id),(ll a2 r.2.2.fh n2),(ll a3 r.2.2.ig n3),(uu r.2.2.Stats.bC),(uu r.2.2.Stats.bD),(uu r.2.2.Stats.bA),(uu r.2.2.Stats.bz),(uu r.2.2.Stats.bJ),(uu r.2.2.Stats.bF)]),H2,H3]
theorem xC.c (H:xC.f s a=some r) (hG:fL 414 eZ hU el F) (cT:fM s bf dL) (nK:ak jw 94 a.fh uB vp ur) (nJ:ak (Fl.int .i64) 3 a.ig uA vn uq):
 QR 92 [(pp bf),(pp oJ)] [dL,(cl oJ 52 [(ii a.Code),(ii a.D),(ii a.cA),(ii a.Id),(ll uB a.fh vp),(ll uA a.ig vn),(uu a.Stats.bC),(uu a.Stats.bD),(uu a.Stats.bA),(uu a.Stats.bz),(uu a.Stats.bJ),(uu a.Stats.bF)]),ur,uq] [] F (xC.R el bf oJ r):=by
 unfold xC.f at H;refine aB Tryz.func92 J J (λW=>rc T 6 ?_);obtain⟨b6,H6,vW,H7,s6,s7,rn⟩:=(λx=>x) cT;refine bP 0 (congrArg some rn) (fz J ?_);rcases q1:s.eH with _ |x1
 ·replace H:=eT q1 H
  cases H
 replace H:=eU q1 H;rw[q1] at s7;obtain⟨b9,H9,s9,rfl,RY⟩:=s7;refine bP 6 (congrArg some RY) (fz J (rc T 5 (lf T 4 J (kr oS.R [6] [6] J Jn H (oS.c · s9) (λv2 H=>?_)))));rintro _ _ ⟨cy,n10,bX,bS,rfl,rfl⟩;refine fz J (cq [7] J RY (cq [4,4,5] J rn (kr (eA.R el bf) [] [5] J abU H (eA.c · (dF hG (j:=3) J) cT (oO bS 4) bS.bV) (λv3 H=>?_))));rintro _ _ ⟨du,n11,cB,v12,dt,ei,cS,dw,cz,rfl,rfl⟩;refine fz J (ro T 11 (br J (Dx T J J J (rl dw (j:=6) J)) (ro T 2 (cb J H (λH=>?_) (λH=>?_)))))
 ·refine rc T 8 ?_
  cases H;exact p1 T J [6,6,0,0,0,0] ⟨v12,dt,ei,uB,vp,ur,uA,vn,uq,dw,cz,nK,nJ,J,J⟩ J
 refine rc T 3 ?_;obtain⟨mZ,dJ,ajA,fX,dP,fR,DC⟩:=(λx=>x) cz;refine bP 7 (congrArg some DC) (fz J ?_);rcases q5:v3.2.2.eH with _ |x4
 ·replace H:=eT q5 H
  cases H
 replace H:=eU q5 H;rw[q5] at fR;obtain⟨qk,fc,ft,rfl,abC⟩:=fR;refine bP 9 (congrArg some abC) (fz J (rc T 4 (lf T 7 J (ro T 1 (kr (ni.R qk) [] [9] J abV H (ni.c · ft (oO cS 5) cS.bV) (λv5 H=>?_))))));rintro _ _ ⟨mc,n19,kJ,a20,n20,nU,lj,gT,lW,jQ,rfl,rfl⟩;refine fz J (ro T 17 (jR T 0 J (ro T 2 (jR T 0 J (ro T 1 (ke [9] [0,2,5,5,5,5,5] J J (rx T 1 (rc T 3 (kr (fE.R el) [] [] J u5 H (fE.c · (dF hG (j:=1) J)) (λv6 H=>?_))))))))));rintro v22 _ ⟨v22,mv,iO,rfl,rfl⟩;refine fz J (ro T 4 ?_)
 cases H;refine gq [6] J (gq [2,2,5] J (p1 T J [4,4,0,1,1,0] ⟨v22,mv,(List.flatten [(cl bf 103 [(ii v3.2.2.most),(pp mZ),(pp qk)]),dJ,(List.flatten [lj])]),mc,n19,kJ,a20,n20,nU,iO,(show fM (bE.mk v3.2.2.most v3.2.2.nav (some v5.2.2.2)) bf (List.flatten [(cl bf 103 [(ii v3.2.2.most),(pp mZ),(pp qk)]),dJ,(List.flatten [lj])]) from⟨mZ,dJ,(pp qk),(List.flatten [lj]),dP,(show Bj (some v5.2.2.2) (pp qk) (List.flatten [lj]) from⟨qk,lj,jQ,J,J⟩),J⟩),gT,lW,J,J⟩ J))
def xx.f (s:bE) (o:dn) (a:iH):Option (Er×bE×iH):=(if(o.Kind==0)=true then(some true) else((Cr.f o).bind λv3=>some (!v3))).bind λx1=>if x1=true then(some ((Er.dW 0),s,a)) else((dq s.eH (if(o.Kind !=1)=true then(some (o.Kind !=8)) else(some false)) (λx6=>some false)).bind λx4=>if x4=true then(some ((Er.num 148 4),s,a)) else((ui.f s o).bind λv7=>if(!(Er.isNil v7))=true then(some (v7,s,a)) else((if(o.Kind==1)=true then((xz.f s o.Map).bind λv23=>some (v23.1,a.Code,a.D,a.cA,a.Id,a.fh,a.ig,a.Stats.bC,a.Stats.bD,a.Stats.bA,a.Stats.bz,a.Stats.bJ,a.Stats.bF,v23.2)) else(if(o.Kind==8)=true then((xc.f s.nav).bind λv24=>some (v7,a.Code,a.D,a.cA,a.Id,a.fh,a.ig,a.Stats.bC,a.Stats.bD,a.Stats.bA,a.Stats.bz,a.Stats.bJ,a.Stats.bF,(bE.mk s.most v24 s.eH))) else(if(o.Kind==2)=true then((xy.f s o.A o.B).bind λv25=>some (v25.1,a.Code,a.D,a.cA,a.Id,a.fh,a.ig,a.Stats.bC,a.Stats.bD,a.Stats.bA,a.Stats.bz,a.Stats.bJ,a.Stats.bF,v25.2)) else(if(o.Kind==3)=true then((xB.f s o.A o.B).bind λv26=>some (v26.2.1,a.Code,a.D,a.cA,v26.1,a.fh,a.ig,a.Stats.bC,a.Stats.bD,a.Stats.bA,a.Stats.bz,a.Stats.bJ,a.Stats.bF,v26.2.2)) else(if(o.Kind==4)=true then(dq s.eH ((Fv.f o.A o.B).bind λv28=>(fE.f v28).bind λrN=>some (rN,a.Code,a.D,a.cA,a.Id,a.fh,a.ig,a.Stats.bC,a.Stats.bD,a.Stats.bA,a.Stats.bz,a.Stats.bJ,a.Stats.bF,s)) (λl9=>(wC.f l9 o.A o.B).bind λv30=>(fE.f v30.1).bind λv31=>some (v31,a.Code,a.D,a.cA,a.Id,a.fh,a.ig,a.Stats.bC,a.Stats.bD,a.Stats.bA,a.Stats.bz,a.Stats.bJ,a.Stats.bF,(bE.mk s.most s.nav (some v30.2))))) else(if(o.Kind==5)=true then(dq s.eH ((Fu.f o.A).bind λv33=>(fE.f v33).bind λPk=>some (Pk,a.Code,a.D,a.cA,a.Id,a.fh,a.ig,a.Stats.bC,a.Stats.bD,a.Stats.bA,a.Stats.bz,a.Stats.bJ,a.Stats.bF,s)) (λvZ=>(wB.f vZ o.A).bind λv35=>(fE.f v35.1).bind λWO=>some (WO,a.Code,a.D,a.cA,a.Id,a.fh,a.ig,a.Stats.bC,a.Stats.bD,a.Stats.bA,a.Stats.bz,a.Stats.bJ,a.Stats.bF,(bE.mk s.most s.nav (some v35.2))))) else(if(o.Kind==6)=true then((xA.f s a o.A o.B).bind λv37=>some (v37.1,v37.2.2.Code,v37.2.2.D,v37.2.2.cA,v37.2.2.Id,v37.2.2.fh,v37.2.2.ig,v37.2.2.Stats.bC,v37.2.2.Stats.bD,v37.2.2.Stats.bA,v37.2.2.Stats.bz,v37.2.2.Stats.bJ,v37.2.2.Stats.bF,v37.2.1)) else(if(o.Kind==7)=true then((xC.f s a).bind λoy=>some (oy.1,oy.2.2.Code,oy.2.2.D,oy.2.2.cA,oy.2.2.Id,oy.2.2.fh,oy.2.2.ig,oy.2.2.Stats.bC,oy.2.2.Stats.bD,oy.2.2.Stats.bA,oy.2.2.Stats.bz,oy.2.2.Stats.bJ,oy.2.2.Stats.bF,oy.2.1)) else(some (v7,a.Code,a.D,a.cA,a.Id,a.fh,a.ig,a.Stats.bC,a.Stats.bD,a.Stats.bA,a.Stats.bz,a.Stats.bJ,a.Stats.bF,s)))))))))).bind λ(x8,x9,aN,bg,bt,aU,bd,cm,dm,c_,dQ,dy,fV,dh)=>some (x8,dh,(iH.mk x9 aN bg bt aU bd (gx.mk cm dm c_ dQ dy fV))))))
def xx.R (el:Nat->Addr) (nh:Nat) (oJ:Nat) (r:(Er×bE×iH)) (u:Value) (G:List Hp):Prop:= ∃(v0:Value) (H0:Hp) (H1:Hp) (a2:Option Addr) (n2:Nat) (H2:Hp) (a3:Option Addr) (n3:Nat) (H3:Hp),fW 414 el r.1 v0 H0/\fM r.2.1 nh H1/\ak jw 94 r.2.2.fh a2 n2 H2/\ak (Fl.int .i64) 3 r.2.2.ig a3 n3 H3/\u=v0/\G=[H0,H1,(cl oJ 52 [(ii r.2.2.Code),(ii r.2.2.D),(ii r.2.2.cA),(ii r.2.2.Id),(ll a2 r.2.2.fh n2),(ll a3 r.2.2.ig n3),(uu r.2.2.Stats.bC),(uu r.2.2.Stats.bD),(uu r.2.2.Stats.bA),(uu r.2.2.Stats.bz),(uu r.2.2.Stats.bJ),(uu r.2.2.Stats.bF)]),H2,H3]
theorem xx.c (H:xx.f s o a=some r) (hG:fL 414 eZ hU el F) (cT:fM s bf dL) (z_:aT (Fl.int .u8) o.Map Br F) (zO:List.length o.Map<=Ck) (nK:ak jw 94 a.fh uB vp ur) (nJ:ak (Fl.int .i64) 3 a.ig uA vn uq):
 QR 55 [(pp bf),(.agg #[(ii o.Kind),(ii o.A),(ii o.B),(ll Br o.Map Ck)]),(pp oJ)] [dL,(cl oJ 52 [(ii a.Code),(ii a.D),(ii a.cA),(ii a.Id),(ll uB a.fh vp),(ll uA a.ig vn),(uu a.Stats.bC),(uu a.Stats.bD),(uu a.Stats.bA),(uu a.Stats.bz),(uu a.Stats.bJ),(uu a.Stats.bF)]),ur,uq] [] F (xx.R el bf oJ r):=by
 unfold xx.f at H;refine aB Tryz.func55 J J (λW=>rc T 2 (nc T J (λb5=>fz J (ro T 5 (mq H [0,2,4] [4,0,0,0,0,0] (λz2 (x1:Bool)=>(x1=z2,[(7,(bb x1))],[])) J J (λz2 Z1 _=>?_) ?_)))))
 ·refine rc T 2 (lf T 5 J (ro T 2 (ab 11 J Z1 (λZ1=>?_) (λZ1=>?_))))
  ·refine ro T 7 (am _ [4,0,0,0,0,0] (oi Z1) J J)
  refine lm T 5 J (k [] J adE Z1 (Cr.c · (rO z_ 4) zO) (λv3 Z1=>ro T 5 (am _ [4,0,0,0,0,0] (oi Z1) J J)))
 rintro _ x1 rfl H;refine cb J H (λH=>?_) (λH=>?_)
 ·refine rc T 2 (lg T J (rC (j:=0) J hG (g:=0) (by decide)) (ro T 6 ?_))
  cases H;refine aq J (p1 T J [6,1,1,1,1,0] ⟨(.iface 414 (.pointer (some (el 0)))),[],dL,uB,vp,ur,uA,vn,uq,nZ,cT,nK,nJ,J,J⟩ J)
 refine mq H [0,2,4] [0,0,0,0,0,0] (λz5 (x4:Bool)=>(x4=z5,[(17,(bb x4))],[])) J J (λz5 Z5 _=>?_) ?_
 ·obtain⟨b8,H8,ajG,H9,s8,s9,rp⟩:=(λx=>x) cT;refine bP 1 (congrArg some rp) (fz J ?_);rcases q6:s.eH with _ |x6
  ·replace Z5:=eT q6 Z5;rw[q6] at s9;obtain⟨rfl,rfl⟩:=s9;refine rc T 4 (lf T 5 J (ro T 3 (lf T 4 J (ro T 3 (ab 28 J Z5 (λZ5=>?_) (λZ5=>?_))))))
   ·refine ro T 1 (lf T 4 J (ro T 5 (cq [5,5,5] J rp (am _ [0,4,0,0,0,0] (oi Z5) J J))))
   refine ro T 7 (cq [5,5,5] J rp (am _ [0,4,0,0,0,0] (oi Z5) J J))
  replace Z5:=eU q6 Z5;rw[q6] at s9;obtain⟨jG,cB,cS,rfl,RW⟩:=s9;refine bP 7 (congrArg some RW) (fz J (rc T 4 (lf T 5 J (ro T 14 (cq [7] J RW (cq [5,5,5] J rp (am _ [0,4,0,0,0,0] (oi Z5) J J)))))))
 rintro _ x4 rfl H;refine cb J H (λH=>?_) (λH=>?_)
 ·refine rc T 2 (br J (gZ T J J J J) (ro T 6 ?_))
  cases H;refine aq J (p1 T J [6,1,1,1,1,0] ⟨(.iface 148 (ii 4)),[],dL,uB,vp,ur,uA,vn,uq,rk,cT,nK,nJ,J,J⟩ J)
 refine rc T 7 (lm T 5 J (kr (ui.R el) [1] [1] J adF H (ui.c · (dF hG (j:=0) J) cT (rO z_ 0) zO) (λv7 H=>?_)));rintro fv _ ⟨fv,ei,cz,rfl,rfl⟩;refine fz J (ro T 6 (br J (Dx T J J J (rl cz (j:=5) J)) (ro T 2 (cb J H (λH=>?_) (λH=>?_)))))
 ·refine rc T 8 ?_
  cases H;exact p1 T J [5,5,1,1,1,0] ⟨fv,ei,dL,uB,vp,ur,uA,vn,uq,cz,cT,nK,nJ,J,J⟩ J
 refine rc T 2 (mq H [] [0] (λz22 (⟨x8,x9,aN,bg,bt,aU,bd,cm,dm,c_,dQ,dy,fV,dh,KQ,fG,jV,n15,dJ,jW,n16,fX,ek⟩:Er×Int×Int×Int×Int×List fe×List Int×Int×Int×Int×Int×Int×Int×bE×Value×Hp×Option Addr×Nat×Hp×Option Addr×Nat×Hp×Hp)=>((x8,x9,aN,bg,bt,aU,bd,cm,dm,c_,dQ,dy,fV,dh)=z22/\fW 414 el x8 KQ fG/\ak jw 94 aU jV n15 dJ/\ak (Fl.int .i64) 3 bd jW n16 fX/\fM dh bf ek,[(6,KQ)],[fG,(cl oJ 52 [(ii x9),(ii aN),(ii bg),(ii bt),(ll jV aU n15),(ll jW bd n16),(uu cm),(uu dm),(uu c_),(uu dQ),(uu dy),(uu fV)]),dJ,fX,ek])) J J (λz22 bc _=>?_) ?_)
 ·refine rc T 3 (lf T 4 J (ro T 9 (cb J bc (λbc=>?_) (λbc=>?_))))
  ·refine rc T 3 (lf T 4 J (kr (xz.R el bf) [] [6] J adG bc (xz.c · (dF hG (j:=0) J) cT (rO z_ 0) zO) (λv23 bc=>?_)));rintro fF _ ⟨fF,fc,kJ,ft,gT,rfl,rfl⟩;refine fz J (ro T 4 (am (_,_,_,_,_,_,_,_,_,_,_,_,_,_,_,_,_,_,_,_,_,_,_) [0,5,0,0,0,2] ⟨oi bc,ft,nK,nJ,gT⟩ J J))
  refine rc T 6 (cb J bc (λbc=>?_) (λbc=>?_))
  ·obtain⟨Bz,lj,WN,mv,jQ,iO,abA⟩:=(λx=>x) cT;refine bP 6 (congrArg some abA) (fz J (rc T 4 (lf T 6 J (kr (xc.R Bz) [] [7] J adH bc (xc.c · jQ) (λv24 bc=>?_)))));rintro _ _ ⟨jF,gU,rfl,rfl⟩;refine fz J (ro T 3 (gq [6,7,6] J (am (_,_,_,_,_,_,_,_,_,_,_,_,_,_,_,_,_,_,_,_,_,_,_) [0,4,0,0,0,1] ⟨oi bc,cz,nK,nJ,(show fM (bE.mk s.most v24 s.eH) bf (List.flatten [(cl bf 103 [(ii s.most),(pp Bz),WN]),jF,mv]) from⟨Bz,jF,WN,mv,gU,iO,J⟩)⟩ J J)))
  refine rc T 6 (cb J bc (λbc=>?_) (λbc=>?_))
  ·refine rc T 3 (lf T 4 J (ro T 1 (lf T 4 J (kr (xy.R el bf) [] [6] J adI bc (xy.c · (dF hG (j:=0) J) cT) (λv25 bc=>?_)))));rintro v24 _ ⟨v24,qX,gW,lX,jA,rfl,rfl⟩;refine fz J (ro T 4 (am (_,_,_,_,_,_,_,_,_,_,_,_,_,_,_,_,_,_,_,_,_,_,_) [0,5,0,0,0,2] ⟨oi bc,lX,nK,nJ,jA⟩ J J))
  refine rc T 6 (cb J bc (λbc=>?_) (λbc=>?_))
  ·refine rc T 4 (lf T 4 J (ro T 1 (lf T 4 J (kr (xB.R el bf) [] [6] J adJ bc (xB.c · (dF hG (j:=0) J) cT) (λv26 bc=>?_)))));rintro _ _ ⟨v26,oz,EJ,nI,vF,rfl,rfl⟩;refine fz J (ro T 5 (jR T 1 J (ro T 4 (am (_,_,_,_,_,_,_,_,_,_,_,_,_,_,_,_,_,_,_,_,_,_,_) [0,5,0,0,0,2] ⟨oi bc,nI,nK,nJ,vF⟩ J J))))
  refine rc T 6 (cb J bc (λbc=>?_) (λbc=>?_))
  ·obtain⟨zJ,qY,ajE,qZ,qH,pr,Jb⟩:=(λx=>x) cT;refine bP 6 (congrArg some Jb) (fz J ?_);rcases Ed:s.eH with _ |l9
   ·replace bc:=eT Ed bc;rw[Ed] at pr;obtain⟨rfl,rfl⟩:=pr;refine ke [0,4] [0,0,0,0,0,1,1,1] J J (fz J (rq [] [0,0,0,0,0,0,0,0] J mix (bO bN) (λhg pf=>ha T 8 [0,1,2] sz hg pf J (av 3 sz hg pf J (aw T J J J J (aF (j:=5) J J)) (ha T 6 [4] sz hg pf J (av 5 sz hg pf J (aw T J J J J (aF (j:=4) J J)) (ha T 4 [6] sz hg pf J (av 7 sz hg pf J (aw T J J J J (aF (j:=4) J J)) (ao 8 (kh [] J S8 bc (Fv.c ·) (λv28 bc=>an sz (ao 9 (kR (fE.R el) [] [] J u5 bc (fE.c · (dF hG (j:=0) J)) (λrN bc=>?_))))))))))))));rintro v33 _ ⟨v33,H_,vG,rfl,rfl⟩;refine fz J (an (so [0,0,0,0,0,0,0,0]) (ha T 0 [10] (so [0,0,0,0,0,0,0,0]) hg pf J (ae (rx T 2 (cq [5,5,5] J Jb (am (_,_,_,_,_,_,_,_,_,_,_,_,_,_,_,_,_,_,_,_,_,_,_) [0,4,0,0,0,1] ⟨oi bc,vG,nK,nJ,cT⟩ J J))))))
   replace bc:=eU Ed bc;rw[Ed] at pr;obtain⟨wx,HZ,za,rfl,abD⟩:=pr;refine bP 8 (congrArg some abD) (fz J (ke [0,4] [0,0,0,0,0,1,1,1] J J (fz J (rq [8] [0,0,0,0,0,0,0,0] J mix (bO bN) (λhg pf=>ha T 8 [0,1,2] sz hg pf J (av 3 sz hg pf J (aw T J J J J (aF (j:=5) J J)) (ha T 6 [4] sz hg pf J (av 5 sz hg pf J (aw T J J J J (aF (j:=4) J J)) (ha T 4 [6] sz hg pf J (av 7 sz hg pf J (aw T J J J J (aF (j:=4) J J)) (ao 8 (kR (wC.R wx) [] [7] J S8 bc (wC.c · za) (λv30 bc=>?_)))))))))))));rintro _ _ ⟨uo,xp,rfl,rfl⟩;refine fz J (an sl (ao 9 (kR (fE.R el) [] [] J u5 bc (fE.c · (dF hG (j:=0) J)) (λv31 bc=>?_))));rintro v35 _ ⟨v35,Ia,Ks,rfl,rfl⟩;refine fz J (an sl (hb T 10 sl hg pf J (ae (rx T 2 (gq [7] J (gq [5,5,6] J (am (_,_,_,_,_,_,_,_,_,_,_,_,_,_,_,_,_,_,_,_,_,_,_) [0,4,0,0,0,1] ⟨oi bc,Ks,nK,nJ,(show fM (bE.mk s.most s.nav (some v30.2)) bf (List.flatten [(cl bf 103 [(ii s.most),(pp zJ),(pp wx)]),qY,(List.flatten [uo])]) from⟨zJ,qY,(pp wx),(List.flatten [uo]),qH,(show Bj (some v30.2) (pp wx) (List.flatten [uo]) from⟨wx,uo,xp,J,J⟩),J⟩)⟩ J J)))))))
  refine rc T 6 (cb J bc (λbc=>?_) (λbc=>?_))
  ·obtain⟨Qm,zA,ajF,K5,AN,AO,RT⟩:=(λx=>x) cT;refine bP 6 (congrArg some RT) (fz J ?_);rcases GV:s.eH with _ |vZ
   ·replace bc:=eT GV bc;rw[GV] at AO;obtain⟨rfl,rfl⟩:=AO;refine ke [0,4] [0,0,0,0,0,1,1,1] J J (fz J (rq [] [0,0,0,0,0,0,0,0] J mix (bO bN) (λhg pf=>ha T 6 [0,1,2] sz hg pf J (av 3 sz hg pf J (aw T J J J J (aF (j:=5) J J)) (ha T 4 [4] sz hg pf J (av 5 sz hg pf J (aw T J J J J (aF (j:=4) J J)) (ao 6 (kh [] J S9 bc (Fu.c ·) (λv33 bc=>an sz (ao 7 (kR (fE.R el) [] [] J u5 bc (fE.c · (dF hG (j:=0) J)) (λPk bc=>?_))))))))))));rintro KS _ ⟨KS,ln,OL,rfl,rfl⟩;refine fz J (an (so [0,0,0,0,0,0,0,0]) (ha T 0 [8] (so [0,0,0,0,0,0,0,0]) hg pf J (ae (rx T 2 (cq [5,5,5] J RT (am (_,_,_,_,_,_,_,_,_,_,_,_,_,_,_,_,_,_,_,_,_,_,_) [0,4,0,0,0,1] ⟨oi bc,OL,nK,nJ,cT⟩ J J))))))
   replace bc:=eU GV bc;rw[GV] at AO;obtain⟨Fh,EL,zb,rfl,abE⟩:=AO;refine bP 8 (congrArg some abE) (fz J (ke [0,4] [0,0,0,0,0,1,1,1] J J (fz J (rq [6] [0,0,0,0,0,0,0,0] J mix (bO bN) (λhg pf=>ha T 6 [0,1,2] sz hg pf J (av 3 sz hg pf J (aw T J J J J (aF (j:=5) J J)) (ha T 4 [4] sz hg pf J (av 5 sz hg pf J (aw T J J J J (aF (j:=4) J J)) (ao 6 (kR (wB.R Fh) [] [7] J S9 bc (wB.c · zb) (λv35 bc=>?_)))))))))));rintro _ _ ⟨gu,sP,rfl,rfl⟩;refine fz J (an sl (ao 7 (kR (fE.R el) [] [] J u5 bc (fE.c · (dF hG (j:=0) J)) (λWO bc=>?_))));rintro v44 _ ⟨v44,W6,CH,rfl,rfl⟩;refine fz J (an sl (hb T 8 sl hg pf J (ae (rx T 2 (gq [7] J (gq [5,5,6] J (am (_,_,_,_,_,_,_,_,_,_,_,_,_,_,_,_,_,_,_,_,_,_,_) [0,4,0,0,0,1] ⟨oi bc,CH,nK,nJ,(show fM (bE.mk s.most s.nav (some v35.2)) bf (List.flatten [(cl bf 103 [(ii s.most),(pp Qm),(pp Fh)]),zA,(List.flatten [gu])]) from⟨Qm,zA,(pp Fh),(List.flatten [gu]),AN,(show Bj (some v35.2) (pp Fh) (List.flatten [gu]) from⟨Fh,gu,sP,J,J⟩),J⟩)⟩ J J)))))))
  refine rc T 6 (cb J bc (λbc=>?_) (λbc=>?_))
  ·refine rc T 4 (lf T 4 J (ro T 1 (lf T 4 J (kr (xA.R el bf oJ) [] [6,1,1,1] J adK bc (xA.c · (dF hG (j:=0) J) cT nK nJ) (λv37 bc=>?_)))));rintro v46 _ ⟨v46,W7,EM,EX,n48,EN,a49,n49,W8,OM,G8,Kt,s49,rfl,rfl⟩;refine fz J (ro T 4 (am (_,_,_,_,_,_,_,_,_,_,_,_,_,_,_,_,_,_,_,_,_,_,_) [0,2,3,3,3,2] ⟨oi bc,OM,Kt,s49,G8⟩ J J))
  refine rc T 6 (cb J bc (λbc=>?_) (λbc=>?_))
  ·refine rc T 3 (kr (xC.R el bf oJ) [] [6,1,1,1] J adL bc (xC.c · (dF hG (j:=0) J) cT nK nJ) (λoy bc=>?_));rintro v50 _ ⟨v50,W9,W_,Ld,n52,K7,a53,n53,Xa,ON,Ku,Ek,OO,rfl,rfl⟩;refine fz J (ro T 4 (am (_,_,_,_,_,_,_,_,_,_,_,_,_,_,_,_,_,_,_,_,_,_,_) [0,2,3,3,3,2] ⟨oi bc,ON,Ek,OO,Ku⟩ J J))
  refine rc T 3 (am (_,_,_,_,_,_,_,_,_,_,_,_,_,_,_,_,_,_,_,_,_,_,_) [0,4,0,0,0,1] ⟨oi bc,cz,nK,nJ,cT⟩ J J)
 rintro _ ⟨x8,x9,aN,bg,bt,aU,bd,cm,dm,c_,dQ,dy,fV,dh,KQ,fG,jV,n15,dJ,jW,n16,fX,ek⟩ ⟨rfl,fp,dP,fR,fq⟩ H;refine rc T 7 ?_
 cases H;exact p1 T J [1,4,1,1,1,0] ⟨KQ,fG,ek,jV,n15,dJ,jW,n16,fX,fp,fq,dP,fR,J,J⟩ J
def CY.f (err:Er):Option Int:=(uQ.f err (Er.dW 0)).bind λv1=>if v1=true then(some 5) else((Fy.f err).bind λv2=>if(Option.isSome v2)=true then(some (Option.getD v2 0)) else(some 0))
theorem CY.c (H:CY.f err=some r) (hG:fL 414 eZ hU el F) (Ds:lJ 414 el err Pl F):
 QU 56 [Pl] [] F (ii r):=by
 unfold CY.f at H;refine aB Tryz.func56 J J (λW=>rc T 7 (nc T J (λb1=>fz J (ro T 7 (lg T J (rC (j:=0) J hG (g:=0) (by decide)) (k [] J Jo H (uQ.c err (Er.dW 0) _ _ · (dF hG (j:=0) J) (Fz Ds (j:=0) J) IM) (λv1 H=>ro T 3 (cb J H (λH=>?_) (λH=>?_)))))))))
 ·refine rc T 8 ?_
  cases H;exact p0 T J [0] J
 refine rc T 3 (br J (gZ T J J J J) ?_);obtain⟨v2,V3,H⟩:=gj H;refine aX (rY (As:=[(cl b1 148 [(ii 0)])]) (R:=[F]) (B:=λ_=>[(cl b1 148 [(ii (Option.getD v2 0))])]) [1] J J J J Jp J J (Fy.c err v2 _ V3 (dF hG (j:=0) J) (Fz Ds (j:=0) J)) (λ_=>ro T 3 (cb J H (λH=>?_) (λH=>?_))))
 ·refine rc T 2 (lf T 1 J (ro T 6 ?_))
  cases H;exact p0 T J [0] J
 refine rc T 9 ?_
 cases H;exact p0 T J [0] J
theorem WA.c {b:Nat} {c0 c1 c2:Value} (F:Hp) (m:(b,Obj.cells #[c0,c1,c2] 103 (0,0))∈F):
 QU 42 [(pp b)] [] F c1:=by
 refine aB Tryz.func42 J J (λW=>rc T 12 (eD J (rc T 7 (lg T J (nt (j:=0) m J J) (ro T 4 (Ff (T:=T) J (.tmp J .nil) (λw o=>⟨(),J,Cu [0] J o⟩)))))))
def zl.f (s:bE):Option gx:=(Cm.f s.nav).bind λv1=>some v1
theorem zl.c (H:zl.f s=some r) (cT:fM s bf dL):
 QU 22 [(pp bf)] [dL] F (.agg #[(uu r.bC),(uu r.bD),(uu r.bA),(uu r.bz),(uu r.bJ),(uu r.bF)]):=by
 unfold zl.f at H;refine aB Tryz.func22 J J (λW=>rc T 2 (nc T J (λb2=>fz J (ro T 3 ?_))));obtain⟨b4,H4,xL,H5,s4,s5,dp⟩:=(λx=>x) cT;refine bP 0 (congrArg some dp) (fz J (rc T 2 (aX (rY (B:=λ_=>[]) [] J J J J SY J J (WA.c _ (yP (j:=2) J)) (λ_=>k [3] J adu H (Cm.c · s4) (λv1 H=>jR T 1 J (ro T 3 ?_)))))))
 cases H;refine cq [2,2,2] J dp (pb T J (.cO (j:=1) [(uu r.bC),(uu r.bD),(uu r.bA),(uu r.bz),(uu r.bJ),(uu r.bF)] J J J J J J J .nil) [2,0] () J J)
def lZ.f (s:bE) (o:dn):Option (iH×bE):=(xx.f s o (iH.mk 0 0 5 (-1) ([]:List fe) ([]:List Int) (gx.mk 0 0 0 0 0 0))).bind λv1=>if(!(Er.isNil v1.1))=true then((CY.f (Er.wrap 110 [o.Kind] v1.1)).bind λv2=>(zl.f v1.2.1).bind λv3=>some ((iH.mk v2 v1.2.2.D v1.2.2.cA v1.2.2.Id v1.2.2.fh v1.2.2.ig v3),v1.2.1)) else((zl.f v1.2.1).bind λv4=>some ((iH.mk v1.2.2.Code v1.2.2.D v1.2.2.cA v1.2.2.Id v1.2.2.fh v1.2.2.ig v4),v1.2.1))
def lZ.R (el:Nat->Addr) (nh:Nat) (r:(iH×bE)) (u:Value) (G:List Hp):Prop:= ∃(a0:Option Addr) (n0:Nat) (H0:Hp) (a1:Option Addr) (n1:Nat) (H1:Hp) (H2:Hp),ak jw 94 r.1.fh a0 n0 H0/\ak (Fl.int .i64) 3 r.1.ig a1 n1 H1/\fM r.2 nh H2/\u=(.agg #[(ii r.1.Code),(ii r.1.D),(ii r.1.cA),(ii r.1.Id),(ll a0 r.1.fh n0),(ll a1 r.1.ig n1),(uu r.1.Stats.bC),(uu r.1.Stats.bD),(uu r.1.Stats.bA),(uu r.1.Stats.bz),(uu r.1.Stats.bJ),(uu r.1.Stats.bF)])/\G=[H0,H1,H2]
theorem lZ.c (H:lZ.f s o=some r) (hG:fL 414 eZ hU el F) (cT:fM s bf dL) (z_:aT (Fl.int .u8) o.Map Br F) (zO:List.length o.Map<=Ck):
 QR 24 [(pp bf),(.agg #[(ii o.Kind),(ii o.A),(ii o.B),(ll Br o.Map Ck)])] [dL] [] F (lZ.R el bf r):=by
 unfold lZ.f at H;refine aB Tryz.func24 J J (λW=>rc T 2 (nc T J (λb2=>fz J (nc T J (λb3=>fz J (ro T 5 (nc T J (λb4=>fz J (jR T 4 J (ro T 9 (eD J (rc T 5 (jR T 4 J (ro T 1 (ks [0,3,4,5] J (rx T 1 (rc T 4 (lm T 2 J (aq J (aq J (kr (xx.R el bf b4) [] [0,3,3,3] J adv H (xx.c (a:=(iH.mk 0 0 5 (-1) ([]:List fe) ([]:List Int) (gx.mk 0 0 0 0 0 0))) · (dF hG (j:=0) J) cT (rO z_ 0) zO (ak.nil (k:=jw) (E:=94)) (ak.nil (k:=(Fl.int .i64)) (E:=3))) (λv1 H=>?_))))))))))))))))))))));rintro v7 _ ⟨v7,H7,H8,a9,n9,H9,cy,n10,bX,s7,s8,s9,bS,rfl,rfl⟩;refine fz J (ro T 6 (br J (Dx T J J J (rl s7 (j:=3) J)) (ro T 2 (cb J H (λH=>?_) (λH=>?_)))))
 ·refine rc T 2 (lf T 1 J (ro T 1 (br J (Ru (vs:=[(0,(ii o.Kind)),(1,v7)]) T [(0,[(ii o.Kind)]),(1,[v7])] J J J J J (by simp only[List.map,Rb s7];rfl) J) ?_)))
  refine nc T J (λjG=>fz J (gq [8,3] J (br J (gZ T J J J J) (k [] J adw H (CY.c · (dF hG (j:=0) J) (rl (pL s7) (j:=7) J)) (λv2 H=>ro T 1 (jR T 4 J (ro T 5 (k [3] J SG H (zl.c · s8) (λv3 H=>ro T 1 (jR T 4 J (ro T 1 (ke [4,5] [0,1,1,1,1,1] J J (rx T 3 (lm T 3 J (jR T 1 J (ro T 1 (rx T 2 ?_)))))))))))))))))
  cases H;exact pb T J (.cO (j:=1) [(ii v2),(ii v1.2.2.D),(ii v1.2.2.cA),(ii v1.2.2.Id),(ll a9 v1.2.2.fh n9),(ll cy v1.2.2.ig n10),(uu v3.bC),(uu v3.bD),(uu v3.bA),(uu v3.bz),(uu v3.bJ),(uu v3.bF)] J J J J J J J .nil) [4,4,2,0] ⟨(_,_),a9,n9,H9,cy,n10,bX,H8,s9,bS,s8,J,J⟩ J J
 refine rc T 5 (k [4] J SG H (zl.c · s8) (λv4 H=>ro T 1 (jR T 5 J (ro T 4 (lm T 5 J (jR T 2 J (ro T 1 (ke [4] [0,1,2,3,3] J J (rx T 1 (rc T 1 ?_))))))))))
 cases H;exact pb T J (.cO (j:=1) [(ii v1.2.2.Code),(ii v1.2.2.D),(ii v1.2.2.cA),(ii v1.2.2.Id),(ll a9 v1.2.2.fh n9),(ll cy v1.2.2.ig n10),(uu v4.bC),(uu v4.bD),(uu v4.bA),(uu v4.bz),(uu v4.bJ),(uu v4.bF)] J J J J J J J .nil) [3,3,2,0] ⟨(_,_),a9,n9,H9,cy,n10,bX,H8,s9,bS,s8,J,J⟩ J J
def xv.f (s:bE):Option aJ:=(vr.f s.nav).bind λv1=>some v1
def xv.R (r:aJ) (u:Value) (G:List Hp):Prop:= ∃(a0:Option Addr) (n0:Nat) (H0:Hp),ak (Fl.int .u8) 5 r.C a0 n0 H0/\u=(.agg #[(ii r.W),(ii r.H),(ll a0 r.C n0)])/\G=[H0]
theorem xv.c (H:xv.f s=some r) (cT:fM s bf dL):
 QR 14 [(pp bf)] [dL] [dL] F (xv.R r):=by
 unfold xv.f at H;refine aB Tryz.func14 J J (λW=>rc T 2 (nc T J (λb2=>fz J (ro T 3 ?_))));obtain⟨b4,H4,xL,H5,s4,s5,dp⟩:=(λx=>x) cT;refine bP 0 (congrArg some dp) (fz J (rc T 2 (aX (rY (B:=λ_=>[]) [] J J J J SY J J (WA.c _ (yP (j:=2) J)) (λ_=>kr vr.R [3] [3] J adq H (vr.c · s4) (λv1 H=>?_))))));rintro _ _ ⟨a6,n6,H6,s6,rfl,rfl⟩;refine fz J (jR T 1 J (ro T 3 ?_))
 cases H;refine cq [2,4,2] J dp (pb T J (.cO (j:=1) [(ii r.W),(ii r.H),(ll a6 r.C n6)] J J J J J J J .nil) [2,2,0] ⟨(_,_),a6,n6,H6,s6,J,J⟩ J J)
theorem KH.c {b:Nat} {c0 c1 c2:Value} (F:Hp) (m:(b,Obj.cells #[c0,c1,c2] 103 (0,0))∈F):
 QU 53 [(pp b)] [] F c2:=by
 refine aB Tryz.func53 J J (λW=>rc T 12 (eD J (rc T 7 (lg T J (nt (j:=0) m J J) (ro T 4 (Ff (T:=T) J (.tmp J .nil) (λw o=>⟨(),J,Cu [0] J o⟩)))))))
def tc.f (s:bE):Option (List aD):=dq s.eH ((zS.f).bind λv2=>some v2) (λx1=>(oS.f x1).bind λv3=>some v3)
def tc.R (r:(List aD)) (u:Value) (G:List Hp):Prop:= ∃(a0:Option Addr) (n0:Nat) (H0:Hp),ak gP 67 r a0 n0 H0/\u=(ll a0 r n0)/\G=[H0]
theorem tc.c (H:tc.f s=some r) (cT:fM s bf dL):
 QR 23 [(pp bf)] [dL] [dL] F (tc.R r):=by
 unfold tc.f at H;refine aB Tryz.func23 J J (λW=>rc T 6 ?_);obtain⟨b3,H3,tj,H4,s3,s4,ck⟩:=(λx=>x) cT;refine bP 0 (congrArg some ck) (fz J ?_);rcases q1:s.eH with _ |x1
 ·replace H:=eT q1 H;rw[q1] at s4;obtain⟨rfl,rfl⟩:=s4;refine rc T 2 (aX (rY (B:=λ_=>[]) [] J J J J Jm J J (KH.c _ (yP (j:=1) J)) (λ_=>kr zS.R [] [] J Jn H (zS.c ·) (λv2 H=>?_))));rintro _ _ ⟨a7,n7,H7,s7,rfl,rfl⟩;refine fz J (ro T 4 ?_)
  cases H;refine cq [1,1,1] J ck (p1 T J [1,1,0] ⟨a7,n7,H7,s7,J,J⟩ J)
 replace H:=eU q1 H;rw[q1] at s4;obtain⟨b6,H6,s6,rfl,su⟩:=s4;refine bP 3 (congrArg some su) (fz J (rc T 2 (aX (rY (B:=λ_=>[]) [] J J J J Jm J J (KH.c _ (yP (j:=1) J)) (λ_=>kr oS.R [3] [3] J Jn H (oS.c · s6) (λv3 H=>?_))))));rintro _ _ ⟨a8,n8,H8,s8,rfl,rfl⟩;refine fz J (ro T 4 ?_)
 cases H;refine cq [4] J su (cq [1,1,2] J ck (p1 T J [1,1,0] ⟨a8,n8,H8,s8,J,J⟩ J))
def xw.f (s:bE):Option (List Int):=dq s.eH ((zU.f).bind λv2=>some v2) (λx1=>(uL.f x1).bind λv3=>some v3)
def xw.R (r:(List Int)) (u:Value) (G:List Hp):Prop:= ∃(a0:Option Addr) (n0:Nat) (H0:Hp),ak (Fl.int .u32) 65 r a0 n0 H0/\u=(ll a0 r n0)/\G=[H0]
theorem xw.c (H:xw.f s=some r) (cT:fM s bf dL):
 QR 31 [(pp bf)] [dL] [dL] F (xw.R r):=by
 unfold xw.f at H;refine aB Tryz.func31 J J (λW=>rc T 6 ?_);obtain⟨b3,H3,tj,H4,s3,s4,ck⟩:=(λx=>x) cT;refine bP 0 (congrArg some ck) (fz J ?_);rcases q1:s.eH with _ |x1
 ·replace H:=eT q1 H;rw[q1] at s4;obtain⟨rfl,rfl⟩:=s4;refine rc T 2 (aX (rY (B:=λ_=>[]) [] J J J J Jm J J (KH.c _ (yP (j:=1) J)) (λ_=>kr zU.R [] [] J S3 H (zU.c ·) (λv2 H=>?_))));rintro _ _ ⟨a7,n7,H7,s7,rfl,rfl⟩;refine fz J (ro T 4 ?_)
  cases H;refine cq [1,1,1] J ck (p1 T J [1,1,0] ⟨a7,n7,H7,s7,J,J⟩ J)
 replace H:=eU q1 H;rw[q1] at s4;obtain⟨b6,H6,s6,rfl,su⟩:=s4;refine bP 3 (congrArg some su) (fz J (rc T 2 (aX (rY (B:=λ_=>[]) [] J J J J Jm J J (KH.c _ (yP (j:=1) J)) (λ_=>kr uL.R [3] [3] J S3 H (uL.c · s6) (λv3 H=>?_))))));rintro _ _ ⟨a8,n8,H8,s8,rfl,rfl⟩;refine fz J (ro T 4 ?_)
 cases H;refine cq [4] J su (cq [1,1,2] J ck (p1 T J [1,1,0] ⟨a8,n8,H8,s8,J,J⟩ J))
end
noncomputable section
def vB.l0:Nat->(List fe)->(List fe)->Int->Option Bool
 |0,_,_,_=>none
 |k3+1,a,b,x2=>if x2<(List.length a:Int) then(if(0<=x2/\x2<(List.length a:Int)) then(if(0<=x2/\x2<(List.length b:Int)) then(if(!(((rd a x2).Id==(rd b x2).Id)&&(((rd a x2).To==(rd b x2).To)&&true)))=true then(some false) else(vB.l0 k3 a b (aa (x2+1)))) else none) else none) else(some true)
def vB.f (a:(List fe)) (b:(List fe)):Option Bool:=if((List.length a:Int)!=(List.length b:Int))=true then(some false) else(vB.l0 fuel a b 0)
theorem vB.c (H:vB.f a b=some r) (DE:aT jw a E3 F) (LN:List.length a<=GN) (g_:aT jw b jX F) (gm:List.length b<=jL):
 QU 46 [(ll E3 a GN),(ll jX b jL)] [] F (bb r):=by
 unfold vB.f at H;refine aB Tryz.func46 J J (λW=>rc T 15 (cb J H (λH=>?_) (λH=>?_)))
 ·refine rc T 7 ?_
  cases H;exact p0 T J [0] J
 refine rc T 9 (lq [0,1] [0] (λ(⟨k3,x2⟩:Nat×Int)=>(vB.l0 k3 a b x2=some r,[(5,(ii x2))],[])) J J (fuel,0) [0] H J J ?_);rintro k3 x2 Z2;replace Z2:vB.l0 (k3+1) a b x2=some r:=Z2;rw[vB.l0] at Z2;refine rc T 9 (cd J Z2 (λZ2=>?_) (λZ2=>?_))
 ·refine rc T 5 (dA mix ay (aj T J (aj T J ?_)));obtain⟨c4,Z2⟩:=az Z2;obtain⟨q1,o1,e1⟩:=DE.addr c4.1 c4.2;refine aO J J J (cn T J J J J J e1 c4.1 c4.2) (aO J J J (fO T (cs:=[(ii (rd a x2).Id),(ii (rd a x2).To)]) J J J J J J (hJ (k:=jw) (rO DE 0) e1 c4 J)) (aj T J (aj T J ?_)));obtain⟨c5,Z2⟩:=az Z2;obtain⟨q2,o2,e2⟩:=g_.addr c5.1 c5.2;refine aO J J J (cn T J J J J J e2 c5.1 c5.2) (aO J J J (fO T (cs:=[(ii (rd b x2).Id),(ii (rd b x2).To)]) J J J J J J (hJ (k:=jw) (rO g_ 0) e2 c5 J)) (aO J J J (Mn T (((rd a x2).Id==(rd b x2).Id)&&(((rd a x2).To==(rd b x2).To)&&true)) J J J J aic ay J) (cH (rx T 1 (cb J Z2 (λZ2=>?_) (λZ2=>?_))))))
  ·refine rc T 11 ?_
   cases Z2;exact p0 T J [0] J
  refine rc T 9 (ar _ [0] Z2 J J)
 refine rc T 11 ?_
 cases Z2;exact p0 T J [0] J
end
noncomputable section
def vS.f (l:(List sx)) (n:Int):Option Int:=if(0<=(0:Int)/\(0:Int)<=(if n<(List.length l:Int) then n else(List.length l:Int))/\(if n<(List.length l:Int) then n else(List.length l:Int))<=(List.length l:Int)) then(some (if n<(List.length l:Int) then n else(List.length l:Int))) else none
theorem vS.c (H:vS.f l n=some r) (df:aT Gr l ir F) (gn:List.length l<=hZ):
 QU 13 [(ll ir l hZ),(ii n)] [] F (ll (fU ir hZ (Int.toNat 0) 3) (aA l 0 r) (hZ-Int.toNat 0)):=by
 unfold vS.f at H;refine aB Tryz.func13 J J (λW=>rc T 12 ?_);obtain⟨c1,H⟩:=az H;refine br J (kt T J J J J J J c1 gn) (ro T 4 ?_);obtain rfl:=Option.some.inj H;exact Ff (T:=T) J (.tmp J .nil) (λw o=>⟨(),J,Cu [0] J o⟩)
theorem vS.b {l:(List sx)} {n:Int} {r:Int} (H:vS.f l n=some r):(0<=(0:Int)/\(0:Int)<=r/\r<=(List.length l:Int)):=by
 unfold vS.f at H;obtain⟨c,H⟩:=az H;obtain rfl:=Option.some.inj H;exact c
def EA.f:Option Bool:=(s_.f 1 2).bind λv1=>dq v1 (some false) (λeX=>(kZ.f (aJ.mk 3 1 [5,2,9])).bind λv2=>(lZ.f eX (dn.mk 1 0 0 v2)).bind λv3=>(lZ.f v3.2 (dn.mk 3 0 2 [])).bind λv4=>(lZ.f v4.2 (dn.mk 6 2 0 [])).bind λv5=>(lZ.f v5.2 (dn.mk 7 0 0 [])).bind λv6=>(if(v3.1.Code==0)=true then(if(v4.1.Id==0)=true then(if(v5.1.D==11)=true then(if(v5.1.cA==1)=true then((vB.f v6.1.fh [(fe.mk 0 1)]).bind λv9=>if v9=true then((tc.f v6.2).bind λv10=>some ((List.length v10:Int)==1)) else(some false)) else(some false)) else(some false)) else(some false)) else(some false)).bind λx7=>some x7)
theorem EA.c (H:EA.f=some r) (hG:fL 414 eZ hU el F):
 QU 18 [] [] F (bb r):=by
 unfold EA.f at H;refine aB Tryz.func18 J J (λW=>rc T 7 (kr s_.R [] [] J SD H (s_.c ·) (λv1 H=>?_)));rintro _ _ ⟨_,_,O2,rfl,rfl⟩;rcases v1 with _ |eX
 ·replace H:=eT J H;obtain⟨rfl,rfl⟩:=O2;refine ro T 10 (mY J (rc T 7 ?_))
  cases H;exact p0 T J [0] J
 replace H:=eU J H;obtain⟨b1,H1,s1,rfl,rfl⟩:=O2;refine ro T 10 (eD J (rc T 4 (aX (cV (k:=(Fl.int .u8)) T [5,2,9] J J J J J J J J J (λa2 H2 s2=>ro T 1 (nc T J (λb3=>sg T 3 J (ro T 5 (lm T 3 J (kr kZ.R [] [] J M1 H (kZ.c (m:=(aJ.mk 3 1 [5,2,9])) · (oO s2 2) s2.bV) (λv2 H=>?_)))))))))));rintro _ _ ⟨a4,n4,H4,s4,rfl,rfl⟩;refine fz J (ro T 1 (kr (lZ.R el b1) [] [1] J FP H (lZ.c (o:=(dn.mk 1 0 0 v2)) · (dF hG (j:=0) J) s1 (oO s4 3) s4.bV) (λv3 H=>?_)));rintro _ _ ⟨a5,n5,H5,a6,n6,H6,H7,s5,s6,s7,rfl,rfl⟩;refine fz J (nc T J (λb8=>sg T 7 J (ro T 1 (ke [1,3] [0,3,3,3,3] J J (rx T 5 (kr (lZ.R el b1) [] [3] J FP H (lZ.c (o:=(dn.mk 3 0 2 [])) · (dF hG (j:=0) J) s7 (.inl J) (Nat.le_refl _)) (λv4 H=>?_)))))));rintro _ _ ⟨a9,n9,H9,cy,n10,bX,cB,s9,bS,cS,rfl,rfl⟩;refine fz J (nc T J (λkL=>sg T 7 J (ro T 6 (kr (lZ.R el b1) [] [6] J FP H (lZ.c (o:=(dn.mk 6 2 0 [])) · (dF hG (j:=0) J) cS (.inl J) (Nat.le_refl _)) (λv5 H=>?_)))));rintro _ _ ⟨dD,n13,ei,iG,n14,fG,dJ,cz,fp,dP,rfl,rfl⟩;refine fz J (nc T J (λqh=>sg T 10 J (ro T 6 (kr (lZ.R el b1) [] [9] J FP H (lZ.c (o:=(dn.mk 7 0 0 [])) · (dF hG (j:=0) J) dP (.inl J) (Nat.le_refl _)) (λv6 H=>?_)))));rintro _ _ ⟨a17,n17,ek,jc,n18,fc,kJ,fq,ft,gT,rfl,rfl⟩;refine fz J (nc T J (λIF=>sg T 13 J (ro T 1 (ks [1,3,4,5,6] J (rx T 1 (mq H [] [0] (λz8 (x7:Bool)=>(x7=z8,[(0,(bb x7))],[])) J J (λz8 Z8 _=>?_) ?_))))))
 ·refine rc T 2 (lf T 3 J (ro T 2 (ab 29 J Z8 (λZ8=>?_) (λZ8=>?_))))
  ·refine ro T 1 (lf T 6 J (ro T 3 (ab 34 J Z8 (λZ8=>?_) (λZ8=>?_))))
   ·refine ro T 1 (lf T 9 J (ro T 3 (ab 39 J Z8 (λZ8=>?_) (λZ8=>?_))))
    ·refine ro T 1 (lf T 9 J (ro T 3 (ab 44 J Z8 (λZ8=>?_) (λZ8=>?_))))
     ·refine ro T 1 (lf T 13 J (ro T 1 (aX (cV (k:=jw) T [(fe.mk 0 1)] J J J J J J J J J (λa21 lj jQ=>k [] J adr Z8 (vB.c (b:=[(fe.mk 0 1)]) · (oO fq 10) fq.bV (oO jQ 14) jQ.bV) (λv9 Z8=>ro T 2 (ab 51 J Z8 (λZ8=>?_) (λZ8=>?_))))))))
      ·refine ro T 1 (kr tc.R [12] [12] J SJ Z8 (tc.c · gT) (λv10 Z8=>?_));rintro _ _ ⟨a22,n22,mv,iO,rfl,rfl⟩;refine fz J (ro T 6 (am _ [0] (oi Z8) J J))
      refine ro T 8 (am _ [0] (oi Z8) J J)
     refine ro T 15 (am _ [0] (oi Z8) J J)
    refine ro T 20 (am _ [0] (oi Z8) J J)
   refine ro T 25 (am _ [0] (oi Z8) J J)
  refine ro T 30 (am _ [0] (oi Z8) J J)
 rintro _ x7 rfl H;refine rc T 1 ?_
 cases H;exact p0 T J [0] J
end
noncomputable section
def fK.l2:Nat->Int->(iH×bE)->aJ->(List aD)->(List Int)->Int->Option (Sum Bool bE)
 |0,_,_,_,_,_,_=>none
 |wU+1,fV,v12,fv,bY,cx,dC=>if dC<(List.length bY:Int) then((if(0<=dC/\dC<(List.length bY:Int)) then(if(rd bY dC).Cell<0 then(some true) else(if(rd bY dC).Cell≥(List.length fv.C:Int) then(some true) else(if(0<=(rd bY dC).Cell/\(rd bY dC).Cell<(List.length cx:Int)) then(if((rd cx ((rd bY dC).Cell))!=(Bb (aa ((rd bY dC).Id+1))))=true then(some true) else(if(0<=(rd bY dC).Cell/\(rd bY dC).Cell<(List.length fv.C:Int)) then(if((rd fv.C ((rd bY dC).Cell))==255)=true then(some true) else(if((rd bY dC).Cell==(rd bY dC).Goal)=true then(some true) else(if(rd bY dC).Goal<0 then(some true) else(if(rd bY dC).Goal≥(List.length fv.C:Int) then(some true) else(if dC>0 then(if(0<=(aa (dC-1))/\(aa (dC-1))<(List.length bY:Int)) then(some (decide ((rd bY (aa (dC-1))).Id≥(rd bY dC).Id))) else none) else(some false)))))) else none)) else none))) else none).bind λjE=>if jE=true then(some (Sum.inl false)) else(fK.l2 wU fV v12 fv bY cx (aa (dC+1)))) else(if(fV !=(List.length bY:Int))=true then(some (Sum.inl false)) else(some (Sum.inr v12.2)))
def fK.l1:Nat->(iH×bE)->aJ->(List aD)->(List Int)->Int->Int->Option (Sum Bool bE)
 |0,_,_,_,_,_,_=>none
 |Gn+1,v12,fv,bY,cx,fV,dh=>if dh<(List.length cx:Int) then((if(0<=dh/\dh<(List.length cx:Int)) then(if((rd cx dh)!=0)=true then(some (aa (fV+1))) else(some fV)) else none).bind λdz=>fK.l1 Gn v12 fv bY cx dz (aa (dh+1))) else(fK.l2 fuel fV v12 fv bY cx 0)
def fK.l0:Nat->Int->(List dn)->bE->Int->Option Bool
 |0,_,_,_,_=>none
 |k9+1,v1,v3,x7,x8=>if x8<(List.length v3:Int) then((if(0<=x8/\x8<(List.length v3:Int)) then((lZ.f x7 (rd v3 x8)).bind λv12=>(xv.f v12.2).bind λfv=>(tc.f v12.2).bind λbY=>(xw.f v12.2).bind λcx=>(if(List.length bY:Int)>v1 then(some true) else(some ((List.length cx:Int)!=(List.length fv.C:Int)))).bind λdm=>if dm=true then(some (Sum.inl false)) else(fK.l1 fuel v12 fv bY cx 0 0)) else none).bind λzz=>match zz with |Sum.inl q=>some q |Sum.inr aN=>fK.l0 k9 v1 v3 aN (aa (x8+1))) else((EA.f).bind λv30=>some v30)
def fK.f (most:Int) (w:Int) (h:Int) (p3:(List Int)) (l:(List sx)):Option Bool:=(fa.f most 1 8).bind λv1=>(vS.f l 50).bind λv2=>(nG.f w h p3 (aA l 0 v2)).bind λv3=>(s_.f 2 v1).bind λv4=>dq v4 (some false) (λqU=>fK.l0 fuel v1 v3 qU 0)
theorem fK.c (H:fK.f most w h p3 l=some r) (hG:fL 414 eZ hU el F) (abH:aT (Fl.int .u8) p3 XH F) (ZJ:List.length p3<=afJ) (df:aT Gr l ir F) (gn:List.length l<=hZ):
 QU 7 [(ii most),(ii w),(ii h),(ll XH p3 afJ),(ll ir l hZ)] [] F (bb r):=by
 unfold fK.f at H;refine aB Tryz.func7 J J (λW=>rc T 8 (k [] J lB H (fa.c ·) (λv1 H=>ro T 9 ?_)));obtain⟨v2,V2,H⟩:=gj H;have c3:=vS.b V2;refine aX (rY (B:=λ_=>[]) [] J J J J abW J J (vS.c V2 (rO df 0) gn) (λ_=>kr nG.R [] [] J acs H (nG.c · (rO abH 0) ZJ (mQ (rO df 0) c3 gn) (mr c3 gn)) (λv3 H=>?_)));rintro _ _ ⟨a1,n1,H1,s1,rfl,rfl⟩;refine fz J (ro T 6 (kr s_.R [] [] J SD H (s_.c ·) (λv4 H=>?_)));rintro _ _ ⟨_,_,O6,rfl,rfl⟩;rcases v4 with _ |qU
 ·replace H:=eT J H;obtain⟨rfl,rfl⟩:=O6;refine ro T 10 (mY J (rc T 7 ?_))
  cases H;exact p0 T J [0] J
 replace H:=eU J H;obtain⟨b2,H2,s2,rfl,rfl⟩:=O6;refine ro T 10 (eD J (rc T 9 (lq [11,12,13] [0,0] (λ(⟨k9,x7,x8,H4⟩:Nat×bE×Int×Hp)=>(fK.l0 k9 v1 v3 x7 x8=some r/\fM x7 b2 H4,[(14,(ii x8))],[H4])) J J (fuel,qU,0,H2) [0,0,0] ⟨H,s2⟩ J J ?_)));rintro k9 ⟨x7,x8,H4⟩ ⟨Z7,s4⟩;rw[fK.l0] at Z7;refine rc T 9 (cd J Z7 (λZ7=>?_) (λZ7=>?_))
 ·refine rc T 2 (mq Z7 [11,12,13,14] [0,0] (λiZ (⟨aN,H5⟩:bE×Hp)=>((Sum.inr aN)=iZ/\fM aN b2 H5,[],[H5])) J J (λiZ Z9 Z7=>?_) ?_)
  ·refine rc T 6 ?_;obtain⟨gk,Z9⟩:=az Z9;obtain⟨q6,o6,e6⟩:=s1.r.addr gk.1 gk.2;refine ix T J e6 gk ?_;obtain⟨_,w8,⟨a7,n7,⟨r7,m7⟩,rfl⟩⟩:=mW.view s1.r gk;refine br J (fO T (cs:=[(ii (rd v3 x8).Kind),(ii (rd v3 x8).A),(ii (rd v3 x8).B),(ll a7 (rd v3 x8).Map n7)]) J J J J J J (NQ (j:=1) J w8 e6 0 J)) (kr (lZ.R el b2) [] [2] J FP Z9 (lZ.c · (dF hG (j:=0) J) s4 (rO r7 1) m7) (λv12 Z9=>?_));rintro _ _ ⟨a9,n9,H9,cy,n10,bX,cB,s9,bS,cS,rfl,rfl⟩;refine fz J (ro T 5 (kr xv.R [4] [4] J abY Z9 (xv.c · cS) (λfv Z9=>?_)));rintro _ _ ⟨a12,n12,dt,dw,rfl,rfl⟩;refine fz J (ro T 1 (kr tc.R [5] [5] J SJ Z9 (tc.c · cS) (λbY Z9=>?_)));rintro _ _ ⟨dD,n13,ei,cz,rfl,rfl⟩;refine fz J (ro T 1 (kr xw.R [6] [6] J adp Z9 (xw.c · cS) (λcx Z9=>?_)));rintro _ _ ⟨iG,n14,fG,fp,rfl,rfl⟩;refine fz J (nc T J (λmZ=>sg T 8 J (ro T 5 (mq Z9 [11,12,13,14,15,16,17] [0,0,5,5,2,2,2] (λz17 (dm:Bool)=>(dm=z17,[(62,(bb dm))],[])) J J (λz17 cQ _=>?_) ?_))))
   ·refine rc T 6 (ad 55 J cQ (λcQ=>?_) (λcQ=>?_))
    ·refine ro T 9 (am _ [0,0,5,5,2,2,2] (oi cQ) J J)
    refine ro T 3 (lf T 8 J (ro T 5 (am _ [0,0,5,5,2,2,2] (oi cQ) J J)))
   rintro _ dm rfl Z9;refine cb J Z9 (λZ9=>?_) (λZ9=>?_)
   ·refine rc T 12 ?_;obtain rfl:=Option.some.inj Z9;obtain rfl:=Option.some.inj (show some false=some r from Z7)
    exact p0 T J [0] J
   refine rc T 14 (lq [11,12,13,14,15,16,17] [0,0,0,0,0,0,0] (λ(⟨Gn,fV,dh⟩:Nat×Int×Int)=>(fK.l1 Gn v12 fv bY cx fV dh=some iZ,[(18,(ii fV)),(19,(ii dh))],[])) J J (fuel,0,0) [0,0,0,0,0,0,0] Z9 J J ?_);rintro Gn ⟨fV,dh⟩ gw;replace gw:fK.l1 (Gn+1) v12 fv bY cx fV dh=some iZ:=gw;rw[fK.l1] at gw;refine rc T 9 (cd J gw (λgw=>?_) (λgw=>?_))
   ·refine rc T 2 (mq gw [11,12,13,14,15,16,17,19] [0,0,0,0,0,0,0] (λz24 (dz:Int)=>(dz=z24,[(18,(ii dz))],[])) J J (λz24 oC _=>?_) ?_)
    ·refine rc T 5 ?_;obtain⟨lN,oC⟩:=az oC;obtain⟨Vu,UQ,zW⟩:=fp.r.addr lN.1 lN.2;refine ix T J zW lN (le T 0 (oO fp 6) zW lN J J (ro T 3 (cb J oC (λoC=>?_) (λoC=>?_))))
     ·refine rc T 7 (am _ [0,0,0,0,0,0,0] (oi oC) J J)
     refine rc T 3 (am _ [0,0,0,0,0,0,0] (oi oC) J J)
    rintro _ dz rfl gw;refine rc T 6 (ar (_,_) [0,0,0,0,0,0,0] gw J J)
   refine rc T 12 (lq [11,12,13,14,15,16,17,18] [0,0,0,0,0,0,0] (λ(⟨wU,dC⟩:Nat×Int)=>(fK.l2 wU fV v12 fv bY cx dC=some iZ,[(20,(ii dC))],[])) J J (fuel,0) [0,0,0,0,0,0,0] gw J J ?_);rintro wU dC iq;replace iq:fK.l2 (wU+1) fV v12 fv bY cx dC=some iZ:=iq;rw[fK.l2] at iq;refine rc T 9 (cd J iq (λiq=>?_) (λiq=>?_))
   ·refine rc T 4 (mq iq [11,12,13,14,15,16,17,18,20] [0,0,0,0,0,0,0] (λW0 (jE:Bool)=>(jE=W0,[(178,(bb jE))],[])) J J (λW0 di _=>?_) ?_)
    ·refine dA mix (ajM ay) (aj T J (aj T J ?_));obtain⟨gM,di⟩:=az di;obtain⟨q17,o17,lP⟩:=cz.r.addr gM.1 gM.2;refine aO J J J (cn T J J J J J lP gM.1 gM.2) (aj T J (aO J J J (aw T J J J J (e_ (k:=gP) (oO cz 5) lP gM 1 J)) (aj T J (aj T J (qd 88 J di (λdi=>?_) (λdi=>?_))))))
     ·refine aqr T 90 J (cH (rx T 1 (am _ [0,0,0,0,0,0,0] (oi di) J J)))
     refine aj T J (aj T J (aO J J J (cn T J J J J J lP gM.1 gM.2) (aj T J (aO J J J (aw T J J J J (e_ (k:=gP) (oO cz 5) lP gM 1 J)) (aj T J (aO J J J (aw T J J J J (aF (j:=3) J J)) (aqr T 4 J (qd 99 J di (λdi=>?_) (λdi=>?_)))))))))
     ·refine aqr T 79 J (cH (rx T 1 (am _ [0,0,0,0,0,0,0] (oi di) J J)))
     refine aj T J (aj T J (aj T J (aO J J J (cn T J J J J J lP gM.1 gM.2) (aj T J (aO J J J (aw T J J J J (e_ (k:=gP) (oO cz 5) lP gM 1 J)) ?_)))));obtain⟨Fo,di⟩:=az di;obtain⟨q18,o18,QX⟩:=fp.r.addr Fo.1 Fo.2;refine aO J J J (cn T J J J J J QX Fo.1 Fo.2) (aO J J J (aw T J J J J (e_ (k:=(Fl.int .u32)) (oO fp 6) QX Fo 0 J)) (aj T J (aj T J (aO J J J (cn T J J J J J lP gM.1 gM.2) (aj T J (aO J J J (aw T J J J J (e_ (k:=gP) (oO cz 5) lP gM 0 J)) (aqr T 5 J (qb 117 J di (λdi=>?_) (λdi=>?_)))))))))
     ·refine aqr T 61 J (cH (rx T 1 (am _ [0,0,0,0,0,0,0] (oi di) J J)))
     refine aj T J (aO J J J (aw T J J J J (aF (j:=3) J J)) (aj T J (aj T J (aO J J J (cn T J J J J J lP gM.1 gM.2) (aj T J (aO J J J (aw T J J J J (e_ (k:=gP) (oO cz 5) lP gM 1 J)) ?_))))));obtain⟨Fp,di⟩:=az di;obtain⟨Vv,UR,zX⟩:=dw.r.addr Fp.1 Fp.2;refine aO J J J (cn T J J J J J zX Fp.1 Fp.2) (aO J J J (aw T J J J J (e_ (k:=(Fl.int .u8)) (oO dw 4) zX Fp 0 J)) (aj T J (aj T J (aj T J (qb 129 J di (λdi=>?_) (λdi=>?_))))))
     ·refine aqr T 49 J (cH (rx T 1 (am _ [0,0,0,0,0,0,0] (oi di) J J)))
     refine aj T J (aj T J (aO J J J (cn T J J J J J lP gM.1 gM.2) (aj T J (aO J J J (aw T J J J J (e_ (k:=gP) (oO cz 5) lP gM 1 J)) (aj T J (aj T J (aO J J J (cn T J J J J J lP gM.1 gM.2) (aj T J (aO J J J (aw T J J J J (e_ (k:=gP) (oO cz 5) lP gM 2 J)) (aj T J (aj T J (aj T J (qb 142 J di (λdi=>?_) (λdi=>?_))))))))))))))
     ·refine aqr T 36 J (cH (rx T 1 (am _ [0,0,0,0,0,0,0] (oi di) J J)))
     refine aj T J (aj T J (aO J J J (cn T J J J J J lP gM.1 gM.2) (aj T J (aO J J J (aw T J J J J (e_ (k:=gP) (oO cz 5) lP gM 2 J)) (aj T J (aj T J (aj T J (qd 150 J di (λdi=>?_) (λdi=>?_)))))))))
     ·refine aqr T 28 J (cH (rx T 1 (am _ [0,0,0,0,0,0,0] (oi di) J J)))
     refine aj T J (aj T J (aO J J J (cn T J J J J J lP gM.1 gM.2) (aj T J (aO J J J (aw T J J J J (e_ (k:=gP) (oO cz 5) lP gM 2 J)) (aj T J (aO J J J (aw T J J J J (aF (j:=3) J J)) (aqr T 4 J (qd 161 J di (λdi=>?_) (λdi=>?_)))))))))
     ·refine aqr T 17 J (cH (rx T 1 (am _ [0,0,0,0,0,0,0] (oi di) J J)))
     refine aj T J (aj T J (aj T J (qd 164 J di (λdi=>?_) (λdi=>?_))))
     ·refine aj T J (aj T J (aj T J ?_));obtain⟨Fq,di⟩:=az di;refine aO J J J (cn T J J J J J lP Fq.1 Fq.2) (aj T J (aO J J J (aw T J J J J (e_ (k:=gP) (oO cz 5) lP Fq 0 J)) (aj T J (aj T J (aO J J J (cn T J J J J J lP gM.1 gM.2) (aj T J (aO J J J (aw T J J J J (e_ (k:=gP) (oO cz 5) lP gM 0 J)) (aj T J (aj T J (aj T J (cH (rx T 1 (am _ [0,0,0,0,0,0,0] (oi di) J J)))))))))))))
     refine aqr T 14 J (cH (rx T 1 (am _ [0,0,0,0,0,0,0] (oi di) J J)))
    rintro _ jE rfl iq;refine cb J iq (λiq=>?_) (λiq=>?_)
    ·refine rc T 16 ?_;obtain rfl:=Option.some.inj iq;obtain rfl:=Option.some.inj (show some false=some r from Z7)
     exact p0 T J [0] J
    refine rc T 9 (ar _ [0,0,0,0,0,0,0] iq J J)
   refine rc T 13 (cb J iq (λiq=>?_) (λiq=>?_))
   ·refine rc T 11 ?_;obtain rfl:=Option.some.inj iq;obtain rfl:=Option.some.inj (show some false=some r from Z7)
    exact p0 T J [0] J
   refine rc T 3 (am (_,_) [0,0,0] ⟨oi iq,cS⟩ J J)
  rintro _ ⟨aN,H5⟩ ⟨rfl,s5⟩ Z7;refine rc T 6 (ar (_,_,_) [0,0,0] ⟨Z7,s5⟩ J J)
 refine rc T 7 (k [] J acf Z7 (EA.c · (dF hG (j:=0) J)) (λv30 Z7=>ro T 4 ?_))
 cases Z7;exact p0 T J [0] J
def fK.Pure:Prop:= ∀(most:Int) (w:Int) (h:Int) (p3:(List Int)) (l:(List sx)),vj most->vj w->vj h->(∀y∈p3,eN y)->(∀y∈l,(vj y.Kind/\vj y.A/\vj y.B))->List.length p3<=9223372036854775807->List.length l<=9223372036854775807->fK.f most w h p3 l=some true
end
end Go.Proofs.YthodkonhneebbaaGreatDoor
