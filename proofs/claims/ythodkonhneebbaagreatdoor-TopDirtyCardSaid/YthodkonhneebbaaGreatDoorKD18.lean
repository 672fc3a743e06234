/- What the functions do, in plain Lean, on the objects that are kept in order. -/
import Derived.KernelRfl
import Derived.Test.YthodkonhneebbaaGreatDoorKD17
import Derived.Test.YthodkonhneebbaaGreatDoorKD16
import Derived.Test.YthodkonhneebbaaGreatDoorKD13
namespace Go.Proofs.YthodkonhneebbaaGreatDoor
open Go.Hx
set_option linter.unusedVariables false
set_option linter.unusedSimpArgs false
variable {c : eo} {w h most : Int} {L : List aF}
theorem CS.Vb (hc:CS c w h most L):ie w h L:=by
 refine⟨hc.may,λj j0 j1=>?_⟩
 have hm:=ek j0 j1;obtain⟨a,b,d⟩:=hc.ok _ hm;refine⟨?_,a,b,λq q0 q1 e=>?_⟩
 ·split
  ·have:=(hc.us.GA hm).1;omega
  ·have:=uz hc.us.up (i:=j-1) (j:=j) U U bk;rwa[xH U U,xH U U] at this
 ·have h1:=hc.inj (ek q0 U) hm e;have:=uz hc.us.up (i:=q) (j:=j) q0 q1 bk;rw[xH U U,xH U U,h1] at this;omega
theorem ai7 {k:Int} {v:aF} {p:aF->Bool} (hv:p v=false) (l:List aF):(gG l k (λ_=>v)).filter p=me (l.filter p) k:=by
 unfold gG me
 induction l with
 |nil=>rfl
 |cons x r ih=>
  rw[List.map_cons]
  by_cases e:x.Id=k
  ·rw[af e,List.filter_cons,hv,ih]
   by_cases q:p x=true
   ·simp[q,e]
   ·simp[q]
  ·rw[ah e,List.filter_cons,ih]
   by_cases q:p x=true
   ·rw[af q,List.filter_cons,af q,List.filter_cons,af (by simpa using e)]
   ·rw[ah q,List.filter_cons,ah q]
theorem ai8 {k:Int} {v:aF} {p:aF->Bool} (hv:p v=true) (l:List aF) (hl: ∀x∈l,x.Id=k->p x=true):(gG l k (λ_=>v)).filter p=gG (l.filter p) k (λ_=>v):=by
 unfold gG
 induction l with
 |nil=>rfl
 |cons x r ih=>
  have UG:=ih (λy hy=>hl y (by simp[hy]))
  rw[List.map_cons]
  by_cases e:x.Id=k
  ·rw[af e,List.filter_cons,af hv,UG,List.filter_cons,af (hl x bj e),List.map_cons,af e]
  ·rw[ah e,List.filter_cons,UG]
   by_cases q:p x=true
   ·rw[af q,List.filter_cons,af q,List.map_cons,ah e]
   ·rw[ah q,List.filter_cons,ah q]
abbrev Ln (w h:Int) (L:List aF) (aM:List Int) (n:Nat):List aF:=(dL w h L aM n).1.filter (λx=>decide (0<=x.Cell))
theorem aii {l:List aF} {n:Nat} (hn:n<l.length) (mo: ∀i j:Int,0<=i->i<l.length->0<=j->j<l.length->i≠j->(rd l i).Id≠(rd l j).Id) (v:aF):l.set n v=gG l (rd l (n:Int)).Id (λ_=>v):=by
 refine AY (by simp[gG]) (λi i0 i1=>?_)
 rw[List.length_set] at i1;unfold gG;rw[xH i0 i1];have:=j5 (L:=l) (i:=(n:Int)) (c:=i) (v:=v) U U i0;rw[show((n:Int)).toNat=n by simp] at this
 rw[this]
 by_cases e:i=n
 ·rw[af e,e,af J]
 ·rw[ah e,ah (mo i n i0 i1 U U e)]
theorem afC (hm:ie w h L) (aM:List Int) {n:Nat} (hn:n<L.length):Ln w h L aM (n+1)=
 if sQ w h L aM n then(if lJ w h L aM n=(rd L (n:Int)).Goal then me (Ln w h L aM n) (rd L (n:Int)).Id else gG (Ln w h L aM n) (rd L (n:Int)).Id (λ_=>⟨(rd L (n:Int)).Id,lJ w h L aM n,(rd L (n:Int)).Goal⟩)) else Ln w h L aM n:=by
 have hi:=yM hm aM n U;have hl:=hi.len
 show(kT w h (dL w h L aM n) n (rd L (n:Int)) (rd aM (n:Int))).1.filter _=_
 unfold kT;have mo: ∀i j:Int,0<=i->i<(dL w h L aM n).1.length->0<=j->j<(dL w h L aM n).1.length->i≠j->(rd (dL w h L aM n).1 i).Id≠(rd (dL w h L aM n).1 j).Id:=by
  intro i j i0 i1 j0 j1 rG;rw[(hi.same i i0 U).1,(hi.same j j0 U).1];rcases Int.lt_or_gt_of_ne rG with q |q
  ·have:=hm.Ck i0 q U;omega
  ·have:=hm.Ck j0 q U;omega
 by_cases z:sQ w h L aM n
 ·rw[af z,af z];simp only;rw[show((n:Int)).toNat=n by simp,aii U mo,hi.rest n U U]
  by_cases g:lJ w h L aM n=(rd L (n:Int)).Goal
  ·rw[af g,af g];exact ai7 bj _
  ·rw[ah g,ah g];have vG:0<=lJ w h L aM n:=z.1;refine ai8 (by simpa using vG) _ (λx hx e=>?_)
   obtain⟨j,j0,j1,rfl⟩:=jI hx;have:j=n:=Classical.byContradiction λq=>by
    have:=mo j n j0 j1 U U q;rw[hi.rest n U U] at this;exact this e
   subst this;rw[hi.rest n U U];simpa using(hm.cell U U).2.1
 ·rw[ah z,ah z]
theorem abL {f:fy} {n:Int} (hf:FS f n L) (Gw:(L.map (·.Id)).Pairwise (· < ·)) {x:aF} (hx:x∈L) (i0:0<=x.Id) {to:Int} (t0:0<=to) (t1:to<n) (gF: ∀y∈L,y.Cell≠to):
 FS (ir (ir f x.Cell 0 (-1)) to (x.Id+1) 1) n (gG L x.Id (λ_=>⟨x.Id,to,x.Goal⟩)):=by
 obtain⟨h0,h1,h2⟩:=hf.at_ x hx;have hr:=hf.fl.2 x.Cell h0 h1;have TX:r8 n (ir f x.Cell 0 (-1)):=HD hf.fl h0 h1 U U;have N5: ∀d,0<=d->rd (ir (ir f x.Cell 0 (-1)) to (x.Id+1) 1).words d=if d=to then x.Id+1 else if d=x.Cell then 0 else rd f.words d:=by
  intro d d0;rw[AX TX t0 t1 d0,AX hf.fl h0 h1 d0]
 refine⟨HD TX t0 t1 U U,by simp[ir,hf.eA,gG];omega,λy hy=>?_,λd d0 d1 hd=>?_⟩
 ·unfold gG at hy;obtain⟨z,hz,rfl⟩:=List.mem_map.1 hy;obtain⟨a,b,e⟩:=hf.at_ z hz
  by_cases q:z.Id=x.Id
  ·rw[af q];exact⟨t0,t1,by rw[N5 to t0,af J]⟩
  ·rw[ah q];refine⟨a,b,?_⟩;rw[N5 _ a,ah (gF z hz),ah]
   ·exact e
   ·intro y;rw[y,h2] at e;omega
 ·rw[N5 d d0] at hd
  by_cases q:d=to
  ·refine⟨⟨x.Id,to,x.Goal⟩,List.mem_map.2 ⟨x,hx,by rw[af J]⟩,q.symm⟩
  ·rw[ah q] at hd
   by_cases z:d=x.Cell
   ·rw[af z] at hd;exact absurd J hd
   ·rw[ah z] at hd;obtain⟨y,hy,e⟩:=hf.only d d0 d1 hd;refine⟨y,List.mem_map.2 ⟨y,hy,?_⟩,e⟩;rw[ah (λk=>z (by rw[<-e,Cj Gw hy hx k]))]
theorem ai1 (hm:ie w h L) (hb:L.length<=1000000) {aM:List Int} (nx:Int): ∀(m k n:Nat) (c:eo),n+m=L.length->m<k->CS c w h most (Ln w h L aM n)->c.cR.next=nx->
 ∃c',np.l0 k ((gN w h L aM).1,(gN w h L aM).2.1,(gN w h L aM).2.2,0) c ((dL w h L aM n).2.1.length:Int)=
  some ((gN w h L aM).2.1,(gN w h L aM).2.2,0,c')/\CS c' w h most (gN w h L aM).1/\c'.cR.next=nx:=by
 intro m
 induction m with
 |zero=>
  intro k n c hn hk hc hx;obtain⟨k,rfl⟩:=bl hk;have:n=L.length:=U;subst this;refine⟨c,?_,hc,hx⟩;rw[np.l0,ah (by simp[gN])]
 |succ m ih=>
  intro k n c hn hk hc hx;have aQ:n<L.length:=U;have hi:=yM hm aM n U;obtain⟨m1,m2⟩:=af0 (aM:=aM) hm (n:=n) aQ;have JZ:=Oy (w:=w) (h:=h) (l:=L) (aM:=aM) n;have Cc:=afC hm aM aQ;have NY:=hi.Kx
  by_cases z:sQ w h L aM n
  ·obtain⟨k,rfl⟩:=bl hk;have hr:=m2 z;have ajM:=(m1.2 z).1;rw[af z] at JZ Cc;have aew:((dL w h L aM (n+1)).2.1.length:Int)=((dL w h L aM n).2.1.length:Int)+1:=by rw[JZ];simp
   have AE:rd L (n:Int)∈Ln w h L aM n:=by
    rw[List.mem_filter];have:rd (dL w h L aM n).1 (n:Int)=rd L (n:Int):=hi.rest n U U;refine⟨by rw[<-this];exact ek U (by rw[hi.len];omega),?_⟩
    simpa using(hm.cell U U).2.1
   have aem:=PJ hc.us.up AE;have Gf:zG (Ln w h L aM n) (rd L (n:Int)).Id=(rd L (n:Int),true):=by unfold zG;rw[aem]
   have abx:aF.mk (rd L (n:Int)).Id (rd L (n:Int)).Cell (rd L (n:Int)).Goal=rd L (n:Int):=rfl;rw[np.l0,af (by simp only;omega),af (by simp only;omega)]
   simp only[hr,DM hc.us,Gf,aG];rw[wi U U,<-aew,abx];have aev:=hc.us.GA AE
   by_cases g:lJ w h L aM n=(rd L (n:Int)).Goal
   ·rw[af g] at Cc;obtain⟨c',e1,e2,e3⟩:=Mi hc AE;rw[af (by simpa using g)]
    rw[e1,aG];exact ih k (n+1) c' U U (by rw[Cc];exact e2) U
   ·rw[ah g] at Cc;rw[ah (by simpa using g)]
    obtain⟨u',a1,a2,a3⟩:=afZ hc.us (rd L (n:Int)).Id (lJ w h L aM n);have vG:=Sr z.1;have gF: ∀y∈Ln w h L aM n,y.Cell≠lJ w h L aM n:=λy hy=>z.2 y (List.mem_filter.1 hy).1;have NG:=hc.fl.eA;have ajO:0<(Ln w h L aM n).length:=List.length_pos_iff.2 (List.ne_nil_of_mem AE);have hle:(Ln w h L aM n).length<=L.length:=by
     have:=List.length_filter_le (λx:aF=>decide (0<=x.Cell)) (dL w h L aM n).1;rw[hi.len] at this;exact this
    have hw:mJ (w*h) c.floor (rd L (n:Int)).Cell=(rd L (n:Int)).Id:=by rw[Lm hc,FD hc AE]
    have Ge:rC (w*h) c.floor (lJ w h L aM n):=by
     refine⟨vG.2.1,vG.2.2,Classical.byContradiction λy=>?_⟩
     obtain⟨x,pZ,e⟩:=hc.fl.only _ vG.2.1 vG.2.2 y;exact gF x pZ e
    have es:Jf (w*h) c.floor (rd L (n:Int)).Cell (lJ w h L aM n)=(true,ir (ir c.floor (rd L (n:Int)).Cell 0 (-1)) (lJ w h L aM n) ((rd L (n:Int)).Id+1) 1):=by
     unfold Jf;rw[hw,af ⟨by omega,Ge⟩]
    rw[aik hc.fl.fl U,es,a1];simp only[aG];have aeG:gG (Ln w h L aM n) (rd L (n:Int)).Id (λx=>⟨x.Id,lJ w h L aM n,x.Goal⟩)=gG (Ln w h L aM n) (rd L (n:Int)).Id (λ_=>⟨(rd L (n:Int)).Id,lJ w h L aM n,(rd L (n:Int)).Goal⟩):=by
     unfold gG;refine List.map_congr_left λy hy=>?_
     by_cases q:y.Id=(rd L (n:Int)).Id
     ·rw[af q,af q,Cj hc.us.up hy AE q]
     ·rw[ah q,ah q]
    rw[aeG] at a3;refine ih k (n+1) ⟨c.w,c.h,c.most,u',ir (ir c.floor (rd L (n:Int)).Cell 0 (-1)) (lJ w h L aM n) ((rd L (n:Int)).Id+1) 1⟩ U U ?_ (by simp only;omega)
    rw[Cc];refine⟨hc.w_,hc.h_,hc.m_,hc.may,a3,abL hc.fl hc.us.up AE aev.1 vG.2.1 vG.2.2 gF,λy hy=>?_,by simpa[gG] using hc.lF⟩
    unfold gG at hy;obtain⟨y',Ea,rfl⟩:=List.mem_map.1 hy;have vB:=hc.ok y' Ea;split
    ·exact⟨vG,(hc.ok _ AE).2.1,g⟩
    ·exact vB
  ·rw[ah z,List.append_nil] at JZ;rw[ah z] at Cc;rw[<-JZ];exact ih k (n+1) c U U (by rw[Cc];exact hc) hx
theorem aa5 (hc:CS c w h most L) {aM:List Int} (hd:Ls aM L.length): ∃c',np.f c aM=some ((gN w h L aM).2.1,(gN w h L aM).2.2,0,c')/\CS c' w h most (gN w h L aM).1/\c'.cR.next=c.cR.next:=by
 unfold np.f;have hm:=hc.Vb;have kq:=hc.us.eA;have Gk:=hc.next
 rw[Mt hc,hc.w_,hc.h_];simp only[aG,go_ok hm U hd];rw[ah bj];have h0:Ln w h L aM 0=L:=by
  show L.filter _=L
  rw[List.filter_eq_self];intro x hx;simpa using(hc.ok x hx).1.2.1
 obtain⟨c',e1,e2,e3⟩:=ai1 (most:=most) hm U (aM:=aM) c.cR.next L.length fuel 0 c U (by rw[cD];omega) (by rw[h0];exact hc) J
 exact⟨c',e1,e2,e3⟩
theorem agh {w h most:Int} (hm:iA w h) (h1:1<=most) (h2:most<=65536): ∃c,vg.f w h most=some (some c)/\CS c w h most []/\c.cR.next=0:=by
 obtain⟨r,r1,r2,r3⟩:=aaM w h most;have:=r2.2 ⟨hm,h1,h2⟩;obtain⟨c,rfl⟩:=Option.isSome_iff_exists.1 this;exact⟨c,r1,(r3 c J).1,(r3 c J).2⟩
section
structure lA (S:bI) (k most b:Int) (L:List aF):Prop where
 m_:S.most=most
 mb:1<=most/\most<=100
 nav: ∃ord,iB S.nav k b ord
 cr:(S.nav.core=none/\S.fb=none/\L=[])∨ ∃c C,S.nav.core=some c/\S.fb=some C/\CS C c.aB.m.W c.aB.m.H most L/\500000*C.cR.next<=b/\ ∀u∈L,fK c.aB u.Cell≠255
 kp: ∀c,S.nav.core=some c->(c.iT.kept.isSome=true↔S.nav.fx.keys.ak≠[])
variable {S : bI} {k most b : Int} {L : List aF}
theorem O1 (c:Int):fF.f c=some (if c=0 then Er.nil else Er.num 148 c):=by
 unfold fF.f
 by_cases z:c=0<;>simp[z]
theorem R0 {n:b_} {ord:List Int} {c:dM} {goal s:Int} {r:fZ×Er×b_} (h:Dq n k b ord c goal s r):r.2.2.fx.keys.ak≠[]/\ ∃c',r.2.2.core=some c'/\c'.aB=c.aB/\c'.iT.kept.isSome=true:=by
 obtain⟨R,l,c',pz,f1,f2,f3,f4,f5,f6,f7,f8,f9,f10,f11,f12,f13,f14,f15,f16,f17,f18⟩:=h.B1;refine⟨λz=>?_,c',f7,f8,by rw[f9];rfl⟩
 obtain⟨x,x1,_⟩:=f17.now;have:=(f16.oA.sl _ _).1 x1;rw[z] at this;simp at this;omega
theorem abF {ps:List (Int×Int)} {n n':b_} (h:oL k ps n n'):(ps=[]/\n'=n)∨(ps≠[]/\n'.fx.keys.ak≠[]/\ ∃c',n'.core=some c'/\c'.iT.kept.isSome=true):=by
 cases h with
 |nil=>exact .inl ⟨J,J⟩
 |snoc h hn hc hg hs hf=>
  have:=R0 hf;obtain⟨a,c',b1,_,b3⟩:=this;exact .inr ⟨by simp,a,c',b1,b3⟩
def Lt (k:Int) (S:bI) (L:List aF) (o:cV) (S':bI) (L':List aF) (a:iq):Prop:=
 (o.Kind=1/\L'=[]/\a.ff=[]/\S'.nav.fx.keys.ak=[]/\eT S'.nav=eT S.nav/\ ∃c',S'.nav.core=some c'/\ ∀s:Int,bJ c'.aB.m.W c'.aB.m.H s->(rd c'.eD.parts s).version≠fA c'.aB s)∨
 (o.Kind=8/\L'=L/\a.ff=[]/\S'.nav.fx.keys.ak=[]/\eT S'.nav=eT S.nav/\((S.nav.core=none/\S'.nav.core=none)∨ ∃c,S.nav.core=some c/\S'.nav.core=some ⟨c.aB,c.eD,⟨none,c.iT.count⟩⟩))∨
 (o.Kind=2/\L'=L/\a.ff=[]/\eT S'.nav=eT S.nav/\ ∃c,S.nav.core=some c/\cL c.aB.m o.A/\S'.nav.core=some ⟨mM c.aB o.A o.B,c.eD,c.iT⟩)∨
 ((o.Kind=3∨o.Kind=4∨o.Kind=5)/\a.ff=[]/\S'.nav=S.nav)∨
 (o.Kind=6/\L'=L/\a.ff=[]/\ ∃c b' ord f,S.nav.core=some c/\cL c.aB.m o.A/\cL c.aB.m o.B/\iB S.nav k b' ord/\Dq S.nav k b' ord c o.A (aW c.aB.m.W c.aB.m.H o.B) (f,Er.nil,S'.nav)/\a.D=rd f.fe (dw c.aB.m.W c.aB.m.H o.B)/\a.cy=rd f.cy (dw c.aB.m.W c.aB.m.H o.B))∨
 (o.Kind=7/\ ∃c aM,S.nav.core=some c/\ie c.aB.m.W c.aB.m.H L/\oL k ((jL c.aB.m.W c.aB.m.H L).map Ee) S.nav S'.nav/\aM.length=L.length/\(∀j:Int,0<=j->j<L.length->Dn c.aB (rd L j) (rd aM j))/\L'=(gN c.aB.m.W c.aB.m.H L aM).1/\a.ff=(gN c.aB.m.W c.aB.m.H L aM).2.1/\a.hZ=(gN c.aB.m.W c.aB.m.H L aM).2.2)
def Ends (k most b:Int) (S:bI) (L:List aF) (o:cV) (r:Er×bI×iq):Prop:=
 ∃L',lA r.2.1 k most b L'/\((r.1=Er.nil/\r.2.2.Code=0/\Lt k S L o r.2.1 L' r.2.2)∨((r.1=Er.eh 0∨ ∃c,c≠0/\r.1=Er.num 148 c)/\r.2.1.nav=S.nav/\r.2.2.ff=[]/\o.Kind≠8))
theorem lA.mono {b':Int} (h:lA S k most b L) (hb:b<=b'):lA S k most b' L:=by
 obtain⟨ord,hn⟩:=h.nav;refine⟨h.m_,h.mb,⟨ord,hn.mono hb⟩,?_,h.kp⟩;rcases h.cr with z |⟨c,C,h1,h2,h3,h4,h5⟩
 ·exact .inl z
 ·exact .inr ⟨c,C,h1,h2,h3,by omega,h5⟩
abbrev a0:iq:=iq.mk 0 0 5 (-1) [] [] (fP.mk 0 0 0 0 0 0)
theorem HA {l:fS} {ord:List Int} (h:rk l k ord):ord=[]↔l.ak=[]:=by
 constructor
 ·intro z;rw[<-List.length_eq_zero_iff];apply Classical.byContradiction;intro y;have:=(h.mem 0).2 U;rw[z] at this;simp at this
 ·intro z;refine List.eq_nil_iff_forall_not_mem.2 λc hc=>?_
  have:=(h.mem c).1 hc;rw[z] at this;simp at this;omega
theorem W2 (h:lA S k most b L) (hb:0<=b/\b<=60000000000) {o:cV} (ho:rm o) (hk:o.Kind=1):
 Ok (xV.f S o.Map) (λr=>Ends k most (b+1) S L o (r.1,r.2,a0)):=by
 obtain⟨l1,l2,l3,l4,l5⟩:=ho.ld hk;obtain⟨ord,hn⟩:=h.nav;unfold xV.f;refine(Ys l1 l3).bind λv hv=>?_
 rcases hv with q |⟨q1,q2,q3,q4,q5⟩
 ·refine Ok.pos (by rcases q with q |q<;>simp[q]) (Ok.pure ⟨L,h.mono U,.inr ⟨.inr ⟨6,by omega,rfl⟩,rfl,rfl,by omega⟩⟩)
 ·refine Ok.neg (by simp[q1]) ?_
  have hm:=q2.1;have N0:P8 v.1:=⟨q2,q3,by
   have:v.1.W*v.1.H<=40*40:=ky U U U U;omega⟩
  obtain⟨n',c',e,e1,e2,e3,e4,e5,e6,e7⟩:=agk hn ⟨hb.1,by omega⟩ N0
  obtain⟨C,eC,hC,hC0⟩:=agh (w:=v.1.W) (h:=v.1.H) (most:=most) hm h.mb.1 (by have:=h.mb;omega)
  refine Ok.eq e (Ok.pos J ?_);rw[h.m_];refine Ok.eq (v:=some C) eC ?_;refine Ok.opt (Ok.eq J (Ok.pure ⟨[],⟨J,h.mb,⟨[],e2⟩,.inr ⟨c',C,e1,J,by rw[e3];exact hC,by omega,by simp⟩,λc hc=>?_⟩,.inl ⟨J,J,.inl ⟨hk,J,J,(HA e2.oA).1 J,e5,c',e1,by rw[e3];exact e6⟩⟩⟩))
  simp only at hc⊢;rw[e1] at hc;simp only[Option.some.injEq] at hc;subst hc;have:=(HA e2.oA).1 J;rw[e4,this];simp
theorem ah9 (h:lA S k most b L) (hb:0<=b/\b<=60000000000) {o:cV} (ho:rm o) (hk:o.Kind=2) {c:dM} {C:eo} (h1:S.nav.core=some c) (h2:S.fb=some C) (h3:CS C c.aB.m.W c.aB.m.H most L) (h4:500000*C.cR.next<=b) (h5: ∀u∈L,fK c.aB u.Cell≠255) (hA:cL c.aB.m o.A):
 Ok (xU.f S o.A o.B) (λr=>Ends k most (b+1) S L o (r.1,r.2,a0)):=by
 have hB:=ho.b2 hk;obtain⟨ord,hn⟩:=h.nav;unfold xU.f;refine Ok.ite (λq=>Ok.pure ⟨L,h.mono U,.inr ⟨.inr ⟨8,by omega,J⟩,J,J,by omega⟩⟩) λq=>?_
 have q: ¬(o.B<1∨o.B>255):=by simpa using q
 rw[h2];have e:dm (some C) none (λx3=>if(o.B==255)=true then((Ai.f x3 o.A).bind λv4=>some (decide (v4≥0))) else(some false))=some (decide (o.B=255/\pc L o.A≥0)):=by
  show(if(o.B==255)=true then _ else _)=_
  by_cases z:o.B=255
  ·rw[af (by simpa using z),aa6 h3];simp[z]
  ·rw[ah (by simpa using z)];simp[z]
 refine Ok.eq e (Ok.ite (λz=>Ok.pure ⟨L,h.mono U,.inr ⟨.inr ⟨10,by omega,J⟩,J,J,by omega⟩⟩) λz=>?_)
 have z: ¬(o.B=255/\pc L o.A≥0):=by simpa using z
 obtain⟨n',e1,e2,e3,e4,e5,e6⟩:=agd hn ⟨hb.1,by omega⟩ h1 hA U hB
 have hG:=(hn.core c h1).1.gs;refine Ok.eq e1 (Ok.eq J (Ok.pure ⟨L,⟨h.m_,h.mb,⟨ord,e5⟩,.inr ⟨_,C,e2,J,h3,by omega,λu hu=>?_⟩,λc' gv=>?_⟩,.inl ⟨J,J,.inr (.inr (.inl ⟨hk,J,J,e6,c,h1,hA,e2⟩))⟩⟩))
 ·have po:=(h3.ok u hu).1;have eB:cL c.aB.m u.Cell:=po.2;have hold:=h5 u hu;have e: ∀(x:Int),cL c.aB.m x->fK (mM c.aB o.A o.B) x=if x=o.A then o.B else fK c.aB x:=λx hx=>by
   have e0:fK (mM c.aB o.A o.B) x=rd (mM c.aB o.A o.B).m.C x:=by unfold fK;exact af hx
   rw[e0,Oi hG hA hx.1];split
   ·rfl
   ·unfold fK;rw[af hx]
  simp only;rw[e _ eB];split
  ·rename_i w;intro y;refine z ⟨y,?_⟩;rw[<-w,FD h3 hu];exact(US.GA h3.us hu).1
  ·exact hold
 ·simp only at gv⊢;rw[e2] at gv;simp only[Option.some.injEq] at gv;subst gv;simp only;rw[e3];exact h.kp c h1
theorem aiH (h:lA S k most b L) (hb:0<=b/\b<=60000000000) {o:cV} (hk:o.Kind=3) {c:dM} {C:eo} (h1:S.nav.core=some c) (h2:S.fb=some C) (h3:CS C c.aB.m.W c.aB.m.H most L) (h4:500000*C.cR.next<=b) (h5: ∀u∈L,fK c.aB u.Cell≠255):
 Ok (xX.f S o.A o.B) (λr=> ∀a:iq,a.ff=[]->a.Code=0->Ends k most (b+500000) S L o (r.2.1,r.2.2,a)):=by
 obtain⟨ord,hn⟩:=h.nav;unfold xX.f;refine Ok.eq (KC hn h1 _) (Ok.ite (λq=>Ok.pure λa ha _=>⟨L,h.mono U,.inr ⟨.inr ⟨9,by omega,J⟩,J,ha,by omega⟩⟩) λq=>?_)
 have q:fK c.aB o.A≠255:=by simpa using q
 rw[h2];obtain⟨C',e1,e2,e3⟩:=aa4 h3 U o.A o.B;refine Ok.opt (Ok.eq e1 (Ok.eq (O1 _) (Ok.pure λa ha TO=>⟨(nj c.aB.m.W c.aB.m.H most L C.cR.next o.A o.B).2.2,⟨h.m_,h.mb,⟨ord,hn.mono U⟩,.inr ⟨c,C',h1,J,e2,?_,λu hu=>?_⟩,h.kp⟩,?_⟩)))
 ·have:C'.cR.next<=C.cR.next+1:=by rw[e3];split<;>omega
  omega
 ·unfold nj at hu
  repeat' split at hu
  all_goals first
   |exact h5 u hu
   |(rcases List.mem_append.1 hu with z |z
     ·exact h5 u z
     ·simp only[List.mem_cons,List.not_mem_nil,or_false] at z;rw[z];exact q)
 ·by_cases z:(nj c.aB.m.W c.aB.m.H most L C.cR.next o.A o.B).2.1=0
  ·rw[af z];exact .inl ⟨J,TO,.inr (.inr (.inr (.inl ⟨.inl hk,ha,J⟩)))⟩
  ·rw[ah z];exact .inr ⟨.inr ⟨_,z,J⟩,J,ha,by omega⟩
theorem aiF (h:lA S k most b L) (hb:0<=b/\b<=60000000000) {o:cV} (hk:o.Kind=6) {c:dM} {C:eo} (h1:S.nav.core=some c) (h2:S.fb=some C) (h3:CS C c.aB.m.W c.aB.m.H most L) (h4:500000*C.cR.next<=b) (h5: ∀u∈L,fK c.aB u.Cell≠255):
 Ok (xW.f S a0 o.A o.B) (λr=>Ends k most (b+5000) S L o (r.1,r.2.1,r.2.2)):=by
 obtain⟨ord,hn⟩:=h.nav;unfold xW.f;refine(agl hn ⟨hb.1,by omega⟩ h1 o.A o.B).bind λv hv=>?_
 rcases hv with⟨a1,a2,a3,f,a4,a5,a6⟩ |⟨a1,a2,a3⟩
 ·rw[a3];obtain⟨g1,c',g2,g3,g4⟩:=R0 a4;obtain⟨R,l,c2,pz,f1,f2,f3,f4,f5,f6,f7,f8,f9,f10,f11,f12,f13,f14,f15,f16,f17,f18⟩:=a4.B1;refine Ok.pos J (Ok.eq J (Ok.pure ⟨L,⟨h.m_,h.mb,⟨pz,f16⟩,.inr ⟨c',C,g2,h2,by rw[g3];exact h3,by omega,by rw[g3];exact h5⟩,λc3 vv=>?_⟩,.inl ⟨J,J,.inr (.inr (.inr (.inr (.inl ⟨hk,J,J,c,b,ord,f,h1,a1,a2,hn,a4,a5,a6⟩))))⟩⟩))
  simp only at g2 vv⊢;rw[g2] at vv;simp only[Option.some.injEq] at vv;subst vv;exact⟨λ_=>g1,λ_=>g4⟩
 ·rw[a2,a3];exact Ok.neg bj (Ok.eq J (Ok.pure ⟨L,h.mono U,.inr ⟨.inr ⟨7,by omega,J⟩,J,J,by omega⟩⟩))
end
section
variable {S : bI} {k most b : Int} {L : List aF}
theorem Yq {w h:Int} {aM:List Int} (hm:ie w h L): ∀n:Nat,n<=L.length-> ∀u∈pU (dL w h L aM n) n,∃j:Int,0<=j/\j<n/\(u.Cell=(rd L j).Cell∨(0<=rd aM j/\rd aM j<=3/\u.Cell=cB w h (rd L j).Cell (rd aM j)/\0<=u.Cell)):=by
 intro n
 induction n with
 |zero=>intro _ u hu;simp[pU] at hu
 |succ n ih=>
  intro hn u hu;rw[LQ hm U] at hu;rcases List.mem_append.1 hu with z |z
  ·obtain⟨j,j0,j1,q⟩:=ih U u z;exact⟨j,j0,by omega,q⟩
  ·split at z
   ·rename_i y;simp only[List.mem_cons,List.not_mem_nil,or_false] at z;subst z;refine⟨n,by omega,by omega,?_⟩
    simp only;unfold Ek at y⊢;split at y
    ·rename_i c;rw[af c];split at y
     ·omega
     ·rename_i g;rw[ah g];refine .inr ?_;have hc:=c.1;unfold dA at hc;have hd:0<=rd aM (n:Int)/\rd aM (n:Int)<=3:=Classical.byContradiction λq=>by rw[ah q] at hc;omega
      refine⟨hd.1,hd.2,?_,y⟩
      show dA w h (rd L (n:Int)) (rd aM (n:Int))=_
      unfold dA;rw[af hd]
    ·rename_i c;rw[ah c];exact .inl J
   ·simp at z
theorem aiS (h:lA S k most b L) (hb:0<=b/\b<=60000000000) {o:cV} (hk:o.Kind=7) {c:dM} {C:eo} (h1:S.nav.core=some c) (h2:S.fb=some C) (h3:CS C c.aB.m.W c.aB.m.H most L) (h4:500000*C.cR.next<=b) (h5: ∀u∈L,fK c.aB u.Cell≠255):
 Ok (xY.f S a0) (λr=>Ends k most (b+500000) S L o (r.1,r.2.1,r.2.2)):=by
 obtain⟨ord,hn⟩:=h.nav;have hG:=(hn.core c h1).1.gs;have hmb:=h.mb;have JR:=h3.lF;have hm:=h3.Vb;have mP:(jL c.aB.m.W c.aB.m.H L).length<=L.length:=by
  have:=Kq _ (OS hm).some_;rw[KO] at this;exact this
 unfold xY.f;rw[h2];refine Ok.opt (Ok.eq (Mt h3) ((aa9 hn ⟨hb.1,by omega⟩ h1 hm U (λu hu=>(h3.ok u hu).2.1.2)).bind λr hr=>?_))
 obtain⟨r1,px,pz,r2,r3,⟨c',r4,WB⟩,r5,r6,r7⟩:=hr;rw[r1,r2];refine Ok.neg (by simp[Er.isNil]) ?_
 simp only[h2];have aek:Ls r.1 L.length:=by
  refine⟨r6,λd hd=>?_⟩
  obtain⟨j,j0,j1,rfl⟩:=jI hd;obtain⟨R,l,f,d1,d2,d3,d4,d5,d6⟩:=r7 j j0 U;have hc:=(h3.ok _ (ek j0 U)).1;have l7:=C4 hG hc.2;rw[d6,d5.dir _ l7.1 l7.2.1];exact abj _
 obtain⟨C',e1,e2,e3⟩:=aa5 h3 aek;refine Ok.opt (Ok.eq e1 (Ok.eq J (Ok.pure ⟨(gN c.aB.m.W c.aB.m.H L r.1).1,⟨h.m_,h.mb,⟨pz,r3.mono U⟩,.inr ⟨c',C',r4,J,by rw[WB];exact e2,by omega,λu hu=>?_⟩,λc3 vv=>?_⟩,.inl ⟨J,J,.inr (.inr (.inr (.inr (.inr ⟨hk,c,r.1,h1,hm,r5,r6,r7,J,J,J⟩))))⟩⟩)))
 ·rw[WB];have po:u∈pU (dL c.aB.m.W c.aB.m.H L r.1 L.length) L.length:=by
   unfold gN at hu;unfold pU;rw[List.take_of_length_le (by have:=(yM hm r.1 L.length (Nat.le_refl _)).len;omega)]
   exact hu
  obtain⟨j,j0,j1,q⟩:=Yq hm L.length (Nat.le_refl _) u po;have hj:=ek j0 j1;rcases q with q |⟨q0,q3,q4,q5⟩
  ·rw[q];exact h5 _ hj
  ·obtain⟨R,l,f,d1,d2,d3,d4,d5,d6⟩:=r7 j j0 j1;have:=aa8 hG d3.1 (h3.ok _ hj).1.2 d4 d5 d6 q0 q3;rw[q4];exact this.2
 ·simp only at vv⊢;rcases abF r5 with⟨_,z⟩ |⟨_,z1,c4,z2,z3⟩
  ·rw[z] at vv⊢;exact h.kp c3 vv
  ·rw[z2] at vv;simp only[Option.some.injEq] at vv;subst vv;exact⟨λ_=>z1,λ_=>z3⟩
theorem ahW {ord:List Int} {c:dM} (hn:iB S.nav k b ord) (h1:S.nav.core=some c) (o:cV):
 Ok (uJ.f S o) (λe=>(e=Er.nil/\(o.Kind=3∨o.Kind=2->cL c.aB.m o.A))∨(e=Er.num 148 7/\o.Kind≠8)):=by
 have hG:=(hn.core c h1).1.gs;have cn: ∀x,fK c.aB x≠0->cL c.aB.m x:=λx hx=>Classical.byContradiction λz=>hx (by unfold fK;rw[ah z])
 unfold uJ.f;refine Ok.ite (λq=>Ok.eq (KC hn h1 _) (Ok.ite (λ_=>Ok.pure (.inr ⟨J,by simp at q;omega⟩)) λ_=>Ok.eq (KC hn h1 _) (Ok.ite (λ_=>Ok.pure (.inr ⟨J,by simp at q;omega⟩)) λz=>Ok.pure (.inl ⟨J,λ_=>cn _ (by simpa using z)⟩)))) λq=>Ok.ite (λq=>Ok.eq (KC hn h1 _) (Ok.ite (λ_=>Ok.pure (.inr ⟨J,by simp at q;omega⟩)) λz=>Ok.pure (.inl ⟨J,λ_=>cn _ (by simpa using z)⟩))) λq'=>Ok.pure (.inl ⟨J,λz=>?_⟩)
 simp at q q';omega
theorem Ends.mono {o:cV} {r:Er×bI×iq} {b':Int} (h:Ends k most b S L o r) (hb:b<=b'):Ends k most b' S L o r:=by
 obtain⟨L',h1,h2⟩:=h;exact⟨L',h1.mono hb,h2⟩
theorem ah3 (h:lA S k most b L) (hb:0<=b/\b<=60000000000) {o:cV} (ho:rm o):Ok (xS.f S o a0) (Ends k most (b+500000) S L o):=by
 obtain⟨ord,hn⟩:=h.nav;unfold xS.f;have no: ∀e:Er,(e=Er.eh 0∨ ∃c,c≠0/\e=Er.num 148 c)->o.Kind≠8->Ends k most (b+500000) S L o (e,S,a0):=λe he h8=>⟨L,h.mono U,.inr ⟨he,J,J,h8⟩⟩
 by_cases NR:o.Kind=0
 ·rw[af (by simpa using NR)]
  exact Ok.eq J (Ok.pos J (Ok.pure (no _ (.inl J) U)))
 rw[ah (by simpa using NR),agB ho NR]
 refine Ok.eq J (Ok.neg bj ?_);have hkr:=ho.k;have fin: ∀(r:Er×bI×iq),Ends k most (b+500000) S L o r->Ok (some (r.1,r.2.1,iq.mk r.2.2.Code r.2.2.D r.2.2.cy r.2.2.Id r.2.2.ff r.2.2.hZ (fP.mk r.2.2.Stats.bn r.2.2.Stats.bB r.2.2.Stats.bz r.2.2.Stats.bx r.2.2.Stats.bE r.2.2.Stats.bC))) (Ends k most (b+500000) S L o):=λr hr=>Ok.pure hr
 rcases h.cr with⟨n1,n2,n3⟩ |⟨c,C,h1,h2,h3,h4,h5⟩
 ·rw[n2];have e:(dm (none:Option eo) (if(o.Kind !=1)=true then(some (o.Kind !=8)) else(some false)) (λx6=>some false))=some (decide (o.Kind≠1/\o.Kind≠8)):=by
   show(if(o.Kind !=1)=true then _ else _)=_
   by_cases z:o.Kind=1
   ·rw[ah (by simp[z])];simp[z]
   ·rw[af (by simpa using z)];simp only[Option.some.injEq];rw[Bool.eq_iff_iff];simp[z]
  refine Ok.eq e (Ok.ite (λw=>Ok.pure (no _ (.inr ⟨4,by omega,J⟩) (of_decide_eq_true w).2)) λq=>?_)
  have q:o.Kind=1∨o.Kind=8:=by have:=of_decide_eq_false (by simpa using q:decide (o.Kind≠1/\o.Kind≠8)=false);omega
  have ec:uJ.f S o=some Er.nil:=by
   unfold uJ.f;rw[ah bk,ah bk]
  refine Ok.eq ec (Ok.neg (by simp[Er.isNil]) ?_)
  rcases q with q |q
  ·rw[af (by simpa using q)]
   obtain⟨r,er,hr⟩:=W2 h ⟨hb.1,by omega⟩ ho q
   rw[er];exact Ok.eq J (fin (r.1,r.2,a0) (hr.mono U))
  ·rw[ah (by simp[q]),af (by simpa using q)]
   obtain⟨n',e1,e2,e3,e4,e5,e6⟩:=Vn hn;have e6:n'.core=none:=by
    rcases e6 with z |⟨c,z,_⟩
    ·exact z.2
    ·rw[n1] at z;simp at z
   rw[e1];refine Ok.eq J (fin (Er.nil,⟨S.most,n',none⟩,a0) ⟨L,⟨h.m_,h.mb,⟨[],e2.mono U⟩,.inl ⟨e6,J,n3⟩,λc hc=>by simp only at hc;rw[e6] at hc;simp at hc⟩,.inl ⟨J,J,.inr (.inl ⟨q,J,J,(HA e2.oA).1 J,e3,.inl ⟨n1,e6⟩⟩)⟩⟩)
 ·rw[h2];refine Ok.eq (v:=false) J (Ok.neg bj ?_);refine(ahW hn h1 o).bind λe he=>?_
  rcases he with⟨rfl,cn⟩ |⟨rfl,h8⟩
  rotate_left
  ·exact Ok.pos J (Ok.pure (no _ (.inr ⟨7,by omega,J⟩) h8))
  refine Ok.neg (by simp[Er.isNil]) ?_
  by_cases k1:o.Kind=1
  ·rw[af (by simpa using k1)]
   obtain⟨r,er,hr⟩:=W2 h ⟨hb.1,by omega⟩ ho k1
   rw[er];exact Ok.eq J (fin (r.1,r.2,a0) (hr.mono U))
  rw[ah (by simpa using k1)]
  by_cases k8:o.Kind=8
  ·rw[af (by simpa using k8)]
   obtain⟨n',e1,e2,e3,e4,e5,e6⟩:=Vn hn;rcases e6 with z |⟨c2,z1,z2⟩
   ·rw[h1] at z;simp at z
   rw[h1] at z1;simp only[Option.some.injEq] at z1;subst z1;rw[e1];refine Ok.eq J (fin (Er.nil,⟨S.most,n',some C⟩,a0) ⟨L,⟨h.m_,h.mb,⟨[],e2.mono U⟩,.inr ⟨_,C,z2,J,h3,by omega,h5⟩,λc' gv=>?_⟩,.inl ⟨J,J,.inr (.inl ⟨k8,J,J,(HA e2.oA).1 J,e3,.inr ⟨c,h1,z2⟩⟩)⟩⟩)
   simp only at gv⊢;rw[z2] at gv;simp only[Option.some.injEq] at gv;subst gv;rw[(HA e2.oA).1 J];simp
  rw[ah (by simpa using k8)]
  by_cases k2:o.Kind=2
  ·rw[af (by simpa using k2)]
   obtain⟨r,er,hr⟩:=ah9 h ⟨hb.1,by omega⟩ ho k2 h1 h2 h3 h4 h5 (cn (.inr k2))
   rw[er];exact Ok.eq J (fin (r.1,r.2,a0) (hr.mono U))
  rw[ah (by simpa using k2)]
  by_cases k3:o.Kind=3
  ·rw[af (by simpa using k3)]
   obtain⟨r,er,hr⟩:=aiH h hb k3 h1 h2 h3 h4 h5;rw[er];exact Ok.eq J (fin (r.2.1,r.2.2,⟨0,0,5,r.1,[],[],⟨0,0,0,0,0,0⟩⟩) ((hr _ J J).mono U))
  rw[ah (by simpa using k3)]
  by_cases k4:o.Kind=4
  ·rw[af (by simpa using k4)]
   obtain⟨C',e1,e2,e3⟩:=aaX h3 o.A o.B;have hS:lA ⟨S.most,S.nav,some C'⟩ k most (b+500000) (wW c.aB.m.W c.aB.m.H L o.A o.B).2:=⟨h.m_,h.mb,⟨ord,hn.mono U⟩,.inr ⟨c,C',h1,J,e2,by omega,λu hu=>by
    unfold wW at hu
    repeat' split at hu
    all_goals first
     |exact h5 u hu
     |exact h5 u (Mw hu)
     |(unfold gG at hu
       obtain⟨x,hx,rfl⟩:=List.mem_map.1 hu;split
       ·exact h5 x hx
       ·exact h5 x hx)⟩,h.kp⟩
   refine Ok.bind (P:=λr=>r=((if(wW c.aB.m.W c.aB.m.H L o.A o.B).1=0 then Er.nil else Er.num 148 (wW c.aB.m.W c.aB.m.H L o.A o.B).1),(0:Int),(0:Int),(5:Int),(-1:Int),([]:List fg),([]:List Int),(0:Int),(0:Int),(0:Int),(0:Int),(0:Int),(0:Int),(⟨S.most,S.nav,some C'⟩:bI))) (Ok.opt (Ok.eq e1 (Ok.eq (O1 _) (Ok.pure J)))) λr hr=>?_
   subst hr;refine fin ((if(wW c.aB.m.W c.aB.m.H L o.A o.B).1=0 then Er.nil else Er.num 148 (wW c.aB.m.W c.aB.m.H L o.A o.B).1),⟨S.most,S.nav,some C'⟩,a0) ⟨_,hS,?_⟩
   by_cases z:(wW c.aB.m.W c.aB.m.H L o.A o.B).1=0
   ·rw[af z];exact .inl ⟨J,J,.inr (.inr (.inr (.inl ⟨.inr (.inl k4),J,J⟩)))⟩
   ·rw[ah z];exact .inr ⟨.inr ⟨_,z,J⟩,J,J,by omega⟩
  rw[ah (by simpa using k4)]
  by_cases k5:o.Kind=5
  ·rw[af (by simpa using k5)]
   obtain⟨C',e1,e2,e3⟩:=aaA h3 o.A;have hS:lA ⟨S.most,S.nav,some C'⟩ k most (b+500000) (wV L o.A).2:=⟨h.m_,h.mb,⟨ord,hn.mono U⟩,.inr ⟨c,C',h1,J,e2,by omega,λu hu=>by
    unfold wV at hu;split at hu
    ·exact h5 u (Mw hu)
    ·exact h5 u hu⟩,h.kp⟩
   refine Ok.bind (P:=λr=>r=((if(wV L o.A).1=0 then Er.nil else Er.num 148 (wV L o.A).1),(0:Int),(0:Int),(5:Int),(-1:Int),([]:List fg),([]:List Int),(0:Int),(0:Int),(0:Int),(0:Int),(0:Int),(0:Int),(⟨S.most,S.nav,some C'⟩:bI))) (Ok.opt (Ok.eq e1 (Ok.eq (O1 _) (Ok.pure J)))) λr hr=>?_
   subst hr;refine fin ((if(wV L o.A).1=0 then Er.nil else Er.num 148 (wV L o.A).1),⟨S.most,S.nav,some C'⟩,a0) ⟨_,hS,?_⟩
   by_cases z:(wV L o.A).1=0
   ·rw[af z];exact .inl ⟨J,J,.inr (.inr (.inr (.inl ⟨.inr (.inr k5),J,J⟩)))⟩
   ·rw[ah z];exact .inr ⟨.inr ⟨_,z,J⟩,J,J,by omega⟩
  rw[ah (by simpa using k5)]
  by_cases k6:o.Kind=6
  ·rw[af (by simpa using k6)]
   obtain⟨r,er,hr⟩:=aiF h ⟨hb.1,by omega⟩ k6 h1 h2 h3 h4 h5
   rw[er];exact Ok.eq J (fin r (hr.mono U))
  rw[ah (by simpa using k6),af bk]
  obtain⟨r,er,hr⟩:=aiS h ⟨hb.1,by omega⟩ (show o.Kind=7 by omega) h1 h2 h3 h4 h5
  rw[er];exact Ok.eq J (fin r (hr.mono U))
theorem ahY (q c:Int):De.f (Er.wrap 110 [q] (Er.num 148 c))=some c:=rfl
theorem ahX (q:Int):De.f (Er.wrap 110 [q] (Er.eh 0))=some 5:=rfl
theorem XL (h:lA S k most b L) (hb:0<=b/\b<=60000000000) {o:cV} (ho:rm o):
 Ok (ma.f S o) (λr=> ∃L',lA r.2 k most (b+500000) L'/\r.1.Stats=eT r.2.nav/\((r.1.Code=0/\Lt k S L o r.2 L' r.1)∨(r.1.Code≠0/\r.2.nav=S.nav/\r.1.ff=[]/\o.Kind≠8))):=by
 unfold ma.f;refine(ah3 h hb ho).bind λr hr=>?_
 obtain⟨L',h1,h2⟩:=hr;obtain⟨ord,hn⟩:=h1.nav;have iK:tu.f r.2.1=some (eT r.2.1.nav):=by
  unfold tu.f;rw[Xb hn ⟨by omega,by omega⟩];rfl
 rcases h2 with⟨e,z,q⟩ |⟨e |⟨c,c0,e⟩,z,q⟩
 ·rw[e];exact Ok.neg (by simp[Er.isNil]) (Ok.eq iK (Ok.pure ⟨L',h1,J,.inl ⟨z,q⟩⟩))
 ·rw[e];exact Ok.pos J (Ok.eq (ahX _) (Ok.eq iK (Ok.pure ⟨L',h1,J,.inr ⟨by simp,z,q⟩⟩)))
 ·rw[e];exact Ok.pos J (Ok.eq (ahY _ _) (Ok.eq iK (Ok.pure ⟨L',h1,J,.inr ⟨c0,z,q⟩⟩)))
end
theorem ZN:EN.f=some true:=ay
section
variable {S : bI} {k most b : Int} {L : List aF}
theorem ait {k most:Int} (k1:1<=k) (k2:k<=1000000) (m1:1<=most) (m2:most<=100): ∃S,tr.f k most=some (some S)/\lA S k most 0 []/\S.nav.core=none/\eT S.nav=⟨0,0,0,0,0,0⟩:=by
 obtain⟨n,e,h1,h2,h3⟩:=agn k1 k2;unfold tr.f;rw[ah bk,e];exact⟨_,J,⟨J,⟨m1,m2⟩,⟨[],h1⟩,.inl ⟨h2,J,J⟩,λc hc=>by simp only at hc;rw[h2] at hc;simp at hc⟩,h2,h3⟩
def Cv (S:bI):aL:=match S.nav.core with |none=>⟨0,0,[]⟩ |some c=>c.aB.m
theorem U' {c:dM} (hc:S.nav.core=some c):Cv S=c.aB.m:=by unfold Cv;rw[hc]
theorem air (h:lA S k most b L):xR.f S=some (Cv S):=by
 obtain⟨ord,hn⟩:=h.nav;unfold xR.f Cv
 cases hc:S.nav.core with
 |none=>unfold vQ.f;rw[hc];rfl
 |some c=>rw[agm hn hc];rfl
theorem aiX (h:lA S k most b L):tv.f S=some L:=by
 unfold tv.f;rcases h.cr with⟨_,h2,h3⟩ |⟨c,C,h1,h2,h3,_⟩
 ·rw[h2,h3];rfl
 ·rw[h2]
  show(vd.f C).bind _=_
  rw[Mt h3];rfl
theorem aiI (h:lA S k most b L) (hb:0<=b/\b<=100000000000):tu.f S=some (eT S.nav):=by
 obtain⟨ord,hn⟩:=h.nav;unfold tu.f;rw[Xb hn hb];rfl
theorem abz (l:List sK) {n:Int} (h:0<=n): ∃r,wv.f l n=some r:=by
 unfold wv.f
 by_cases z:n<(l.length:Int)
 ·simp only[af z];exact⟨n,by rw[af U]⟩
 ·simp only[ah z];exact⟨_,by rw[af U]⟩
end
section
variable {S : bI} {k most b : Int} {L : List aF}
theorem abK {g:bA} {M:dC} (h:oP g M):mm g M M.parts.length=[]:=by
 rw[List.eq_nil_iff_forall_not_mem];intro s hs;obtain⟨a,b,c⟩:=Jb.1 hs;exact c (h.all s ⟨a,by have:=h.ms.len_;omega⟩)
theorem R4 {ps:List (Int×Int)} {n n':b_} (h:oL k ps n n') {c:dM} (hc:n.core=some c):(ps=[]/\n'=n)∨(ps≠[]/\ ∃c',n'.core=some c'/\c'.aB=c.aB/\oP c.aB c'.eD/\c'.eD.count=c.eD.count+(mm c.aB c.eD c.eD.parts.length).length/\n'.aV=n.aV/\n'.fx.count.bn=n.fx.count.bn):=by
 induction h with
 |nil n=>exact .inl ⟨J,J⟩
 |snoc h hn ox hg hs hf ih=>
  refine .inr ⟨by simp,?_⟩
  obtain⟨R,l,c',pz,_,_,_,_,_,_,g1,g2,g3,g4,g5,g6,g7,g8,g9,g10,g11,g12⟩:=hf.B1;have gr:=g11.eA.1;rcases ih hc with⟨_,e2⟩ |⟨_,c2,q1,q2,q3,q4,q5,q6⟩
  ·subst e2;rw[ox] at hc;simp only[Option.some.injEq] at hc;subst hc;exact⟨c',g1,g2,g4,g6,g12.1,gr⟩
  ·rw[ox] at q1;simp only[Option.some.injEq] at q1;subst q1;rw[q2] at g4 g6 g2;rw[abK q3] at g6;exact⟨c',g1,g2,g4,by rw[g6,q4];simp,by rw[g12.1,q5],by rw[<-q6];exact gr⟩
def ja (S:bI):List Bool:=match S.nav.core with |none=>[] |some c=>(List.range c.eD.parts.length).map (sC c.aB c.eD)
def tL (D:List Bool) (i:Nat):List Int:=((List.range i).filter (λj:Nat=>rd D (j:Int))).map Int.ofNat
theorem PC (D:List Bool) (i:Nat):tL D (i+1)=if rd D (i:Int)=true then tL D i++[(i:Int)] else tL D i:=by
 unfold tL;rw[List.range_succ,List.filter_append,List.map_append]
 by_cases z:rd D (i:Int)=true<;>simp[z]
theorem PB (D:List Bool) (i:Nat):(tL D i).length<=i:=by
 unfold tL;simp only[List.length_map];have:=List.length_filter_le (λj:Nat=>rd D (j:Int)) (List.range i);simpa using this
theorem Xl (D:List Bool) (i:Nat): ∀d:Nat,∃t,tL D (i+d)=tL D i++t
 |0=>⟨[],by simp⟩
 |d+1=>by
  obtain⟨t,e⟩:=Xl D i d;rw[show i+(d+1)=i+d+1 by omega,PC,e]
  split
  ·exact⟨t++[((i+d:Nat):Int)],by simp⟩
  ·exact⟨t,J⟩
theorem Aj {c:dM} (hc:S.nav.core=some c):(ja S).length=c.eD.parts.length:=by unfold ja;rw[hc];simp
theorem FO {c:dM} (hc:S.nav.core=some c) {j:Nat} (hj:j<c.eD.parts.length):rd (ja S) (j:Int)=sC c.aB c.eD j:=by
 unfold ja;rw[hc];simp only;rw[xH U bk,AZ (by simpa using hj)];simp
theorem RX {c:dM} (hc:S.nav.core=some c):mm c.aB c.eD c.eD.parts.length=tL (ja S) (ja S).length:=by
 rw[Aj hc];unfold mm tL
 congr 1
 refine List.filter_congr λj hj=>?_
 rw[List.mem_range] at hj;rw[FO hc hj]
theorem ah2 (h:lA S k most b L):uI.f S=some (tL (ja S) (ja S).length):=by
 obtain⟨ord,hn⟩:=h.nav;unfold uI.f
 cases hc:S.nav.core with
 |none=>
  have:ja S=[]:=by unfold ja;rw[hc]
  rw[this];unfold vP.f;rw[hc];rfl
 |some c=>rw[aga hn hc,RX hc];rfl
theorem RY (h:lA S k most b L):(ja S).length<=4096:=by
 obtain⟨ord,hn⟩:=h.nav
 cases hc:S.nav.core with
 |none=>unfold ja;rw[hc];simp
 |some c=>
  rw[Aj hc];have:=(hn.core c hc).1.ms.len_;have:=oq c.aB.m.W c.aB.m.H;omega
end
section
variable {S S' : bI} {k most b : Int} {L L' : List aF} {x : List cV} {i : Int} {a : iq} {D : List Bool} {kG : fP} {m : aL}
theorem abg (hD:D.length<=4096): ∀(n q j:Nat),D.length-j<=n->n<q->j<=D.length->dB.l3 q D (a,S) (tL D D.length) ((tL D j).length:Int) (j:Int)=some (Sum.inr (S,D)):=by
 have fin: ∀(q j:Nat),j=D.length->dB.l3 (q+1) D (a,S) (tL D D.length) ((tL D j).length:Int) (j:Int)=some (Sum.inr (S,D)):=λq j hj=>by
  rw[dB.l3,ah U,hj,ah bj]
 intro n
 induction n with
 |zero=>
  intro q j hn hq hj;obtain⟨q,rfl⟩:=bl hq;exact fin q j U
 |succ n ih=>
  intro q j hn hq hj;obtain⟨q,rfl⟩:=bl hq
  by_cases z:j<D.length
  ·have hle:=PB D j;have hs:=PC D j;have hi:=ih q (j+1) U U U;rw[dB.l3,af U,af ⟨by omega,by omega⟩]
   by_cases y:rd D (j:Int)=true
   ·rw[af y] at hs;obtain⟨t,e⟩:=Xl D (j+1) (D.length-(j+1));rw[show j+1+(D.length-(j+1))=D.length by omega,hs] at e
    have hlen:(tL D j).length<(tL D D.length).length:=by rw[e];simp
    have D7:rd (tL D D.length) ((tL D j).length:Int)=(j:Int):=by
     rw[e,List.append_assoc,AZ bj];simp
    rw[af y,ah U,af ⟨by omega,by omega⟩,D7,aG,ah bj,wi U U,wi U U]
    rw[hs,List.length_append] at hi;exact hi
   ·rw[ah y] at hs;rw[ah y,wi U U];rw[hs] at hi;exact hi
  ·exact fin q j U
theorem abf (hD:D.length<=4096): ∀(n q:Nat) (E:List Bool) (j:Int),(D.length-j).toNat<=n->n<q->0<=j->E.length=D.length->(∀i:Int,0<=i->i<j->i<E.length->rd E i=true)-> ∃F,dB.l2 q E j=some F/\F.length=D.length/\ ∀i:Int,0<=i->i<F.length->rd F i=true:=by
 have fin: ∀(q:Nat) (E:List Bool) (j:Int),¬j<D.length->E.length=D.length->(∀i:Int,0<=i->i<j->i<E.length->rd E i=true)-> ∃F,dB.l2 (q+1) E j=some F/\F.length=D.length/\ ∀i:Int,0<=i->i<F.length->rd F i=true:=λq E j hj hE h=>by
  rw[dB.l2,ah U];exact⟨E,J,hE,λi i0 i1=>h i i0 U i1⟩
 intro n
 induction n with
 |zero=>
  intro q E j hn hq j0 hE h;obtain⟨q,rfl⟩:=bl hq;exact fin q E j U hE h
 |succ n ih=>
  intro q E j hn hq j0 hE h;obtain⟨q,rfl⟩:=bl hq
  by_cases z:j<D.length
  ·rw[dB.l2,af U,af ⟨j0,by omega⟩,wi U U]
   refine ih q _ (j+1) U U U (by simpa using hE) λi i0 i1 i2=>?_
   rw[List.length_set] at i2;rw[j5 j0 U i0];split
   ·rfl
   ·exact h i i0 U i2
  ·exact fin q E j z hE h
theorem abe (r:iq×bI) (hD:D.length<=4096): ∀(n q j:Nat),D.length-j<=n->n<q->j<=D.length->dB.l1 q x D i kG L r m ((tL D j).length:Int) (j:Int)=dB.l1 1 x D i kG L r m ((tL D D.length).length:Int) (D.length:Int):=by
 have fin: ∀(q j:Nat),j=D.length->dB.l1 (q+1) x D i kG L r m ((tL D j).length:Int) (j:Int)=dB.l1 1 x D i kG L r m ((tL D D.length).length:Int) (D.length:Int):=λq j hj=>by
  rw[hj,dB.l1,dB.l1,ah (c:=(D.length:Int)<D.length) U,ah (c:=(D.length:Int)<D.length) U]
 intro n
 induction n with
 |zero=>
  intro q j hn hq hj;obtain⟨q,rfl⟩:=bl hq;exact fin q j U
 |succ n ih=>
  intro q j hn hq hj;obtain⟨q,rfl⟩:=bl hq
  by_cases z:j<D.length
  ·have hle:=PB D j;have hs:=PC D j;have hi:=ih q (j+1) U U U;rw[<-hi,dB.l1,af U,af (c:=0<=(j:Int)/\(j:Int)<(List.length D:Int)) ⟨by omega,by omega⟩]
   by_cases y:rd D (j:Int)=true
   ·rw[af y] at hs;rw[af y,aG,wi U U,wi U U,hs,List.length_append];rfl
   ·rw[ah y] at hs;rw[ah y,aG,wi U U,hs];rfl
  ·exact fin q j U
structure PZ (o:cV) (a:iq) (asks:Bool) (m:aL) (D E:List Bool) (kG:fP) (L:List aF):Prop where
 LU:asks=decide (a.Code=0/\(o.Kind=6∨(o.Kind=7/\L≠[])))
 yes:asks=true->a.Stats.bn=kG.bn+(tL D D.length).length/\0<=kG.bn/\kG.bn<=1000000000000/\E=List.replicate D.length false
 no:asks=false->a.Stats=kG
 load:a.Code=0->o.Kind=1->(E.length:Int)=dO m.W m.H/\ ∀i:Int,0<=i->i<E.length->rd E i=true
 edit:a.Code=0->o.Kind=2->0<=aW m.W m.H o.A/\aW m.W m.H o.A<D.length/\E=List.set D (aW m.W m.H o.A).toNat true
 same:asks=false-> ¬(a.Code=0/\(o.Kind=1∨o.Kind=2))->E=D
theorem abh {asks:Bool} {E:List Bool} (hi:0<=i/\i<x.length) (h:PZ (rd x i) a asks m D E kG L) (hD:D.length<=4096) (hE:E.length<=4096) (hd:uI.f S'=some (tL E E.length)):
 dB.l1 1 x D i kG L (a,S') m ((tL D D.length).length:Int) (D.length:Int)=some (Sum.inr (S',E)):=by
 have hle:=PB D D.length;have e25:(if(a.Code==0)=true then(if(0<=i/\i<(List.length x:Int)) then(if((rd x i).Kind==6)=true then(some true) else(if((rd x i).Kind==7)=true then(some (decide ((List.length L:Int)>0))) else(some false))) else none) else(some false))=some asks:=by
  rw[h.LU]
  by_cases c0:a.Code=0
  ·rw[af (by simpa using c0),af hi]
   by_cases k6:(rd x i).Kind=6
   ·rw[af (by simpa using k6)];simp[c0,k6]
   ·rw[ah (by simpa using k6)]
    by_cases k7:(rd x i).Kind=7
    ·rw[af (by simpa using k7)]
     simp only[c0,k7,Option.some.injEq,true_and];rw[decide_eq_decide];constructor
     ·intro z;exact .inr (by intro e;rw[e] at z;simp at z)
     ·rintro(z |z)
      ·omega
      ·have:=List.length_pos_iff.2 z;omega
    ·rw[ah (by simpa using k7)];simp[k6,k7]
  ·rw[ah (by simpa using c0)];simp[c0]
 have tX:(if asks=true then(if(a.Stats.bn !=(dU (kG.bn+(dU ((tL D D.length).length:Int)))))=true then(some true) else(if(!asks)=true then(some (!((a.Stats.bn==kG.bn)&&((a.Stats.bB==kG.bB)&&((a.Stats.bz==kG.bz)&&((a.Stats.bx==kG.bx)&&((a.Stats.bE==kG.bE)&&((a.Stats.bC==kG.bC)&&true)))))))) else(some false))) else(if(!asks)=true then(some (!((a.Stats.bn==kG.bn)&&((a.Stats.bB==kG.bB)&&((a.Stats.bz==kG.bz)&&((a.Stats.bx==kG.bx)&&((a.Stats.bE==kG.bE)&&((a.Stats.bC==kG.bC)&&true)))))))) else(some false)))=some false:=by
  cases hk:asks with
  |true=>
   obtain⟨y1,y2,y3,_⟩:=h.yes hk;rw[af J,Lp (x:=((tL D D.length).length:Int)) U U,Lp U U,y1];simp
  |false=>rw[h.no hk];simp
 rw[dB.l1,ah U,e25,aG,tX,aG,ah bj];have e29:(if asks=true then(if(0<=(List.length D:Int)/\(List.length D:Int)<=1099511627776) then(some (List.replicate (Int.toNat (List.length D:Int)) false)) else none) else(some D))=some (if asks=true then List.replicate D.length false else D):=by
  cases asks with
  |true=>rw[af J,af ⟨by omega,by omega⟩,af J];rfl
  |false=>rfl
 rw[e29,aG];have JW: ∀F:List Bool,F=E->((uI.f S').bind λv46=>dB.l3 fuel F (a,S') v46 0 0)=some (Sum.inr (S',E)):=λF hF=>by
  rw[hF,hd,aG];exact abg hE 4096 fuel 0 U (by rw[cD];omega) U
 by_cases c0:a.Code=0
 ·rw[af (by simpa using c0),af hi,af hi,aG]
  by_cases k1:(rd x i).Kind=1
  ·obtain⟨y1,y2⟩:=h.load c0 k1;obtain⟨F,f1,f2,f3⟩:=abf hE 4096 fuel (List.replicate (Int.toNat (dO m.W m.H)) false) 0 U (by rw[cD];omega) U bk (λi i0 i1=>by omega)
   rw[af (by simpa using k1),KS,aG,af ⟨by omega,by omega⟩,f1,aG,af (by simpa using c0),aG,ah bk,aG]
   exact JW F (AY f2 λi i0 i1=>by rw[f3 i i0 i1,y2 i i0 U])
  ·rw[ah (by simpa using k1),aG]
   by_cases k2:(rd x i).Kind=2
   ·obtain⟨y1,y2,y3⟩:=h.edit c0 k2;have ha:asks=false:=by rw[h.LU];simp;intro _;omega
    rw[af (by simpa using c0),aG,af (by simpa using k2),af hi,rR,aG,ha]
    simp only[Bool.false_eq_true,if_false];rw[ah bk,af ⟨y1,y2⟩,aG];exact JW _ y3.symm
   ·rw[af (by simpa using c0),aG,ah (by simpa using k2),aG]
    refine JW _ ?_
    cases ha:asks with
    |true=>rw[af J,(h.yes ha).2.2.2]
    |false=>simp only[Bool.false_eq_true,if_false];rw[h.same ha U]
 ·have ha:asks=false:=by rw[h.LU];simp[c0]
  rw[ah (by simpa using c0),aG,ah bj,aG,ah (by simpa using c0),aG,ah bj,aG]
  refine JW _ ?_;rw[ha];simp only[Bool.false_eq_true,if_false];rw[h.same ha U]
theorem Yr (h:lA S k most b L) (hb:0<=b/\b<=60000000000) {o:cV} (h':lA S' k most (b+500000) L') (iK:a.Stats=eT S'.nav) (JQ:(a.Code=0/\Lt k S L o S' L' a)∨(a.Code≠0/\S'.nav=S.nav/\a.ff=[]/\o.Kind≠8)):
 PZ o a (decide (a.Code=0/\(o.Kind=6∨(o.Kind=7/\L≠[])))) (Cv S') (ja S) (ja S') (eT S.nav) L:=by
 obtain⟨ord,hn⟩:=h.nav;obtain⟨pz,Ce⟩:=h'.nav;have Ur:=hn.jS.re;have sm:S'.nav=S.nav->ja S'=ja S:=λe=>by unfold ja;rw[e]
 have ask: ∀{ps:List (Int×Int)} {c:dM},S.nav.core=some c->oL k ps S.nav S'.nav->ps≠[]->(eT S'.nav).bn=(eT S.nav).bn+(tL (ja S) (ja S).length).length/\ja S'=List.replicate (ja S).length false:=λ{ps c} hc hf hp=>by
  rcases R4 hf hc with⟨e,_⟩ |⟨_,c',q1,q2,q3,q4,q5,q6⟩
  ·exact absurd e hp
  ·refine⟨?_,?_⟩
   ·unfold eT;simp only[q1,hc];rw[q4,q5,q6,RX hc];omega
   ·have l1:=q3.ms.len_;have l2:=(hn.core c hc).1.ms.len_;have e1:=Aj q1;have e2:=Aj hc;refine AY bk λi i0 i1=>?_
    rw[uB i0 U];have:=FO q1 (j:=i.toNat) U;rw[show((i.toNat:Nat):Int)=i by omega] at this
    rw[this];unfold sC;rw[show((i.toNat:Nat):Int)=i by omega,q2,q3.all i ⟨i0,by omega⟩];simp
 rcases JQ with⟨c0,y |y |y |y |y |y⟩ |⟨c0,y,_,y8⟩
 ·obtain⟨k1,_,_,_,e,c',gv,hv⟩:=y;have hl:=(Ce.core c' gv).1.ms.len_;refine⟨J,λz=>by simp at z;omega,λ_=>by rw[iK,e],λ_ _=>⟨by rw[Aj gv,U' gv];exact hl,λi i0 i1=>?_⟩,λ_ z=>by omega,λ_ z=>absurd ⟨c0,.inl k1⟩ z⟩
  rw[Aj gv] at i1;have:=FO gv (j:=i.toNat) U;rw[show((i.toNat:Nat):Int)=i by omega] at this
  rw[this];unfold sC;rw[show((i.toNat:Nat):Int)=i by omega]
  simpa using hv i ⟨i0,by omega⟩
 ·obtain⟨k8,_,_,_,e,hc⟩:=y;refine⟨J,λz=>by simp at z;omega,λ_=>by rw[iK,e],λ_ z=>by omega,λ_ z=>by omega,λ_ _=>?_⟩
  rcases hc with⟨n1,n2⟩ |⟨c,n1,n2⟩
  ·unfold ja;rw[n1,n2]
  ·unfold ja;rw[n1,n2]
 ·obtain⟨k2,_,_,e,c,hc,cn,gv⟩:=y;have hG:=(hn.core c hc).1.gs;have hle:=(hn.core c hc).1.ms.le;have hl:=(hn.core c hc).1.ms.len_;have hs:=tm (nC hG.ok cn);have e1:=Aj hc;have e2:=Aj gv;refine⟨J,λz=>by simp at z;omega,λ_=>by rw[iK,e],λ_ z=>by omega,λ_ _=>?_,λ_ z=>absurd ⟨c0,.inr k2⟩ z⟩
  rw[U' gv]
  show 0<=aW c.aB.m.W c.aB.m.H o.A/\aW c.aB.m.W c.aB.m.H o.A<_/\_=List.set _ (aW c.aB.m.W c.aB.m.H o.A).toNat true
  have hs2:=hs.2;refine⟨hs.1,by omega,AY (by simp[e1,e2]) λi i0 i1=>?_⟩
  simp only at e2;rw[j5 hs.1 U i0];have a1:=FO gv (j:=i.toNat) (by simp only;omega)
  have a2:=FO hc (j:=i.toNat) U;rw[show((i.toNat:Nat):Int)=i by omega] at a1 a2
  have Up:bJ c.aB.m.W c.aB.m.H i:=⟨i0,by omega⟩
  have hv:=Kn hG cn (v:=o.B) Up;rw[a1,a2];unfold sC;rw[show((i.toNat:Nat):Int)=i by omega]
  simp only;rw[hv];split
  ·have:=hle i Up;simp;omega
  ·rfl
 ·obtain⟨ajR,_,e⟩:=y;refine⟨J,λz=>by simp at z;omega,λ_=>by rw[iK,e],λ_ z=>by omega,λ_ z=>by omega,λ_ _=>sm e⟩
 ·obtain⟨k6,_,_,c,b',ajU,f,hc,h1,h2,h3,h4,_⟩:=y;have hf:oL k ([]++[(o.A,aW c.aB.m.W c.aB.m.H o.B)]) S.nav S'.nav:=oL.snoc (oL.nil _) h3 hc h1 (tm (nC (hn.core c hc).1.gs.ok h2)) h4;obtain⟨a1,a2⟩:=ask hc hf bj;refine⟨J,λ_=>⟨by rw[iK];exact a1,Ur.1,by omega,a2⟩,λz=>by simp[c0,k6] at z,λ_ z=>by omega,λ_ z=>by omega,λz=>by simp[c0,k6] at z⟩
 ·obtain⟨k7,c,aM,hc,hm,hf,_⟩:=y
  by_cases hL:L=[]
  ·subst hL;have e:S'.nav=S.nav:=by
    rcases R4 hf hc with⟨_,e⟩ |⟨e,_⟩
    ·exact e
    ·exact absurd J e
   refine⟨J,λz=>by simp at z;omega,λ_=>by rw[iK,e],λ_ z=>by omega,λ_ z=>by omega,λ_ _=>sm e⟩
  ·obtain⟨u,hu⟩:=List.exists_mem_of_ne_nil _ hL;obtain⟨q,hq,_⟩:=VR (w:=c.aB.m.W) (h:=c.aB.m.H) hu;obtain⟨a1,a2⟩:=ask hc hf (by
    intro z;rw[List.map_eq_nil_iff] at z;rw[z] at hq;simp at hq)
   refine⟨J,λ_=>⟨by rw[iK];exact a1,Ur.1,by omega,a2⟩,λz=>by simp[c0,k7,hL] at z,λ_ z=>by omega,λ_ z=>by omega,λz=>by simp[c0,k7,hL] at z⟩
 ·have e:=sm y;refine⟨J,λz=>by simp at z;omega,λ_=>by rw[iK,y],λz=>absurd z c0,λz=>absurd z c0,λ_ _=>e⟩
theorem abd {k:Int} {x:List cV} (hx: ∀o∈x,rm o) (hl:x.length<=61): ∀(n q:Nat) (S:bI) (i b:Int) (L:List aF),(x.length-i).toNat<=n->n<q->0<=i->i<=x.length->lA S k 5 b L->b=500000*i->dB.l0 q x S (ja S) i=some true:=by
 have fin: ∀(q:Nat) (S:bI) (i:Int),¬i<x.length->dB.l0 (q+1) x S (ja S) i=some true:=λq S i hi=>by
  rw[dB.l0,ah hi,ZN];rfl
 intro n
 induction n with
 |zero=>
  intro q S i b L hn hq h0 hi h hb;obtain⟨q,rfl⟩:=bl hq;exact fin q S i U
 |succ n ih=>
  intro q S i b L hn hq h0 hi h hb;obtain⟨q,rfl⟩:=bl hq
  by_cases z:i<x.length
  ·have ho:=hx _ (ek h0 z);obtain⟨⟨a,S'⟩,e,L',h',iK,JQ⟩:=XL h U ho;simp only at h' iK JQ;have hD:=RY h;rw[dB.l0,af z,aiI h ⟨by omega,by omega⟩,aG,aiX h,aG,af (c:=0<=i/\i<(List.length x:Int)) ⟨h0,z⟩,e,aG,air h',aG]
   have e1:=abe (x:=x) (i:=i) (kG:=eT S.nav) (L:=L) (m:=Cv S') (a,S') hD 4096 fuel 0 U (by rw[cD];omega) U
   rw[abh ⟨h0,z⟩ (Yr h U h' iK JQ) hD (RY h') (ah2 h')] at e1;have e2:dB.l1 fuel x (ja S) i (eT S.nav) L (a,S') (Cv S') 0 0=some (Sum.inr (S',ja S')):=e1;rw[e2,aG,wi U U];exact ih q S' (i+1) (b+500000) L' U U U U h' U
  ·exact fin q S i z
theorem Ye:dB.Pure:=by
 intro w h p3 l _ _ hp3 _ _ _;unfold dB.f;obtain⟨r,er⟩:=abz l (n:=50) U;obtain⟨x,ex,ui,y_,vH⟩:=ahZ w h hp3 (aA l 0 r);rw[er,aG,ex,aG];obtain⟨S,eS,hS,hc,_⟩:=ait (k:=2) (most:=5) U U U U;rw[eS,aG];have e:ja S=[]:=by unfold ja;rw[hc]
 have:=abd (k:=2) vH y_ 61 fuel S 0 0 [] U (by rw[cD];omega) U U hS U
 rw[e] at this;exact this
end
end Go.Proofs.YthodkonhneebbaaGreatDoor
