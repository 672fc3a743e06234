/- What the functions do, in plain Lean, on the objects that are kept in order. -/
import Derived.KernelRfl
import Derived.Test.YthodkonhneebbaaGreatDoorKS17
import Derived.Test.YthodkonhneebbaaGreatDoorKS16
import Derived.Test.YthodkonhneebbaaGreatDoorKS13
namespace Go.Proofs.YthodkonhneebbaaGreatDoor
open Go.Hx
set_option linter.unusedVariables false
set_option linter.unusedSimpArgs false
variable {c : dN} {w h most : Int} {L : List aF}
theorem CS.OQ (hc:CS c w h most L):iC w h L:=by
 refine⟨hc.may,λj j0 j1=>?_⟩
 have hm:=dU j0 j1;obtain⟨a,b,d⟩:=hc.ok _ hm;refine⟨?_,a,b,λq q0 q1 e=>?_⟩
 ·split
  ·have:=(hc.us.G4 hm).1;omega
  ·have:=va hc.us.up (i:=j-1) (j:=j) U U bm;rwa[zF U U,zF U U] at this
 ·have h1:=hc.inj (dU q0 U) hm e;have:=va hc.us.up (i:=q) (j:=j) q0 q1 bm;rw[zF U U,zF U U,h1] at this;omega
theorem ajL {k:Int} {v:aF} {p:aF->Bool} (hv:p v=false) (l:List aF):(gQ l k (λ_=>v)).filter p=mi (l.filter p) k:=by
 unfold gQ mi
 induction l with
 |nil=>rfl
 |cons x r ih=>
  rw[List.map_cons]
  by_cases e:x.Id=k
  ·rw[af e,List.filter_cons,hv,ih]
   by_cases q:p x=true
   ·simp[q,e]
   ·simp[q]
  ·rw[ah e,List.filter_cons,ih]
   by_cases q:p x=true
   ·rw[af q,List.filter_cons,af q,List.filter_cons,af (by simpa using e)]
   ·rw[ah q,List.filter_cons,ah q]
theorem ajM {k:Int} {v:aF} {p:aF->Bool} (hv:p v=true) (l:List aF) (hl: ∀x∈l,x.Id=k->p x=true):(gQ l k (λ_=>v)).filter p=gQ (l.filter p) k (λ_=>v):=by
 unfold gQ
 induction l with
 |nil=>rfl
 |cons x r ih=>
  have U4:=ih (λy hy=>hl y (by simp[hy]))
  rw[List.map_cons]
  by_cases e:x.Id=k
  ·rw[af e,List.filter_cons,af hv,U4,List.filter_cons,af (hl x bd e),List.map_cons,af e]
  ·rw[ah e,List.filter_cons,U4]
   by_cases q:p x=true
   ·rw[af q,List.filter_cons,af q,List.map_cons,ah e]
   ·rw[ah q,List.filter_cons,ah q]
abbrev Ln (w h:Int) (L:List aF) (aM:List Int) (n:Nat):List aF:=(dO w h L aM n).1.filter (λx=>decide (0<=x.Cell))
theorem ai0 {l:List aF} {n:Nat} (hn:n<l.length) (my: ∀i j:Int,0<=i->i<l.length->0<=j->j<l.length->i≠j->(rd l i).Id≠(rd l j).Id) (v:aF):l.set n v=gQ l (rd l (n:Int)).Id (λ_=>v):=by
 refine zC (by simp[gQ]) (λi i0 i1=>?_)
 rw[List.length_set] at i1;unfold gQ;rw[zF i0 i1];have:=lB (L:=l) (i:=(n:Int)) (c:=i) (v:=v) U U i0;rw[show((n:Int)).toNat=n by simp] at this
 rw[this]
 by_cases e:i=n
 ·rw[af e,e,af J]
 ·rw[ah e,ah (my i n i0 i1 U U e)]
theorem agc (hm:iC w h L) (aM:List Int) {n:Nat} (hn:n<L.length):Ln w h L aM (n+1)=
 if tu w h L aM n then(if lR w h L aM n=(rd L (n:Int)).Goal then mi (Ln w h L aM n) (rd L (n:Int)).Id else gQ (Ln w h L aM n) (rd L (n:Int)).Id (λ_=>⟨(rd L (n:Int)).Id,lR w h L aM n,(rd L (n:Int)).Goal⟩)) else Ln w h L aM n:=by
 have hi:=xq hm aM n U;have hl:=hi.len
 show(lp w h (dO w h L aM n) n (rd L (n:Int)) (rd aM (n:Int))).1.filter _=_
 unfold lp;have my: ∀i j:Int,0<=i->i<(dO w h L aM n).1.length->0<=j->j<(dO w h L aM n).1.length->i≠j->(rd (dO w h L aM n).1 i).Id≠(rd (dO w h L aM n).1 j).Id:=by
  intro i j i0 i1 j0 j1 rW;rw[(hi.same i i0 U).1,(hi.same j j0 U).1];rcases Int.lt_or_gt_of_ne rW with q |q
  ·have:=hm.CF i0 q U;omega
  ·have:=hm.CF j0 q U;omega
 by_cases z:tu w h L aM n
 ·rw[af z,af z];simp only;rw[show((n:Int)).toNat=n by simp,ai0 U my,hi.rest n U U]
  by_cases g:lR w h L aM n=(rd L (n:Int)).Goal
  ·rw[af g,af g];exact ajL bd _
  ·rw[ah g,ah g];have v_:0<=lR w h L aM n:=z.1;refine ajM (by simpa using v_) _ (λx hx e=>?_)
   obtain⟨j,j0,j1,rfl⟩:=jL hx;have:j=n:=Classical.byContradiction λq=>by
    have:=my j n j0 j1 U U q;rw[hi.rest n U U] at this;exact this e
   subst this;rw[hi.rest n U U];simpa using(hm.cell U U).2.1
 ·rw[ah z,ah z]
theorem ab9 {f:fA} {n:Int} (hf:FS f n L) (G1:(L.map (·.Id)).Pairwise (· < ·)) {x:aF} (hx:x∈L) (i0:0<=x.Id) {to:Int} (t0:0<=to) (t1:to<n) (gO: ∀y∈L,y.Cell≠to):
 FS (iH (iH f x.Cell 0 (-1)) to (x.Id+1) 1) n (gQ L x.Id (λ_=>⟨x.Id,to,x.Goal⟩)):=by
 obtain⟨h0,h1,h2⟩:=hf.at_ x hx;have hr:=hf.fl.2 x.Cell h0 h1;have Up:rF n (iH f x.Cell 0 (-1)):=Ih hf.fl h0 h1 U U;have Om: ∀d,0<=d->rd (iH (iH f x.Cell 0 (-1)) to (x.Id+1) 1).words d=if d=to then x.Id+1 else if d=x.Cell then 0 else rd f.words d:=by
  intro d d0;rw[Bh Up t0 t1 d0,Bh hf.fl h0 h1 d0]
 refine⟨Ih Up t0 t1 U U,by simp[iH,hf.eV,gQ];omega,λy hy=>?_,λd d0 d1 hd=>?_⟩
 ·unfold gQ at hy;obtain⟨z,hz,rfl⟩:=List.mem_map.1 hy;obtain⟨a,b,e⟩:=hf.at_ z hz
  by_cases q:z.Id=x.Id
  ·rw[af q];exact⟨t0,t1,by rw[Om to t0,af J]⟩
  ·rw[ah q];refine⟨a,b,?_⟩;rw[Om _ a,ah (gO z hz),ah]
   ·exact e
   ·intro y;rw[y,h2] at e;omega
 ·rw[Om d d0] at hd
  by_cases q:d=to
  ·refine⟨⟨x.Id,to,x.Goal⟩,List.mem_map.2 ⟨x,hx,by rw[af J]⟩,q.symm⟩
  ·rw[ah q] at hd
   by_cases z:d=x.Cell
   ·rw[af z] at hd;exact absurd J hd
   ·rw[ah z] at hd;obtain⟨y,hy,e⟩:=hf.only d d0 d1 hd;refine⟨y,List.mem_map.2 ⟨y,hy,?_⟩,e⟩;rw[ah (λk=>z (by rw[<-e,CE G1 hy hx k]))]
theorem ajF (hm:iC w h L) (hb:L.length<=1000000) {aM:List Int} (nx:Int): ∀(m k n:Nat) (c:dN),n+m=L.length->m<k->CS c w h most (Ln w h L aM n)->c.cU.next=nx->
 ∃c',mw.l0 k ((gC w h L aM).1,(gC w h L aM).2.1,(gC w h L aM).2.2,0) c ((dO w h L aM n).2.1.length:Int)=
  some ((gC w h L aM).2.1,(gC w h L aM).2.2,0,c')/\CS c' w h most (gC w h L aM).1/\c'.cU.next=nx:=by
 intro m
 induction m with
 |zero=>
  intro k n c hn hk hc hx;obtain⟨k,rfl⟩:=bl hk;have:n=L.length:=U;subst this;refine⟨c,?_,hc,hx⟩;rw[mw.l0,ah (by simp[gC])]
 |succ m ih=>
  intro k n c hn hk hc hx;have aS:n<L.length:=U;have hi:=xq hm aM n U;obtain⟨m1,m2⟩:=agC (aM:=aM) hm (n:=n) aS;have Ko:=OT (w:=w) (h:=h) (l:=L) (aM:=aM) n;have Cx:=agc hm aM aS;have Of:=hi.HB
  by_cases z:tu w h L aM n
  ·obtain⟨k,rfl⟩:=bl hk;have hr:=m2 z;have akx:=(m1.2 z).1;rw[af z] at Ko Cx;have ae5:((dO w h L aM (n+1)).2.1.length:Int)=((dO w h L aM n).2.1.length:Int)+1:=by rw[Ko];simp
   have A3:rd L (n:Int)∈Ln w h L aM n:=by
    rw[List.mem_filter];have:rd (dO w h L aM n).1 (n:Int)=rd L (n:Int):=hi.rest n U U;refine⟨by rw[<-this];exact dU U (by rw[hi.len];omega),?_⟩
    simpa using(hm.cell U U).2.1
   have aeV:=P6 hc.us.up A3;have GJ:zW (Ln w h L aM n) (rd L (n:Int)).Id=(rd L (n:Int),true):=by unfold zW;rw[aeV]
   have abV:aF.mk (rd L (n:Int)).Id (rd L (n:Int)).Cell (rd L (n:Int)).Goal=rd L (n:Int):=rfl;rw[mw.l0,af (by simp only;omega),af (by simp only;omega)]
   simp only[hr,Eb hc.us,GJ,aI];rw[wi U U,<-ae5,abV];have ae4:=hc.us.G4 A3
   by_cases g:lR w h L aM n=(rd L (n:Int)).Goal
   ·rw[af g] at Cx;obtain⟨c',e1,e2,e3⟩:=MF hc A3;rw[af (by simpa using g)]
    rw[e1,aI];exact ih k (n+1) c' U U (by rw[Cx];exact e2) U
   ·rw[ah g] at Cx;rw[ah (by simpa using g)]
    obtain⟨u',a1,a2,a3⟩:=agB hc.us (rd L (n:Int)).Id (lR w h L aM n);have v_:=SJ z.1;have gO: ∀y∈Ln w h L aM n,y.Cell≠lR w h L aM n:=λy hy=>z.2 y (List.mem_filter.1 hy).1;have NZ:=hc.fl.eV;have akz:0<(Ln w h L aM n).length:=List.length_pos_iff.2 (List.ne_nil_of_mem A3);have hle:(Ln w h L aM n).length<=L.length:=by
     have:=List.length_filter_le (λx:aF=>decide (0<=x.Cell)) (dO w h L aM n).1;rw[hi.len] at this;exact this
    have hw:mW (w*h) c.floor (rd L (n:Int)).Cell=(rd L (n:Int)).Id:=by rw[LJ hc,F5 hc A3]
    have GH:rQ (w*h) c.floor (lR w h L aM n):=by
     refine⟨v_.2.1,v_.2.2,Classical.byContradiction λy=>?_⟩
     obtain⟨x,qg,e⟩:=hc.fl.only _ v_.2.1 v_.2.2 y;exact gO x qg e
    have es:JE (w*h) c.floor (rd L (n:Int)).Cell (lR w h L aM n)=(true,iH (iH c.floor (rd L (n:Int)).Cell 0 (-1)) (lR w h L aM n) ((rd L (n:Int)).Id+1) 1):=by
     unfold JE;rw[hw,af ⟨by omega,GH⟩]
    rw[ai2 hc.fl.fl U,es,a1];simp only[aI];have afd:gQ (Ln w h L aM n) (rd L (n:Int)).Id (λx=>⟨x.Id,lR w h L aM n,x.Goal⟩)=gQ (Ln w h L aM n) (rd L (n:Int)).Id (λ_=>⟨(rd L (n:Int)).Id,lR w h L aM n,(rd L (n:Int)).Goal⟩):=by
     unfold gQ;refine List.map_congr_left λy hy=>?_
     by_cases q:y.Id=(rd L (n:Int)).Id
     ·rw[af q,af q,CE hc.us.up hy A3 q]
     ·rw[ah q,ah q]
    rw[afd] at a3;refine ih k (n+1) ⟨c.w,c.h,c.most,u',iH (iH c.floor (rd L (n:Int)).Cell 0 (-1)) (lR w h L aM n) ((rd L (n:Int)).Id+1) 1⟩ U U ?_ (by simp only;omega)
    rw[Cx];refine⟨hc.w_,hc.h_,hc.m_,hc.may,a3,ab9 hc.fl hc.us.up A3 ae4.1 v_.2.1 v_.2.2 gO,λy hy=>?_,by simpa[gQ] using hc.ln⟩
    unfold gQ at hy;obtain⟨y',EE,rfl⟩:=List.mem_map.1 hy;have vW:=hc.ok y' EE;split
    ·exact⟨v_,(hc.ok _ A3).2.1,g⟩
    ·exact vW
  ·rw[ah z,List.append_nil] at Ko;rw[ah z] at Cx;rw[<-Ko];exact ih k (n+1) c U U (by rw[Cx];exact hc) hx
theorem RO (hc:CS c w h most L) {aM:List Int} (hd:IZ aM L.length): ∃c',mw.f c aM=some ((gC w h L aM).2.1,(gC w h L aM).2.2,0,c')/\CS c' w h most (gC w h L aM).1/\c'.cU.next=c.cU.next:=by
 unfold mw.f;have hm:=hc.OQ;have kG:=hc.us.eV;have GO:=hc.next
 rw[D6 hc,hc.w_,hc.h_];simp only[aI,go_ok hm U hd];rw[ah bd];have h0:Ln w h L aM 0=L:=by
  show L.filter _=L
  rw[List.filter_eq_self];intro x hx;simpa using(hc.ok x hx).1.2.1
 obtain⟨c',e1,e2,e3⟩:=ajF (most:=most) hm U (aM:=aM) c.cU.next L.length fuel 0 c U (by rw[cI];omega) (by rw[h0];exact hc) J
 exact⟨c',e1,e2,e3⟩
theorem abw (hc:CS c w h most L):vA.f c=some c.floor.words:=by
 unfold vA.f;have:=uZ hc.may;rw[aj5 hc.fl.fl U];rfl
theorem VI {w h most:Int} (hm:iO w h) (h1:1<=most) (h2:most<=65536): ∃c,vD.f w h most=some (some c)/\CS c w h most []/\c.cU.next=0:=by
 obtain⟨r,r1,r2,r3⟩:=abe w h most;have:=r2.2 ⟨hm,h1,h2⟩;obtain⟨c,rfl⟩:=Option.isSome_iff_exists.1 this;exact⟨c,r1,(r3 c J).1,(r3 c J).2⟩
section
structure gX (S:bH) (k most b:Int) (L:List aF):Prop where
 m_:S.most=most
 mb:1<=most/\most<=100
 nav: ∃ord,il S.nav k b ord
 cr:(S.nav.core=none/\S.cZ=none/\L=[])∨ ∃c C,S.nav.core=some c/\S.cZ=some C/\CS C c.aB.m.W c.aB.m.H most L/\500000*C.cU.next<=b/\ ∀u∈L,fB c.aB u.Cell≠255
 kp: ∀c,S.nav.core=some c->(c.jg.kept.isSome=true↔S.nav.fV.keys.ak≠[])
variable {S : bH} {k most b : Int} {L : List aF}
theorem zI (c:Int):fO.f c=some (if c=0 then Er.nil else Er.num 148 c):=by
 unfold fO.f
 by_cases z:c=0<;>simp[z]
theorem JH {n:bV} {ord:List Int} {c:d_} {goal s:Int} {r:fR×Er×bV} (h:Af n k b ord c goal s r):r.2.2.fV.keys.ak≠[]/\ ∃c',r.2.2.core=some c'/\c'.aB=c.aB/\c'.jg.kept.isSome=true:=by
 obtain⟨R,l,c',mH,f1,f2,f3,f4,f5,f6,f7,f8,f9,f10,f11,f12,f13,f14,f15,f16,f17,f18⟩:=h.AG;refine⟨λz=>?_,c',f7,f8,by rw[f9];rfl⟩
 obtain⟨x,x1,_⟩:=f17.now;have:=(f16.oI.sl _ _).1 x1;rw[z] at this;simp at this;omega
theorem ab4 {ps:List (Int×Int)} {n n':bV} (h:uq k ps n n'):(ps=[]/\n'=n)∨(ps≠[]/\n'.fV.keys.ak≠[]/\ ∃c',n'.core=some c'/\c'.jg.kept.isSome=true):=by
 cases h with
 |nil=>exact .inl ⟨J,J⟩
 |snoc h hn hc hg hs hf=>
  have:=JH hf;obtain⟨a,c',b1,_,b3⟩:=this;exact .inr ⟨by simp,a,c',b1,b3⟩
def LO (k:Int) (S:bH) (L:List aF) (o:cR) (S':bH) (L':List aF) (a:eI):Prop:=
 (o.Kind=1/\L'=[]/\a.cF=[]/\S'.nav.fV.keys.ak=[]/\gy S'.nav=gy S.nav/\ ∃c',S'.nav.core=some c'/\ ∀s:Int,bK c'.aB.m.W c'.aB.m.H s->(rd c'.iK.parts s).version≠fK c'.aB s)∨
 (o.Kind=8/\L'=L/\a.cF=[]/\S'.nav.fV.keys.ak=[]/\gy S'.nav=gy S.nav/\((S.nav.core=none/\S'.nav.core=none)∨ ∃c,S.nav.core=some c/\S'.nav.core=some ⟨c.aB,c.iK,⟨none,c.jg.count⟩⟩))∨
 (o.Kind=2/\L'=L/\a.cF=[]/\gy S'.nav=gy S.nav/\ ∃c,S.nav.core=some c/\cP c.aB.m o.A/\S'.nav.core=some ⟨mY c.aB o.A o.B,c.iK,c.jg⟩)∨
 ((o.Kind=3∨o.Kind=4∨o.Kind=5)/\a.cF=[]/\S'.nav=S.nav)∨
 (o.Kind=6/\L'=L/\a.cF=[]/\ ∃c b' ord f,S.nav.core=some c/\cP c.aB.m o.A/\cP c.aB.m o.B/\il S.nav k b' ord/\Af S.nav k b' ord c o.A (aY c.aB.m.W c.aB.m.H o.B) (f,Er.nil,S'.nav)/\a.D=rd f.fc (dC c.aB.m.W c.aB.m.H o.B)/\a.bX=rd f.bX (dC c.aB.m.W c.aB.m.H o.B))∨
 (o.Kind=7/\ ∃c aM,S.nav.core=some c/\iC c.aB.m.W c.aB.m.H L/\uq k ((jN c.aB.m.W c.aB.m.H L).map EI) S.nav S'.nav/\aM.length=L.length/\(∀j:Int,0<=j->j<L.length->Ae c.aB (rd L j) (rd aM j))/\L'=(gC c.aB.m.W c.aB.m.H L aM).1/\a.cF=(gC c.aB.m.W c.aB.m.H L aM).2.1/\a.di=(gC c.aB.m.W c.aB.m.H L aM).2.2)
def Ends (k most b:Int) (S:bH) (L:List aF) (o:cR) (r:Er×bH×eI):Prop:=
 ∃L',gX r.2.1 k most b L'/\((r.1=Er.nil/\r.2.2.Code=0/\LO k S L o r.2.1 L' r.2.2)∨((r.1=Er.eF 0∨ ∃c,c≠0/\r.1=Er.num 148 c)/\r.2.1.nav=S.nav/\r.2.2.cF=[]/\o.Kind≠8))
theorem gX.mono {b':Int} (h:gX S k most b L) (hb:b<=b'):gX S k most b' L:=by
 obtain⟨ord,hn⟩:=h.nav;refine⟨h.m_,h.mb,⟨ord,hn.mono hb⟩,?_,h.kp⟩;rcases h.cr with z |⟨c,C,h1,h2,h3,h4,h5⟩
 ·exact .inl z
 ·exact .inr ⟨c,C,h1,h2,h3,by omega,h5⟩
abbrev a0:eI:=eI.mk 0 0 5 (-1) [] [] (fZ.mk 0 0 0 0 0 0)
theorem Ib {l:gh} {ord:List Int} (h:rJ l k ord):ord=[]↔l.ak=[]:=by
 constructor
 ·intro z;rw[<-List.length_eq_zero_iff];apply Classical.byContradiction;intro y;have:=(h.mem 0).2 U;rw[z] at this;simp at this
 ·intro z;refine List.eq_nil_iff_forall_not_mem.2 λc hc=>?_
  have:=(h.mem c).1 hc;rw[z] at this;simp at this;omega
theorem Xm (h:gX S k most b L) (hb:0<=b/\b<=60000000000) {o:cR} (ho:ou o) (hk:o.Kind=1):
 Ok (ue.f S o.Map) (λr=>Ends k most (b+1) S L o (r.1,r.2,a0)):=by
 obtain⟨l1,l2,l3,l4,l5⟩:=ho.ld hk;obtain⟨ord,hn⟩:=h.nav;unfold ue.f;refine(QC l1 l3).bind λv hv=>?_
 rcases hv with q |⟨q1,q2,q3,q4,q5⟩
 ·refine Ok.pos (by rcases q with q |q<;>simp[q]) (Ok.pure ⟨L,h.mono U,.inr ⟨.inr ⟨6,by omega,rfl⟩,rfl,rfl,by omega⟩⟩)
 ·refine Ok.neg (by simp[q1]) ?_
  have hm:=q2.1;have Ex:LV v.1:=⟨q2,q3,by
   have:v.1.W*v.1.H<=40*40:=ka U U U U;omega⟩
  obtain⟨n',c',e,e1,e2,e3,e4,e5,e6,e7⟩:=O1 hn ⟨hb.1,by omega⟩ Ex
  obtain⟨C,eC,hC,hC0⟩:=VI (w:=v.1.W) (h:=v.1.H) (most:=most) hm h.mb.1 (by have:=h.mb;omega)
  refine Ok.eq e (Ok.pos J ?_);rw[h.m_];refine Ok.eq (v:=some C) eC ?_;refine Ok.opt (Ok.eq J (Ok.pure ⟨[],⟨J,h.mb,⟨[],e2⟩,.inr ⟨c',C,e1,J,by rw[e3];exact hC,by omega,by simp⟩,λc hc=>?_⟩,.inl ⟨J,J,.inl ⟨hk,J,J,(Ib e2.oI).1 J,e5,c',e1,by rw[e3];exact e6⟩⟩⟩))
  simp only at hc⊢;rw[e1] at hc;simp only[Option.some.injEq] at hc;subst hc;have:=(Ib e2.oI).1 J;rw[e4,this];simp
theorem aiP (h:gX S k most b L) (hb:0<=b/\b<=60000000000) {o:cR} (ho:ou o) (hk:o.Kind=2) {c:d_} {C:dN} (h1:S.nav.core=some c) (h2:S.cZ=some C) (h3:CS C c.aB.m.W c.aB.m.H most L) (h4:500000*C.cU.next<=b) (h5: ∀u∈L,fB c.aB u.Cell≠255) (hA:cP c.aB.m o.A):
 Ok (wK.f S o.A o.B) (λr=>Ends k most (b+1) S L o (r.1,r.2,a0)):=by
 have hB:=ho.b2 hk;obtain⟨ord,hn⟩:=h.nav;unfold wK.f;refine Ok.ite (λq=>Ok.pure ⟨L,h.mono U,.inr ⟨.inr ⟨8,by omega,J⟩,J,J,by omega⟩⟩) λq=>?_
 have q: ¬(o.B<1∨o.B>255):=by simpa using q
 rw[h2];have e:cT (some C) none (λx3=>if(o.B==255)=true then((yN.f x3 o.A).bind λv4=>some (decide (v4≥0))) else(some false))=some (decide (o.B=255/\mT L o.A≥0)):=by
  show(if(o.B==255)=true then _ else _)=_
  by_cases z:o.B=255
  ·rw[af (by simpa using z),RP h3];simp[z]
  ·rw[ah (by simpa using z)];simp[z]
 refine Ok.eq e (Ok.ite (λz=>Ok.pure ⟨L,h.mono U,.inr ⟨.inr ⟨10,by omega,J⟩,J,J,by omega⟩⟩) λz=>?_)
 have z: ¬(o.B=255/\mT L o.A≥0):=by simpa using z
 obtain⟨n',e1,e2,e3,e4,e5,e6⟩:=O0 hn ⟨hb.1,by omega⟩ h1 hA U hB
 have hG:=(hn.core c h1).1.gs;refine Ok.eq e1 (Ok.eq J (Ok.pure ⟨L,⟨h.m_,h.mb,⟨ord,e5⟩,.inr ⟨_,C,e2,J,h3,by omega,λu hu=>?_⟩,λc' j7=>?_⟩,.inl ⟨J,J,.inr (.inr (.inl ⟨hk,J,J,e6,c,h1,hA,e2⟩))⟩⟩))
 ·have py:=(h3.ok u hu).1;have eK:cP c.aB.m u.Cell:=py.2;have hold:=h5 u hu;have e: ∀(x:Int),cP c.aB.m x->fB (mY c.aB o.A o.B) x=if x=o.A then o.B else fB c.aB x:=λx hx=>by
   have e0:fB (mY c.aB o.A o.B) x=rd (mY c.aB o.A o.B).m.C x:=by unfold fB;exact af hx
   rw[e0,OE hG hA hx.1];split
   ·rfl
   ·unfold fB;rw[af hx]
  simp only;rw[e _ eK];split
  ·rename_i w;intro y;refine z ⟨y,?_⟩;rw[<-w,F5 h3 hu];exact(US.G4 h3.us hu).1
  ·exact hold
 ·simp only at j7⊢;rw[e2] at j7;simp only[Option.some.injEq] at j7;subst j7;simp only;rw[e3];exact h.kp c h1
theorem ajk (h:gX S k most b L) (hb:0<=b/\b<=60000000000) {o:cR} (hk:o.Kind=3) {c:d_} {C:dN} (h1:S.nav.core=some c) (h2:S.cZ=some C) (h3:CS C c.aB.m.W c.aB.m.H most L) (h4:500000*C.cU.next<=b) (h5: ∀u∈L,fB c.aB u.Cell≠255):
 Ok (wL.f S o.A o.B) (λr=> ∀a:eI,a.cF=[]->a.Code=0->Ends k most (b+500000) S L o (r.2.1,r.2.2,a)):=by
 obtain⟨ord,hn⟩:=h.nav;unfold wL.f;refine Ok.eq (ER hn h1 _) (Ok.ite (λq=>Ok.pure λa ha _=>⟨L,h.mono U,.inr ⟨.inr ⟨9,by omega,J⟩,J,ha,by omega⟩⟩) λq=>?_)
 have q:fB c.aB o.A≠255:=by simpa using q
 rw[h2];obtain⟨C',e1,e2,e3⟩:=RN h3 U o.A o.B;refine Ok.opt (Ok.eq e1 (Ok.eq (zI _) (Ok.pure λa ha Uf=>⟨(nu c.aB.m.W c.aB.m.H most L C.cU.next o.A o.B).2.2,⟨h.m_,h.mb,⟨ord,hn.mono U⟩,.inr ⟨c,C',h1,J,e2,?_,λu hu=>?_⟩,h.kp⟩,?_⟩)))
 ·have:C'.cU.next<=C.cU.next+1:=by rw[e3];split<;>omega
  omega
 ·unfold nu at hu
  repeat' split at hu
  all_goals first
   |exact h5 u hu
   |(rcases List.mem_append.1 hu with z |z
     ·exact h5 u z
     ·simp only[List.mem_cons,List.not_mem_nil,or_false] at z;rw[z];exact q)
 ·by_cases z:(nu c.aB.m.W c.aB.m.H most L C.cU.next o.A o.B).2.1=0
  ·rw[af z];exact .inl ⟨J,Uf,.inr (.inr (.inr (.inl ⟨.inl hk,ha,J⟩)))⟩
  ·rw[ah z];exact .inr ⟨.inr ⟨_,z,J⟩,J,ha,by omega⟩
theorem aji (h:gX S k most b L) (hb:0<=b/\b<=60000000000) {o:cR} (hk:o.Kind=6) {c:d_} {C:dN} (h1:S.nav.core=some c) (h2:S.cZ=some C) (h3:CS C c.aB.m.W c.aB.m.H most L) (h4:500000*C.cU.next<=b) (h5: ∀u∈L,fB c.aB u.Cell≠255):
 Ok (uf.f S a0 o.A o.B) (λr=>Ends k most (b+5000) S L o (r.1,r.2.1,r.2.2)):=by
 obtain⟨ord,hn⟩:=h.nav;unfold uf.f;refine(O7 hn ⟨hb.1,by omega⟩ h1 o.A o.B).bind λv hv=>?_
 rcases hv with⟨a1,a2,a3,f,a4,a5,a6⟩ |⟨a1,a2,a3⟩
 ·rw[a3];obtain⟨g1,c',g2,g3,g4⟩:=JH a4;obtain⟨R,l,c2,mH,f1,f2,f3,f4,f5,f6,f7,f8,f9,f10,f11,f12,f13,f14,f15,f16,f17,f18⟩:=a4.AG;refine Ok.pos J (Ok.eq J (Ok.pure ⟨L,⟨h.m_,h.mb,⟨mH,f16⟩,.inr ⟨c',C,g2,h2,by rw[g3];exact h3,by omega,by rw[g3];exact h5⟩,λc3 vQ=>?_⟩,.inl ⟨J,J,.inr (.inr (.inr (.inr (.inl ⟨hk,J,J,c,b,ord,f,h1,a1,a2,hn,a4,a5,a6⟩))))⟩⟩))
  simp only at g2 vQ⊢;rw[g2] at vQ;simp only[Option.some.injEq] at vQ;subst vQ;exact⟨λ_=>g1,λ_=>g4⟩
 ·rw[a2,a3];exact Ok.neg bd (Ok.eq J (Ok.pure ⟨L,h.mono U,.inr ⟨.inr ⟨7,by omega,J⟩,J,J,by omega⟩⟩))
end
section
variable {S : bH} {k most b : Int} {L : List aF}
theorem YT {w h:Int} {aM:List Int} (hm:iC w h L): ∀n:Nat,n<=L.length-> ∀u∈p_ (dO w h L aM n) n,∃j:Int,0<=j/\j<n/\(u.Cell=(rd L j).Cell∨(0<=rd aM j/\rd aM j<=3/\u.Cell=cH w h (rd L j).Cell (rd aM j)/\0<=u.Cell)):=by
 intro n
 induction n with
 |zero=>intro _ u hu;simp[p_] at hu
 |succ n ih=>
  intro hn u hu;rw[Mh hm U] at hu;rcases List.mem_append.1 hu with z |z
  ·obtain⟨j,j0,j1,q⟩:=ih U u z;exact⟨j,j0,by omega,q⟩
  ·split at z
   ·rename_i y;simp only[List.mem_cons,List.not_mem_nil,or_false] at z;subst z;refine⟨n,by omega,by omega,?_⟩
    simp only;unfold EO at y⊢;split at y
    ·rename_i c;rw[af c];split at y
     ·omega
     ·rename_i g;rw[ah g];refine .inr ?_;have hc:=c.1;unfold dF at hc;have hd:0<=rd aM (n:Int)/\rd aM (n:Int)<=3:=Classical.byContradiction λq=>by rw[ah q] at hc;omega
      refine⟨hd.1,hd.2,?_,y⟩
      show dF w h (rd L (n:Int)) (rd aM (n:Int))=_
      unfold dF;rw[af hd]
    ·rename_i c;rw[ah c];exact .inl J
   ·simp at z
theorem ajw (h:gX S k most b L) (hb:0<=b/\b<=60000000000) {o:cR} (hk:o.Kind=7) {c:d_} {C:dN} (h1:S.nav.core=some c) (h2:S.cZ=some C) (h3:CS C c.aB.m.W c.aB.m.H most L) (h4:500000*C.cU.next<=b) (h5: ∀u∈L,fB c.aB u.Cell≠255):
 Ok (su.f S a0) (λr=> ∃L',gX r.2.1 k most (b+500000) L'/\r.1=Er.nil/\r.2.2.Code=0/\LO k S L o r.2.1 L' r.2.2):=by
 obtain⟨ord,hn⟩:=h.nav;have hG:=(hn.core c h1).1.gs;have hmb:=h.mb;have GF:=h3.ln;have hm:=h3.OQ;have mB:(jN c.aB.m.W c.aB.m.H L).length<=L.length:=by
  have:=Hb _ (La hm).some_;rw[HN] at this;exact this
 unfold su.f;rw[h2];refine Ok.opt (Ok.eq (D6 h3) ((MQ hn ⟨hb.1,by omega⟩ h1 hm U (λu hu=>(h3.ok u hu).2.1.2)).bind λr hr=>?_))
 obtain⟨r1,oL,mH,r2,r3,⟨c',r4,Le⟩,r5,r6,r7⟩:=hr;rw[r1,r2];refine Ok.neg (by simp[Er.isNil]) ?_
 simp only[h2];have N3:IZ r.1 L.length:=by
  refine⟨r6,λd hd=>?_⟩
  obtain⟨j,j0,j1,rfl⟩:=jL hd;obtain⟨R,l,f,d1,d2,d3,d4,d5,d6⟩:=r7 j j0 U;have hc:=(h3.ok _ (dU j0 U)).1;have kH:=Bq hG hc.2;rw[d6,d5.dir _ kH.1 kH.2.1];exact RR _
 obtain⟨C',e1,e2,e3⟩:=RO h3 N3;refine Ok.opt (Ok.eq e1 (Ok.eq J (Ok.pure ⟨(gC c.aB.m.W c.aB.m.H L r.1).1,⟨h.m_,h.mb,⟨mH,r3.mono U⟩,.inr ⟨c',C',r4,J,by rw[Le];exact e2,by omega,λu hu=>?_⟩,λc3 vQ=>?_⟩,J,J,.inr (.inr (.inr (.inr (.inr ⟨hk,c,r.1,h1,hm,r5,r6,r7,J,J,J⟩))))⟩)))
 ·rw[Le];have py:u∈p_ (dO c.aB.m.W c.aB.m.H L r.1 L.length) L.length:=by
   unfold gC at hu;unfold p_;rw[List.take_of_length_le (by have:=(xq hm r.1 L.length (Nat.le_refl _)).len;omega)]
   exact hu
  obtain⟨j,j0,j1,q⟩:=YT hm L.length (Nat.le_refl _) u py;have hj:=dU j0 j1;rcases q with q |⟨q0,q3,q4,q5⟩
  ·rw[q];exact h5 _ hj
  ·obtain⟨R,l,f,d1,d2,d3,d4,d5,d6⟩:=r7 j j0 j1;have:=aby hG d3.1 (h3.ok _ hj).1.2 d4 d5 d6 q0 q3;rw[q4];exact this.2
 ·simp only at vQ⊢;rcases ab4 r5 with⟨_,z⟩ |⟨_,z1,c4,z2,z3⟩
  ·rw[z] at vQ⊢;exact h.kp c3 vQ
  ·rw[z2] at vQ;simp only[Option.some.injEq] at vQ;subst vQ;exact⟨λ_=>z1,λ_=>z3⟩
theorem ajv (h:gX S k most b L) (hb:0<=b/\b<=60000000000) {o:cR} (hk:o.Kind=7) {c:d_} {C:dN} (h1:S.nav.core=some c) (h2:S.cZ=some C) (h3:CS C c.aB.m.W c.aB.m.H most L) (h4:500000*C.cU.next<=b) (h5: ∀u∈L,fB c.aB u.Cell≠255):
 Ok (su.f S a0) (λr=>Ends k most (b+500000) S L o (r.1,r.2.1,r.2.2)):=
 (ajw h hb hk h1 h2 h3 h4 h5).mono λr ⟨L',e1,e2⟩=>⟨L',e1,.inl e2⟩
theorem Xe {ord:List Int} {c:d_} (hn:il S.nav k b ord) (h1:S.nav.core=some c) (o:cR):
 Ok (oa.f S o) (λe=>(e=Er.nil/\(o.Kind=3∨o.Kind=2->cP c.aB.m o.A))∨(e=Er.num 148 7/\o.Kind≠8)):=by
 have hG:=(hn.core c h1).1.gs;have cu: ∀x,fB c.aB x≠0->cP c.aB.m x:=λx hx=>Classical.byContradiction λz=>hx (by unfold fB;rw[ah z])
 unfold oa.f;refine Ok.ite (λq=>Ok.eq (ER hn h1 _) (Ok.ite (λ_=>Ok.pure (.inr ⟨J,by simp at q;omega⟩)) λ_=>Ok.eq (ER hn h1 _) (Ok.ite (λ_=>Ok.pure (.inr ⟨J,by simp at q;omega⟩)) λz=>Ok.pure (.inl ⟨J,λ_=>cu _ (by simpa using z)⟩)))) λq=>Ok.ite (λq=>Ok.eq (ER hn h1 _) (Ok.ite (λ_=>Ok.pure (.inr ⟨J,by simp at q;omega⟩)) λz=>Ok.pure (.inl ⟨J,λ_=>cu _ (by simpa using z)⟩))) λq'=>Ok.pure (.inl ⟨J,λz=>?_⟩)
 simp at q q';omega
theorem Ends.mono {o:cR} {r:Er×bH×eI} {b':Int} (h:Ends k most b S L o r) (hb:b<=b'):Ends k most b' S L o r:=by
 obtain⟨L',h1,h2⟩:=h;exact⟨L',h1.mono hb,h2⟩
theorem aiJ (h:gX S k most b L) (hb:0<=b/\b<=60000000000) {o:cR} (ho:ou o):Ok (rp.f S o a0) (Ends k most (b+500000) S L o):=by
 obtain⟨ord,hn⟩:=h.nav;unfold rp.f;have no: ∀e:Er,(e=Er.eF 0∨ ∃c,c≠0/\e=Er.num 148 c)->o.Kind≠8->Ends k most (b+500000) S L o (e,S,a0):=λe he h8=>⟨L,h.mono U,.inr ⟨he,J,J,h8⟩⟩
 by_cases Cu:o.Kind=0
 ·rw[af (by simpa using Cu)]
  exact Ok.eq J (Ok.pos J (Ok.pure (no _ (.inl J) U)))
 rw[ah (by simpa using Cu),Ph ho Cu]
 refine Ok.eq J (Ok.neg bd ?_);have hkr:=ho.k;have fin: ∀(r:Er×bH×eI),Ends k most (b+500000) S L o r->Ok (some (r.1,r.2.1,eI.mk r.2.2.Code r.2.2.D r.2.2.bX r.2.2.Id r.2.2.cF r.2.2.di (fZ.mk r.2.2.Stats.bA r.2.2.Stats.bB r.2.2.Stats.bz r.2.2.Stats.bw r.2.2.Stats.bF r.2.2.Stats.bD))) (Ends k most (b+500000) S L o):=λr hr=>Ok.pure hr
 rcases h.cr with⟨n1,n2,n3⟩ |⟨c,C,h1,h2,h3,h4,h5⟩
 ·rw[n2];have e:(cT (none:Option dN) (if(o.Kind !=1)=true then(some (o.Kind !=8)) else(some false)) (λx6=>some false))=some (decide (o.Kind≠1/\o.Kind≠8)):=by
   show(if(o.Kind !=1)=true then _ else _)=_
   by_cases z:o.Kind=1
   ·rw[ah (by simp[z])];simp[z]
   ·rw[af (by simpa using z)];simp only[Option.some.injEq];rw[Bool.eq_iff_iff];simp[z]
  refine Ok.eq e (Ok.ite (λw=>Ok.pure (no _ (.inr ⟨4,by omega,J⟩) (of_decide_eq_true w).2)) λq=>?_)
  have q:o.Kind=1∨o.Kind=8:=by have:=of_decide_eq_false (by simpa using q:decide (o.Kind≠1/\o.Kind≠8)=false);omega
  have ec:oa.f S o=some Er.nil:=by
   unfold oa.f;rw[ah bm,ah bm]
  refine Ok.eq ec (Ok.neg (by simp[Er.isNil]) ?_)
  rcases q with q |q
  ·rw[af (by simpa using q)]
   obtain⟨r,er,hr⟩:=Xm h ⟨hb.1,by omega⟩ ho q
   rw[er];exact Ok.eq J (fin (r.1,r.2,a0) (hr.mono U))
  ·rw[ah (by simp[q]),af (by simpa using q)]
   obtain⟨n',e1,e2,e3,e4,e5,e6⟩:=K1 hn;have e6:n'.core=none:=by
    rcases e6 with z |⟨c,z,_⟩
    ·exact z.2
    ·rw[n1] at z;simp at z
   rw[e1];refine Ok.eq J (fin (Er.nil,⟨S.most,n',none⟩,a0) ⟨L,⟨h.m_,h.mb,⟨[],e2.mono U⟩,.inl ⟨e6,J,n3⟩,λc hc=>by simp only at hc;rw[e6] at hc;simp at hc⟩,.inl ⟨J,J,.inr (.inl ⟨q,J,J,(Ib e2.oI).1 J,e3,.inl ⟨n1,e6⟩⟩)⟩⟩)
 ·rw[h2];refine Ok.eq (v:=false) J (Ok.neg bd ?_);refine(Xe hn h1 o).bind λe he=>?_
  rcases he with⟨rfl,cu⟩ |⟨rfl,h8⟩
  rotate_left
  ·exact Ok.pos J (Ok.pure (no _ (.inr ⟨7,by omega,J⟩) h8))
  refine Ok.neg (by simp[Er.isNil]) ?_
  by_cases k1:o.Kind=1
  ·rw[af (by simpa using k1)]
   obtain⟨r,er,hr⟩:=Xm h ⟨hb.1,by omega⟩ ho k1
   rw[er];exact Ok.eq J (fin (r.1,r.2,a0) (hr.mono U))
  rw[ah (by simpa using k1)]
  by_cases k8:o.Kind=8
  ·rw[af (by simpa using k8)]
   obtain⟨n',e1,e2,e3,e4,e5,e6⟩:=K1 hn;rcases e6 with z |⟨c2,z1,z2⟩
   ·rw[h1] at z;simp at z
   rw[h1] at z1;simp only[Option.some.injEq] at z1;subst z1;rw[e1];refine Ok.eq J (fin (Er.nil,⟨S.most,n',some C⟩,a0) ⟨L,⟨h.m_,h.mb,⟨[],e2.mono U⟩,.inr ⟨_,C,z2,J,h3,by omega,h5⟩,λc' j7=>?_⟩,.inl ⟨J,J,.inr (.inl ⟨k8,J,J,(Ib e2.oI).1 J,e3,.inr ⟨c,h1,z2⟩⟩)⟩⟩)
   simp only at j7⊢;rw[z2] at j7;simp only[Option.some.injEq] at j7;subst j7;rw[(Ib e2.oI).1 J];simp
  rw[ah (by simpa using k8)]
  by_cases k2:o.Kind=2
  ·rw[af (by simpa using k2)]
   obtain⟨r,er,hr⟩:=aiP h ⟨hb.1,by omega⟩ ho k2 h1 h2 h3 h4 h5 (cu (.inr k2))
   rw[er];exact Ok.eq J (fin (r.1,r.2,a0) (hr.mono U))
  rw[ah (by simpa using k2)]
  by_cases k3:o.Kind=3
  ·rw[af (by simpa using k3)]
   obtain⟨r,er,hr⟩:=ajk h hb k3 h1 h2 h3 h4 h5;rw[er];exact Ok.eq J (fin (r.2.1,r.2.2,⟨0,0,5,r.1,[],[],⟨0,0,0,0,0,0⟩⟩) ((hr _ J J).mono U))
  rw[ah (by simpa using k3)]
  by_cases k4:o.Kind=4
  ·rw[af (by simpa using k4)]
   obtain⟨C',e1,e2,e3⟩:=RJ h3 o.A o.B;have hS:gX ⟨S.most,S.nav,some C'⟩ k most (b+500000) (xj c.aB.m.W c.aB.m.H L o.A o.B).2:=⟨h.m_,h.mb,⟨ord,hn.mono U⟩,.inr ⟨c,C',h1,J,e2,by omega,λu hu=>by
    unfold xj at hu
    repeat' split at hu
    all_goals first
     |exact h5 u hu
     |exact h5 u (MT hu)
     |(unfold gQ at hu
       obtain⟨x,hx,rfl⟩:=List.mem_map.1 hu;split
       ·exact h5 x hx
       ·exact h5 x hx)⟩,h.kp⟩
   refine Ok.bind (P:=λr=>r=((if(xj c.aB.m.W c.aB.m.H L o.A o.B).1=0 then Er.nil else Er.num 148 (xj c.aB.m.W c.aB.m.H L o.A o.B).1),(0:Int),(0:Int),(5:Int),(-1:Int),([]:List eD),([]:List Int),(0:Int),(0:Int),(0:Int),(0:Int),(0:Int),(0:Int),(⟨S.most,S.nav,some C'⟩:bH))) (Ok.opt (Ok.eq e1 (Ok.eq (zI _) (Ok.pure J)))) λr hr=>?_
   subst hr;refine fin ((if(xj c.aB.m.W c.aB.m.H L o.A o.B).1=0 then Er.nil else Er.num 148 (xj c.aB.m.W c.aB.m.H L o.A o.B).1),⟨S.most,S.nav,some C'⟩,a0) ⟨_,hS,?_⟩
   by_cases z:(xj c.aB.m.W c.aB.m.H L o.A o.B).1=0
   ·rw[af z];exact .inl ⟨J,J,.inr (.inr (.inr (.inl ⟨.inr (.inl k4),J,J⟩)))⟩
   ·rw[ah z];exact .inr ⟨.inr ⟨_,z,J⟩,J,J,by omega⟩
  rw[ah (by simpa using k4)]
  by_cases k5:o.Kind=5
  ·rw[af (by simpa using k5)]
   obtain⟨C',e1,e2,e3⟩:=Rq h3 o.A;have hS:gX ⟨S.most,S.nav,some C'⟩ k most (b+500000) (xi L o.A).2:=⟨h.m_,h.mb,⟨ord,hn.mono U⟩,.inr ⟨c,C',h1,J,e2,by omega,λu hu=>by
    unfold xi at hu;split at hu
    ·exact h5 u (MT hu)
    ·exact h5 u hu⟩,h.kp⟩
   refine Ok.bind (P:=λr=>r=((if(xi L o.A).1=0 then Er.nil else Er.num 148 (xi L o.A).1),(0:Int),(0:Int),(5:Int),(-1:Int),([]:List eD),([]:List Int),(0:Int),(0:Int),(0:Int),(0:Int),(0:Int),(0:Int),(⟨S.most,S.nav,some C'⟩:bH))) (Ok.opt (Ok.eq e1 (Ok.eq (zI _) (Ok.pure J)))) λr hr=>?_
   subst hr;refine fin ((if(xi L o.A).1=0 then Er.nil else Er.num 148 (xi L o.A).1),⟨S.most,S.nav,some C'⟩,a0) ⟨_,hS,?_⟩
   by_cases z:(xi L o.A).1=0
   ·rw[af z];exact .inl ⟨J,J,.inr (.inr (.inr (.inl ⟨.inr (.inr k5),J,J⟩)))⟩
   ·rw[ah z];exact .inr ⟨.inr ⟨_,z,J⟩,J,J,by omega⟩
  rw[ah (by simpa using k5)]
  by_cases k6:o.Kind=6
  ·rw[af (by simpa using k6)]
   obtain⟨r,er,hr⟩:=aji h ⟨hb.1,by omega⟩ k6 h1 h2 h3 h4 h5
   rw[er];exact Ok.eq J (fin r (hr.mono U))
  rw[ah (by simpa using k6),af bm]
  obtain⟨r,er,hr⟩:=ajv h ⟨hb.1,by omega⟩ (show o.Kind=7 by omega) h1 h2 h3 h4 h5
  rw[er];exact Ok.eq J (fin r (hr.mono U))
theorem aiF (q c:Int):DC.f (Er.wrap 110 [q] (Er.num 148 c))=some c:=rfl
theorem aiE (q:Int):DC.f (Er.wrap 110 [q] (Er.eF 0))=some 5:=rfl
theorem LN (h:gX S k most b L) (hb:0<=b/\b<=60000000000) {o:cR} (ho:ou o):
 Ok (ig.f S o) (λr=> ∃L',gX r.2 k most (b+500000) L'/\r.1.Stats=gy r.2.nav/\((r.1.Code=0/\LO k S L o r.2 L' r.1)∨(r.1.Code≠0/\r.2.nav=S.nav/\r.1.cF=[]/\o.Kind≠8))):=by
 unfold ig.f;refine(aiJ h hb ho).bind λr hr=>?_
 obtain⟨L',h1,h2⟩:=hr;obtain⟨ord,hn⟩:=h1.nav;have nJ:zU.f r.2.1=some (gy r.2.1.nav):=by
  unfold zU.f;rw[ajm hn ⟨by omega,by omega⟩];rfl
 rcases h2 with⟨e,z,q⟩ |⟨e |⟨c,c0,e⟩,z,q⟩
 ·rw[e];exact Ok.neg (by simp[Er.isNil]) (Ok.eq nJ (Ok.pure ⟨L',h1,J,.inl ⟨z,q⟩⟩))
 ·rw[e];exact Ok.pos J (Ok.eq (aiE _) (Ok.eq nJ (Ok.pure ⟨L',h1,J,.inr ⟨by simp,z,q⟩⟩)))
 ·rw[e];exact Ok.pos J (Ok.eq (aiF _ _) (Ok.eq nJ (Ok.pure ⟨L',h1,J,.inr ⟨c0,z,q⟩⟩)))
end
theorem aao:Fm.f=some true:=ay
section
variable {S : bH} {k most b : Int} {L : List aF}
theorem Xr {k most:Int} (k1:1<=k) (k2:k<=1000000) (m1:1<=most) (m2:most<=100): ∃S,nZ.f k most=some (some S)/\gX S k most 0 []/\S.nav.core=none/\gy S.nav=⟨0,0,0,0,0,0⟩:=by
 obtain⟨n,e,h1,h2,h3⟩:=ag3 k1 k2;unfold nZ.f;rw[ah bm,e];exact⟨_,J,⟨J,⟨m1,m2⟩,⟨[],h1⟩,.inl ⟨h2,J,J⟩,λc hc=>by simp only at hc;rw[h2] at hc;simp at hc⟩,h2,h3⟩
def A_ (S:bH):aL:=match S.nav.core with |none=>⟨0,0,[]⟩ |some c=>c.aB.m
theorem Vw {c:d_} (hc:S.nav.core=some c):A_ S=c.aB.m:=by unfold A_;rw[hc]
theorem Vv (hc:S.nav.core=none):A_ S=⟨0,0,[]⟩:=by unfold A_;rw[hc]
theorem Xp (h:gX S k most b L):uc.f S=some (A_ S):=by
 obtain⟨ord,hn⟩:=h.nav;unfold uc.f A_
 cases hc:S.nav.core with
 |none=>unfold wh.f;rw[hc];rfl
 |some c=>rw[ag2 hn hc];rfl
theorem abX (l:List tj) {n:Int} (h:0<=n): ∃r,wM.f l n=some r:=by
 unfold wM.f
 by_cases z:n<(l.length:Int)
 ·simp only[af z];exact⟨n,by rw[af U]⟩
 ·simp only[ah z];exact⟨_,by rw[af U]⟩
end
section
variable {g : bC} {more : Int} {goal : Int} {im : List (Int × Int)} {D D' : List Int}
theorem PB (h:du g more) (hR:yz g goal im D) (tc:yz g goal im D'): ∀(n:Nat) (c:Int),0<=c->c<D.length->rd D c≠dB->(rd D c).toNat<=n->rd D' c≠dB/\rd D' c<=rd D c:=by
 intro n
 induction n with
 |zero=>
  intro c c0 c1 hc hn;obtain⟨a1,a2,_,hp⟩:=hR.dv c c0 c1 hc;rcases hp with⟨p1,p2,p3⟩ |⟨b,e,p1,p2,p3,p4,p5⟩
  ·rw[<-p3];exact tc.sd c p1 p2
  ·have:=(F7 h p1 p3).2.2.1;have hb:=tF h hR.len_ p1;have:=(hR.dv b hb.1 hb.2 p2).2.1;omega
 |succ n ih=>
  intro c c0 c1 hc hn;obtain⟨a1,a2,_,hp⟩:=hR.dv c c0 c1 hc;rcases hp with⟨p1,p2,p3⟩ |⟨b,e,p1,p2,p3,p4,p5⟩
  ·rw[<-p3];exact tc.sd c p1 p2
  ·have hk:=(F7 h p1 p3).2.2.1;have hb:=tF h hR.len_ p1;have Ue:=(hR.dv b hb.1 hb.2 p2).2.1;obtain⟨q1,q2⟩:=ih b hb.1 hb.2 p2 U;obtain⟨r1,r2⟩:=tc.rel b p1 q1 e p3;rw[p4] at r1 r2;exact⟨r1,by omega⟩
theorem ain (h:du g more) (hR:yz g goal im D) (tc:yz g goal im D'):D=D':=by
 have e1:=hR.len_;have e2:=tc.len_;refine zC U λi i0 i1=>?_
 by_cases z:rd D i=dB
 ·by_cases y:rd D' i=dB
  ·rw[z,y]
  ·exact absurd z (PB h tc hR _ i i0 U y (Nat.le_refl _)).1
 ·have a:=PB h hR tc _ i i0 i1 z (Nat.le_refl _);have b:=PB h tc hR _ i i0 U a.1 (Nat.le_refl _);omega
theorem W3 (h:du g more) {R R':ic} (hR:sG g R) (tc:sG g R') (e:R.goal=R'.goal):R=R':=by
 obtain⟨e1,im,hw,hd⟩:=hR;obtain⟨e2,im',UT,fS⟩:=tc;rw[<-e] at UT fS;have ei:im=im':=by
  have a:=hw.1 default default;have b:=UT.1 default default;rw[a] at b;exact Option.some.inj b
 subst ei;have:=ain h hd fS
 cases R;cases R';simp only at e e1 e2 this;rw[e,e1,e2,this]
theorem abz (h:du g more) {u:aF} (hu:cP g.m u.Cell) {d d':Int} (h1:Ae g u d) (h2:Ae g u d'):d=d':=by
 obtain⟨R,l,f,a1,a2,a3,_,a5,a6⟩:=h1;obtain⟨R',l',f',b1,b2,b3,_,b5,b6⟩:=h2;have hs:=tZ (nK h.ok hu);have eR:=W3 h a1 b1 (by rw[a2,b2])
 subst eR;have el:l=l':=by have a:=a3.2;have b:=b3.2;rw[a] at b;exact Option.some.inj b
 subst el;rw[a6,b6,Sb (Ie h hs) a5 b5]
theorem ab3 {n n':bV} {k k' b b':Int} {ord mH:List Int} {c c':d_} {goal s:Int} {r r':fR×Er×bV} (h:du c.aB more) (hs:bK c.aB.m.W c.aB.m.H s) (e:c'.aB=c.aB) (h1:Af n k b ord c goal s r) (h2:Af n' k' b' mH c' goal s r'):r.1=r'.1:=by
 obtain⟨R,l,_,_,a1,a2,_,_,_,a6,_,_,_,_,_,_,_,_,_,_,_,_,a17⟩:=h1.AG;obtain⟨R',l',_,_,b1,b2,_,_,_,b6,_,_,_,_,_,_,_,_,_,_,_,_,vu⟩:=h2.AG;rw[e] at b1 b6 vu;have eR:=W3 h a1 b1 (by rw[a2,b2])
 subst eR;have el:l=l':=by rw[a17] at vu;exact Option.some.inj vu
 subst el;exact Sb (Ie h hs) a6 b6
end
def bE {α β:Type} (o:Option α) (p:Option β) (R:α->β->Prop):Prop:= ∃r q,o=some r/\p=some q/\R r q
section
variable {α β γ δ : Type} {o : Option α} {p : Option β} {f : α -> Option γ} {f' : β -> Option δ} {R : α -> β -> Prop} {Q : γ -> δ -> Prop} {a a' : Option α} {b b' : Option β} {c d : Prop} [Decidable c] [Decidable d]
theorem bE.eq {v:α} {v':β} (e:o=some v) (e':p=some v') (k:bE (f v) (f' v') Q):bE (o.bind f) (p.bind f') Q:=by subst e;subst e';exact k
theorem bE.bind (h:bE o p R) (k: ∀r q,R r q->bE (f r) (f' q) Q):bE (o.bind f) (p.bind f') Q:=by
 obtain⟨r,q,rfl,rfl,hr⟩:=h;exact k r q hr
theorem bE.pure {r:α} {q:β} (h:R r q):bE (some r) (some q) R:=⟨r,q,J,J,h⟩
theorem bE.pos (hc:c) (hd:d) (h:bE a b R):bE (if c then a else a') (if d then b else b') R:=by rw[af hc,af hd];exact h
theorem bE.neg (hc: ¬c) (hd: ¬d) (h:bE a' b' R):bE (if c then a else a') (if d then b else b') R:=by rw[ah hc,ah hd];exact h
theorem bE.mono {R':α->β->Prop} (h:bE o p R) (k: ∀r q,R r q->R' r q):bE o p R':=by
 obtain⟨r,q,e,e',hr⟩:=h;exact⟨r,q,e,e',k r q hr⟩
end
def mZ (n:bV):Option bC:=n.core.map (·.aB)
theorem sZ {n:bV} {c:d_} (h:n.core=some c):mZ n=some c.aB:=by unfold mZ;rw[h];rfl
theorem AJ {n:bV} (h:n.core=none):mZ n=none:=by unfold mZ;rw[h];rfl
structure iR (S Z:bH):Prop where
 most:S.most=Z.most
 cZ:S.cZ=Z.cZ
 aB:mZ S.nav=mZ Z.nav
section
variable {S Z : bH} {k k' most CX b b' : Int} {L L' : List aF}
theorem iR.core (hs:iR S Z) {c:d_} (h:S.nav.core=some c): ∃c',Z.nav.core=some c'/\c'.aB=c.aB:=by
 have:=hs.aB;rw[sZ h] at this
 cases hz:Z.nav.core with
 |none=>rw[AJ hz] at this;simp at this
 |some c'=>rw[sZ hz] at this;exact⟨c',J,(Option.some.inj this).symm⟩
theorem iR.none_ (hs:iR S Z) (h:S.nav.core=none):Z.nav.core=none:=by
 have:=hs.aB;rw[AJ h] at this
 cases hz:Z.nav.core with
 |none=>rfl
 |some c'=>rw[sZ hz] at this;simp at this
theorem iR.cost (hs:iR S Z) (x:Int):qk.f Z.nav x=qk.f S.nav x:=by
 unfold qk.f
 cases hc:S.nav.core with
 |none=>rw[hs.none_ hc]
 |some c=>
  obtain⟨c',h1,h2⟩:=hs.core hc;rw[h1]
  show(iU.f c'.aB x).bind _=(iU.f c.aB x).bind _
  rw[h2]
theorem iR.cells (hs:iR S Z) (o:cR):oa.f Z o=oa.f S o:=by
 unfold oa.f;simp only[hs.cost]
def Gd (n:bV):Int:=match n.core with |none=>0 |some c=>c.aB.bM
theorem abR {n n':bV} (h:mZ n=mZ n'):Gd n=Gd n':=by
 unfold Gd;unfold mZ at h
 cases h1:n.core<;>cases h2:n'.core<;>rw[h1,h2] at h<;>simp at h⊢
 rw[h]
theorem VK {n n':bV} {m:aL} (h:u7.f n m=some (0,n')): ∃g,mZ n'=some g/\lN.f m (Gd n)=some (some g):=by
 unfold u7.f at h;obtain⟨v1,_,h⟩:=Option.bind_eq_some_iff.1 h;split at h
 ·simp at h
 ·obtain⟨v2,_,h⟩:=Option.bind_eq_some_iff.1 h;obtain⟨v3,_,h⟩:=Option.bind_eq_some_iff.1 h;unfold Gd
  cases hc:n.core with
  |none=>
   rw[hc] at h;simp only[cT,Ef.f,aI] at h;obtain⟨v6,e6,h⟩:=Option.bind_eq_some_iff.1 h
   cases v6 with
   |none=>simp at h
   |some g=>
    simp only at h;obtain⟨v7,_,h⟩:=Option.bind_eq_some_iff.1 h
    cases v7 with
    |none=>simp at h
    |some v7=>
     simp only[ra.f,aI] at h;obtain⟨v9,_,h⟩:=Option.bind_eq_some_iff.1 h;simp only[Option.some.injEq,Prod.mk.injEq,true_and] at h;subst h;exact⟨g,J,e6⟩
  |some c=>
   rw[hc] at h;simp only[cT,oC.f,aI] at h;obtain⟨v6,e6,h⟩:=Option.bind_eq_some_iff.1 h
   cases v6 with
   |none=>simp at h
   |some g=>
    simp only at h;obtain⟨v7,_,h⟩:=Option.bind_eq_some_iff.1 h
    cases v7 with
    |none=>simp at h
    |some v7=>
     simp only[ra.f,aI] at h;obtain⟨v9,_,h⟩:=Option.bind_eq_some_iff.1 h;simp only[Option.some.injEq,Prod.mk.injEq,true_and] at h;subst h;exact⟨g,J,e6⟩
def DT (r q:Er×bH×eI):Prop:=r.1=q.1/\r.2.2=q.2.2/\iR r.2.1 q.2.1/\r.2.2.cF.length<=1000/\r.2.2.di.length<=1000
theorem age (h:gX S k most b L) (h':gX Z k' CX b' L') (hb:0<=b/\b<=60000000000) (gf:0<=b'/\b'<=60000000000) (hs:iR S Z) {o:cR} (ho:ou o) (hk:o.Kind=1):
 bE (ue.f S o.Map) (ue.f Z o.Map) (λr q=>r.1=q.1/\iR r.2 q.2):=by
 obtain⟨l1,l2,l3,l4,l5⟩:=ho.ld hk;obtain⟨ord,hn⟩:=h.nav;obtain⟨mH,tk⟩:=h'.nav;unfold ue.f;obtain⟨v,ev,hv⟩:=QC l1 l3;refine bE.eq ev ev ?_;rcases hv with q |⟨q1,q2,q3,q4,q5⟩
 ·have:(v.2 !=0)=true:=by rcases q with q |q<;>simp[q]
  exact bE.pos this this (bE.pure ⟨J,hs⟩)
 ·have hz: ¬(v.2 !=0)=true:=by simp[q1]
  refine bE.neg hz hz ?_;have Ex:LV v.1:=⟨q2,q3,by
   have:v.1.W*v.1.H<=40*40:=ka (by have:=q2.1;omega) U (by have:=q2.1;omega) U
   omega⟩
  obtain⟨n1,c1,e1,_⟩:=O1 hn ⟨hb.1,by omega⟩ Ex
  obtain⟨n2,c2,e2,_⟩:=O1 tk ⟨gf.1,by omega⟩ Ex
  obtain⟨g1,a1,a2⟩:=VK e1;obtain⟨g2,b1,b2⟩:=VK e2;rw[<-abR hs.aB,a2] at b2;simp only[Option.some.injEq] at b2;obtain⟨C,eC,_⟩:=VI (w:=v.1.W) (h:=v.1.H) (most:=most) q2.1 h.mb.1 (by have:=h.mb;omega)
  refine bE.eq e1 e2 (bE.pos J J ?_);rw[<-hs.most,h.m_];exact bE.eq (v:=some C) (v':=some C) eC eC (bE.pure ⟨J,J,J,by simp only;rw[a1,b1,b2]⟩)
theorem Sk {ord mH:List Int} {n n':bV} (h:il n k b ord) (h':il n' k' b' mH) (hs:mZ n=mZ n'):bE (tD.f n) (tD.f n') (λr q=>mZ r=mZ n/\mZ q=mZ n):=by
 have key: ∀{n:bV} {k b:Int} {ord:List Int},il n k b ord-> ∃r,tD.f n=some r/\mZ r=mZ n:=λ{n k b ord} h=>by
  obtain⟨r,e,_,_,_,_,e6⟩:=K1 h;refine⟨r,e,?_⟩;rcases e6 with⟨z1,z2⟩ |⟨c,z1,z2⟩
  ·rw[AJ z1,AJ z2]
  ·rw[sZ z1,sZ z2]
 obtain⟨r,e,h1⟩:=key h;obtain⟨q,e',h2⟩:=key h';exact⟨r,q,e,e',h1,by rw[h2,hs]⟩
theorem ajP {w h w' h' CX:Int} {C:dN} (h1:CS C w h most L) (h2:CS C w' h' CX L'):L=L':=by
 have a:=D6 h1;rw[D6 h2] at a;exact(Option.some.inj a).symm
theorem abH (h:gX S k most b L) (h':gX Z k' CX b' L') (hb:0<=b/\b<=60000000000) (gf:0<=b'/\b'<=60000000000) (hs:iR S Z) {o:cR} (ho:ou o):bE (rp.f S o a0) (rp.f Z o a0) DT:=by
 obtain⟨ord,hn⟩:=h.nav;obtain⟨mH,tk⟩:=h'.nav;have short:a0.cF.length<=1000/\a0.di.length<=1000:=by decide
 have no: ∀e:Er,DT (e,S,a0) (e,Z,a0):=λe=>⟨J,J,hs,short⟩
 unfold rp.f
 by_cases Cu:o.Kind=0
 ·repeat rw[af (c:=(o.Kind==0)=true) (by simpa using Cu)]
  exact bE.eq J J (bE.pos J J (bE.pure (no _)))
 repeat rw[ah (c:=(o.Kind==0)=true) (by simpa using Cu)]
 rw[Ph ho Cu];refine bE.eq J J (bE.neg bd bd ?_);have hkr:=ho.k;have fin: ∀(r q:Er×bH×eI),DT r q->bE (some (r.1,r.2.1,eI.mk r.2.2.Code r.2.2.D r.2.2.bX r.2.2.Id r.2.2.cF r.2.2.di (fZ.mk r.2.2.Stats.bA r.2.2.Stats.bB r.2.2.Stats.bz r.2.2.Stats.bw r.2.2.Stats.bF r.2.2.Stats.bD))) (some (q.1,q.2.1,eI.mk q.2.2.Code q.2.2.D q.2.2.bX q.2.2.Id q.2.2.cF q.2.2.di (fZ.mk q.2.2.Stats.bA q.2.2.Stats.bB q.2.2.Stats.bz q.2.2.Stats.bw q.2.2.Stats.bF q.2.2.Stats.bD))) DT:=λr q hr=>bE.pure hr
 have load:o.Kind=1->_:=λk1=>age h h' hb gf hs ho k1
 rcases h.cr with⟨n1,n2,n3⟩ |⟨c,C,h1,h2,h3,h4,h5⟩
 ·have n1':=hs.none_ n1;have n2':Z.cZ=none:=by rw[<-hs.cZ,n2]
  rw[n2,n2'];have e:(cT (none:Option dN) (if(o.Kind !=1)=true then(some (o.Kind !=8)) else(some false)) (λx6=>some false))=some (decide (o.Kind≠1/\o.Kind≠8)):=by
   show(if(o.Kind !=1)=true then _ else _)=_
   by_cases z:o.Kind=1
   ·rw[ah (by simp[z])];simp[z]
   ·rw[af (by simpa using z)];simp only[Option.some.injEq];rw[Bool.eq_iff_iff];simp[z]
  refine bE.eq e e ?_
  by_cases q:o.Kind=1∨o.Kind=8
  rotate_left
  ·have:decide (o.Kind≠1/\o.Kind≠8)=true:=decide_eq_true U;exact bE.pos this this (bE.pure (no _))
  have hq: ¬decide (o.Kind≠1/\o.Kind≠8)=true:=by simp;omega
  refine bE.neg hq hq ?_;have ec: ∀S:bH,oa.f S o=some Er.nil:=λS=>by
   unfold oa.f;rw[ah bm,ah bm]
  refine bE.eq (ec S) (ec Z) (bE.neg (by simp[Er.isNil]) (by simp[Er.isNil]) ?_)
  rcases q with q |q
  ·repeat rw[af (c:=(o.Kind==1)=true) (by simpa using q)]
   obtain⟨r,q,er,eq,hr⟩:=load q;rw[er,eq];exact bE.eq J J (fin (r.1,r.2,a0) (q.1,q.2,a0) ⟨hr.1,J,hr.2,short⟩)
  ·repeat rw[ah (c:=(o.Kind==1)=true) (by simp[q])]
   repeat rw[af (c:=(o.Kind==8)=true) (by simpa using q)]
   obtain⟨r,q,er,eq,hr⟩:=Sk hn tk hs.aB;rw[er,eq];exact bE.eq J J (fin (Er.nil,⟨S.most,r,none⟩,a0) (Er.nil,⟨Z.most,q,none⟩,a0) ⟨J,J,⟨hs.most,J,by simp only;rw[hr.1,hr.2]⟩,short⟩)
 ·obtain⟨c',Gj,eg⟩:=hs.core h1;have Eg:Z.cZ=some C:=by rw[<-hs.cZ,h2]
  rcases h'.cr with⟨y,_⟩ |⟨c3,C3,y1,y2,y3,y4,y5⟩
  ·rw[Gj] at y;simp at y
  rw[Gj] at y1;rw[Eg] at y2;simp only[Option.some.injEq] at y1 y2;subst y1;subst y2;have eL:=ajP h3 y3;subst eL;rw[h2,Eg];refine bE.eq (v:=false) (v':=false) J J (bE.neg bd bd ?_);rw[hs.cells];obtain⟨e,ee,he⟩:=Xe hn h1 o;refine bE.eq ee ee ?_;rcases he with⟨rfl,cu⟩ |⟨rfl,h8⟩
  rotate_left
  ·exact bE.pos J J (bE.pure (no _))
  refine bE.neg (by simp[Er.isNil]) (by simp[Er.isNil]) ?_
  by_cases k1:o.Kind=1
  ·repeat rw[af (c:=(o.Kind==1)=true) (by simpa using k1)]
   obtain⟨r,q,er,eq,hr⟩:=load k1;rw[er,eq];exact bE.eq J J (fin (r.1,r.2,a0) (q.1,q.2,a0) ⟨hr.1,J,hr.2,short⟩)
  repeat rw[ah (c:=(o.Kind==1)=true) (by simpa using k1)]
  by_cases k8:o.Kind=8
  ·repeat rw[af (c:=(o.Kind==8)=true) (by simpa using k8)]
   obtain⟨r,q,er,eq,hr⟩:=Sk hn tk hs.aB;rw[er,eq];exact bE.eq J J (fin (Er.nil,⟨S.most,r,some C⟩,a0) (Er.nil,⟨Z.most,q,some C⟩,a0) ⟨J,J,⟨hs.most,J,by simp only;rw[hr.1,hr.2]⟩,short⟩)
  repeat rw[ah (c:=(o.Kind==8)=true) (by simpa using k8)]
  by_cases k2:o.Kind=2
  ·repeat rw[af (c:=(o.Kind==2)=true) (by simpa using k2)]
   have hB:=ho.b2 k2;have hA:=cu (.inr k2);refine bE.bind (R:=λr q=> ∃(e:Er) (S' Z':bH),iR S' Z'/\r=(e,a0.Code,a0.D,a0.bX,a0.Id,a0.cF,a0.di,a0.Stats.bA,a0.Stats.bB,a0.Stats.bz,a0.Stats.bw,a0.Stats.bF,a0.Stats.bD,S')/\q=(e,a0.Code,a0.D,a0.bX,a0.Id,a0.cF,a0.di,a0.Stats.bA,a0.Stats.bB,a0.Stats.bz,a0.Stats.bw,a0.Stats.bF,a0.Stats.bD,Z')) (bE.bind (R:=λr q=>r.1=q.1/\iR r.2 q.2) ?_ λr q hr=>bE.pure ⟨r.1,r.2,q.2,hr.2,J,by rw[hr.1]⟩) λr q hr=>?_
   ·unfold wK.f
    by_cases q:o.B<1∨o.B>255
    ·exact bE.pos (by simpa using q) (by simpa using q) (bE.pure ⟨J,hs⟩)
    refine bE.neg (by simpa using q) (by simpa using q) ?_
    rw[h2,Eg];have e:cT (some C) none (λx3=>if(o.B==255)=true then((yN.f x3 o.A).bind λv4=>some (decide (v4≥0))) else(some false))=some (decide (o.B=255/\mT L o.A≥0)):=by
     show(if(o.B==255)=true then _ else _)=_
     by_cases z:o.B=255
     ·rw[af (by simpa using z),RP h3];simp[z]
     ·rw[ah (by simpa using z)];simp[z]
    refine bE.eq e e ?_
    by_cases z:o.B=255/\mT L o.A≥0
    ·have:=decide_eq_true z;exact bE.pos this this (bE.pure ⟨J,hs⟩)
    have hz: ¬decide (o.B=255/\mT L o.A≥0)=true:=by simpa using z
    refine bE.neg hz hz ?_;obtain⟨n',e1,e2,_⟩:=O0 hn ⟨hb.1,by omega⟩ h1 hA U hB
    obtain⟨m',f1,f2,_⟩:=O0 tk ⟨gf.1,by omega⟩ Gj (by rw[eg];exact hA) U hB
    refine bE.eq e1 f1 (bE.eq J J (bE.pure ⟨J,hs.most,J,?_⟩));simp only;rw[sZ e2,sZ f2,eg]
   ·obtain⟨e,S',Z',h1,rfl,rfl⟩:=hr;exact bE.pure ⟨J,J,h1,short⟩
  repeat rw[ah (c:=(o.Kind==2)=true) (by simpa using k2)]
  by_cases k3:o.Kind=3
  ·repeat rw[af (c:=(o.Kind==3)=true) (by simpa using k3)]
   refine bE.bind (R:=λr q=> ∃(e:Er) (id:Int) (S' Z':bH),iR S' Z'/\r=(e,a0.Code,a0.D,a0.bX,id,a0.cF,a0.di,a0.Stats.bA,a0.Stats.bB,a0.Stats.bz,a0.Stats.bw,a0.Stats.bF,a0.Stats.bD,S')/\q=(e,a0.Code,a0.D,a0.bX,id,a0.cF,a0.di,a0.Stats.bA,a0.Stats.bB,a0.Stats.bz,a0.Stats.bw,a0.Stats.bF,a0.Stats.bD,Z')) (bE.bind (R:=λr q=>r.1=q.1/\r.2.1=q.2.1/\iR r.2.2 q.2.2) ?_ λr q hr=>bE.pure ⟨r.2.1,r.1,r.2.2,q.2.2,hr.2.2,J,by rw[hr.1,hr.2.1]⟩) λr q hr=>?_
   ·unfold wL.f;rw[hs.cost];refine bE.eq (ER hn h1 _) (ER hn h1 _) ?_
    by_cases q:fB c.aB o.A=255
    ·exact bE.pos (by simpa using q) (by simpa using q) (bE.pure ⟨J,J,hs⟩)
    refine bE.neg (by simpa using q) (by simpa using q) ?_
    rw[h2,Eg];obtain⟨C',e1,_⟩:=RN h3 U o.A o.B
    show bE ((uF.f C o.A o.B).bind _) ((uF.f C o.A o.B).bind _) _
    exact bE.eq e1 e1 (bE.eq (zI _) (zI _) (bE.pure ⟨J,J,hs.most,J,hs.aB⟩))
   ·obtain⟨e,id,S',Z',h1,rfl,rfl⟩:=hr;exact bE.pure ⟨J,J,h1,short⟩
  repeat rw[ah (c:=(o.Kind==3)=true) (by simpa using k3)]
  by_cases k4:o.Kind=4
  ·repeat rw[af (c:=(o.Kind==4)=true) (by simpa using k4)]
   obtain⟨C',e1,_⟩:=RJ h3 o.A o.B;refine bE.bind (R:=λr q=> ∃(e:Er) (S' Z':bH),iR S' Z'/\r=(e,(0:Int),(0:Int),(5:Int),(-1:Int),([]:List eD),([]:List Int),(0:Int),(0:Int),(0:Int),(0:Int),(0:Int),(0:Int),S')/\q=(e,(0:Int),(0:Int),(5:Int),(-1:Int),([]:List eD),([]:List Int),(0:Int),(0:Int),(0:Int),(0:Int),(0:Int),(0:Int),Z')) ?_ λr q hr=>?_
   ·show bE ((uD.f C o.A o.B).bind _) ((uD.f C o.A o.B).bind _) _
    exact bE.eq e1 e1 (bE.eq (zI _) (zI _) (bE.pure ⟨_,⟨S.most,S.nav,some C'⟩,⟨Z.most,Z.nav,some C'⟩,⟨hs.most,J,hs.aB⟩,J,J⟩))
   ·obtain⟨e,S',Z',h1,rfl,rfl⟩:=hr;exact bE.pure ⟨J,J,h1,short⟩
  repeat rw[ah (c:=(o.Kind==4)=true) (by simpa using k4)]
  by_cases k5:o.Kind=5
  ·repeat rw[af (c:=(o.Kind==5)=true) (by simpa using k5)]
   obtain⟨C',e1,_⟩:=Rq h3 o.A;refine bE.bind (R:=λr q=> ∃(e:Er) (S' Z':bH),iR S' Z'/\r=(e,(0:Int),(0:Int),(5:Int),(-1:Int),([]:List eD),([]:List Int),(0:Int),(0:Int),(0:Int),(0:Int),(0:Int),(0:Int),S')/\q=(e,(0:Int),(0:Int),(5:Int),(-1:Int),([]:List eD),([]:List Int),(0:Int),(0:Int),(0:Int),(0:Int),(0:Int),(0:Int),Z')) ?_ λr q hr=>?_
   ·show bE ((uC.f C o.A).bind _) ((uC.f C o.A).bind _) _
    exact bE.eq e1 e1 (bE.eq (zI _) (zI _) (bE.pure ⟨_,⟨S.most,S.nav,some C'⟩,⟨Z.most,Z.nav,some C'⟩,⟨hs.most,J,hs.aB⟩,J,J⟩))
   ·obtain⟨e,S',Z',h1,rfl,rfl⟩:=hr;exact bE.pure ⟨J,J,h1,short⟩
  repeat rw[ah (c:=(o.Kind==5)=true) (by simpa using k5)]
  have hG:=(hn.core c h1).1.gs
  by_cases k6:o.Kind=6
  ·repeat rw[af (c:=(o.Kind==6)=true) (by simpa using k6)]
   have key:bE (uf.f S a0 o.A o.B) (uf.f Z a0 o.A o.B) DT:=by
    unfold uf.f;obtain⟨v,ev,hv⟩:=O7 hn ⟨hb.1,by omega⟩ h1 o.A o.B
    obtain⟨u,eu,hu⟩:=O7 tk ⟨gf.1,by omega⟩ Gj o.A o.B
    rw[eg] at hu;refine bE.eq ev eu ?_;rcases hv with⟨a1,a2,a3,f,a4,a5,a6⟩ |⟨a1,a2,a3⟩
    ·rcases hu with⟨b1,b2,b3,f',b4,b5,b6⟩ |⟨b1,_⟩
     rotate_left
     ·exact absurd ⟨a1,a2⟩ b1
     have ef:f=f':=ab3 hG (tZ (nK hG.ok a2)) eg a4 b4;subst ef;rw[a3,b3];obtain⟨_,c2,g2,g3,_⟩:=JH a4;obtain⟨_,c3,Sn,g3',_⟩:=JH b4;refine bE.pos J J (bE.eq J J (bE.pure ⟨J,?_,⟨hs.most,hs.cZ,?_⟩,short⟩))
     ·simp only;rw[a5,a6,b5,b6]
     ·simp only at g2 Sn⊢;rw[sZ g2,sZ Sn,g3,g3',eg]
    ·rcases hu with⟨b1,b2,_⟩ |⟨b1,b2,b3⟩
     ·exact absurd ⟨b1,b2⟩ a1
     rw[a2,a3,b2,b3];exact bE.neg bd bd (bE.eq J J (bE.pure ⟨J,J,hs,short⟩))
   obtain⟨r,q,er,eq,hr⟩:=key;rw[er,eq];exact bE.eq J J (fin r q hr)
  repeat rw[ah (c:=(o.Kind==6)=true) (by simpa using k6)]
  repeat rw[af (c:=(o.Kind==7)=true) bm]
  have key:bE (su.f S a0) (su.f Z a0) DT:=by
   have hm:=h3.OQ;have GF:=h3.ln;have hmb:=h.mb;have mB:(jN c.aB.m.W c.aB.m.H L).length<=L.length:=by
    have:=Hb _ (La hm).some_;rw[HN] at this;exact this
   obtain⟨r,er,hr⟩:=MQ (S:=S) hn ⟨hb.1,by omega⟩ h1 hm U (λu hu=>(h3.ok u hu).2.1.2)
   obtain⟨q,eq,hq⟩:=MQ (S:=Z) tk ⟨gf.1,by omega⟩ Gj (by rw[eg];exact hm) U (λu hu=>by rw[eg];exact(h3.ok u hu).2.1.2)
   obtain⟨r1,nv,_,r2,_,⟨c2,r4,Le⟩,_,r6,r7⟩:=hr;obtain⟨q1,oL,_,q2,_,⟨c3,q4,WR⟩,_,q6,q7⟩:=hq;rw[eg] at WR q7;have ed:r.1=q.1:=zC (by rw[r6,q6]) λi i0 i1=>by
    rw[r6] at i1;exact abz hG (h3.ok _ (dU i0 i1)).1.2 (r7 i i0 i1) (q7 i i0 i1)
   have N3:IZ r.1 L.length:=by
    refine⟨r6,λd hd=>?_⟩
    obtain⟨j,j0,j1,rfl⟩:=jL hd;obtain⟨R,l,f,d1,d2,d3,d4,d5,d6⟩:=r7 j j0 U;have hc:=(h3.ok _ (dU j0 U)).1;have kH:=Bq hG hc.2;rw[d6,d5.dir _ kH.1 kH.2.1];exact RR _
   obtain⟨C',e1,_⟩:=RO h3 N3;have hinv:=xq hm r.1 L.length (Nat.le_refl _);unfold su.f;rw[h2,Eg]
   show bE ((oA.f C).bind _) ((oA.f C).bind _) _
   refine bE.eq (D6 h3) (D6 h3) (bE.eq er eq ?_);rw[r1,q1,r2,q2];refine bE.neg (by simp[Er.isNil]) (by simp[Er.isNil]) ?_
   simp only[h2,Eg]
   show bE ((mw.f C r.1).bind _) ((mw.f C q.1).bind _) _
   rw[<-ed];refine bE.eq e1 e1 (bE.eq J J (bE.pure ⟨J,J,⟨hs.most,J,?_⟩,?_,?_⟩))
   ·simp only;rw[sZ r4,sZ q4,Le,WR]
   ·have:=hinv.HB;unfold gC;simp only;omega
   ·have:=hinv.JR;unfold gC;simp only;omega
  obtain⟨r,q,er,eq,hr⟩:=key;rw[er,eq];exact bE.eq J J (fin r q hr)
structure Al (a b:eI):Prop where
 code:a.Code=b.Code
 d:a.D=b.D
 dir:a.bX=b.bX
 id:a.Id=b.Id
 mv:a.cF=b.cF/\a.cF.length<=1000
 gn:a.di=b.di/\a.di.length<=1000
theorem X_ (h:gX S k most b L) (h':gX Z k' CX b' L') (hb:0<=b/\b<=60000000000) (gf:0<=b'/\b'<=60000000000) (hs:iR S Z) {o:cR} (ho:ou o):
 ∃r q,ig.f S o=some r/\ig.f Z o=some q/\Al r.1 q.1/\iR r.2 q.2/\(∃L1,gX r.2 k most (b+500000) L1)/\ ∃L2,gX q.2 k' CX (b'+500000) L2:=by
 obtain⟨r,er,L1,h1,_⟩:=LN h hb ho;obtain⟨q,eq,L2,h2,_⟩:=LN h' gf ho;refine⟨r,q,er,eq,?_⟩;obtain⟨x,y,ex,ey,s1,s2,s3,s4,s5⟩:=abH h h' hb gf hs ho;unfold ig.f at er eq;rw[ex,aI] at er;rw[ey,aI,<-s1,<-s2] at eq
 by_cases z:(!(Er.isNil x.1))=true
 ·rw[af z] at er eq;obtain⟨c1,e1,er⟩:=Option.bind_eq_some_iff.1 er;obtain⟨c2,e2,eq⟩:=Option.bind_eq_some_iff.1 eq;obtain⟨_,_,er⟩:=Option.bind_eq_some_iff.1 er;obtain⟨_,_,eq⟩:=Option.bind_eq_some_iff.1 eq;rw[e1] at e2;simp only[Option.some.injEq] at er eq e2;subst er;subst eq;subst e2;exact⟨⟨J,J,J,J,⟨J,s4⟩,⟨J,s5⟩⟩,s3,⟨L1,h1⟩,L2,h2⟩
 ·rw[ah z] at er eq;obtain⟨_,_,er⟩:=Option.bind_eq_some_iff.1 er;obtain⟨_,_,eq⟩:=Option.bind_eq_some_iff.1 eq;simp only[Option.some.injEq] at er eq;subst er;subst eq;exact⟨⟨J,J,J,J,⟨J,s4⟩,⟨J,s5⟩⟩,s3,⟨L1,h1⟩,L2,h2⟩
end
section
variable {S Z : bH} {k k' most CX b b' : Int} {L L' : List aF}
theorem agD {a:List eD} (ha:a.length<=1000): ∀(n q:Nat) (j:Int),(a.length-j).toNat<=n->n<q->0<=j->oP.l0 q a a j=some true:=by
 intro n
 induction n with
 |zero=>
  intro q j hn hq j0;obtain⟨q,rfl⟩:=bl hq;rw[oP.l0,ah U]
 |succ n ih=>
  intro q j hn hq j0;obtain⟨q,rfl⟩:=bl hq;rw[oP.l0]
  by_cases z:j<a.length
  ·rw[af z,af ⟨j0,z⟩,af ⟨j0,z⟩,ah bd,wi U U];exact ih q (j+1) U U U
  ·rw[ah z]
theorem agE {a:List eD} (ha:a.length<=1000):oP.f a a=some true:=by
 unfold oP.f;rw[ah bd];exact agD ha 1000 fuel 0 U (by rw[cI];omega) U
theorem aj6 {a:List Int} (ha:a.length<=1048576): ∀(n q:Nat) (j:Int),(a.length-j).toNat<=n->n<q->0<=j->qm.l0 q a a j=some true:=by
 intro n
 induction n with
 |zero=>
  intro q j hn hq j0;obtain⟨q,rfl⟩:=bl hq;rw[qm.l0,ah U]
 |succ n ih=>
  intro q j hn hq j0;obtain⟨q,rfl⟩:=bl hq;rw[qm.l0]
  by_cases z:j<a.length
  ·rw[af z,af ⟨j0,z⟩,af ⟨j0,z⟩,ah bd,wi U U];exact ih q (j+1) U U U
  ·rw[ah z]
theorem aj7 {a:List Int} (ha:a.length<=1048576):qm.f a a=some true:=by
 unfold qm.f;rw[ah bd];exact aj6 ha 1048576 fuel 0 U (by rw[cI];omega) U
theorem YW {a b:eI} (h:Al a b):Di.f a b=some true:=by
 obtain⟨h1,h2,h3,h4,⟨h5,h6⟩,⟨h7,h8⟩⟩:=h;unfold Di.f;rw[<-h1,<-h2,<-h3,<-h4,<-h5,<-h7,af bd,af bd,af bd,af bd,agE h6,aI,af J,afw U];rfl
theorem YX {a b:List eI} (hl:a.length=b.length) (hb:a.length<=1000) (h: ∀j:Int,0<=j->j<a.length->Al (rd a j) (rd b j)): ∀(n q:Nat) (j:Int),(a.length-j).toNat<=n->n<q->0<=j->qy.l0 q a b j=some true:=by
 intro n
 induction n with
 |zero=>
  intro q j hn hq j0;obtain⟨q,rfl⟩:=bl hq;rw[qy.l0,ah U]
 |succ n ih=>
  intro q j hn hq j0;obtain⟨q,rfl⟩:=bl hq;rw[qy.l0]
  by_cases z:j<a.length
  ·rw[af z,af ⟨j0,z⟩,af ⟨j0,by omega⟩,YW (h j j0 z),aI,ah bd,wi U U]
   exact ih q (j+1) U U U
  ·rw[ah z]
def Fu (S:bH):List Int:=match S.cZ with |none=>[] |some C=>C.floor.words
theorem XH (h:gX S k most b L):ud.f S=some (Fu S)/\(Fu S).length<=1048576:=by
 unfold ud.f Fu;rcases h.cr with⟨_,h2,_⟩ |⟨c,C,h1,h2,h3,_⟩
 ·rw[h2];exact⟨J,by simp⟩
 ·rw[h2];refine⟨?_,?_⟩
  ·show(vA.f C).bind _=_;rw[abw h3];rfl
  ·have:=h3.fl.fl.1;have:=uZ h3.may;simp only;omega
theorem X' (h:gX S k most b L) (hb:0<=b/\b<=60000000000): ∃r,ig.f S ⟨8,0,0,[]⟩=some r/\r.1.Code=0/\iR S r.2/\ ∃L',gX r.2 k most (b+500000) L':=by
 have ho:ou ⟨8,0,0,[]⟩:=⟨by simp,by simp,by simp,λ_=>rfl,by simp,by simp,λ_=>⟨J,J⟩,by simp⟩
 obtain⟨r,e,L',h1,_,h2⟩:=LN h hb ho;have hc:r.1.Code=0:=by
  rcases h2 with⟨z,_⟩ |⟨_,_,_,z⟩
  ·exact z
  ·exact absurd J z
 refine⟨r,e,hc,?_,L',h1⟩;obtain⟨ord,hn⟩:=h.nav;obtain⟨n',e1,_,_,_,_,e6⟩:=K1 hn;have eg:mZ S.nav=mZ n':=by
  rcases e6 with⟨z1,z2⟩ |⟨c,z1,z2⟩
  ·rw[AJ z1,AJ z2]
  ·rw[sZ z1,sZ z2]
 have key:rp.f S ⟨8,0,0,[]⟩ a0=some (Er.nil,⟨S.most,n',S.cZ⟩,a0):=by
  unfold rp.f;rw[ah bd,Ph ho bd];simp only[aI];rw[ah bd];have ec:oa.f S ⟨8,0,0,[]⟩=some Er.nil:=by
   unfold oa.f;rw[ah bd,ah bd]
  have eo:(cT S.cZ (if((8:Int)!=1)=true then(some ((8:Int)!=8)) else(some false)) (λx6=>some false))=some false:=by
   cases S.cZ<;>rfl
  rw[eo,aI,ah bd,ec,aI,ah (by simp[Er.isNil]),ah bd,af bd,e1];rfl
 unfold ig.f at e;have ea:eI.mk 0 0 5 (-1) ([]:List eD) ([]:List Int) (fZ.mk 0 0 0 0 0 0)=a0:=rfl;rw[ea,key,aI,ah (by simp[Er.isNil])] at e
 obtain⟨_,_,e⟩:=Option.bind_eq_some_iff.1 e;simp only[Option.some.injEq] at e;subst e;exact⟨J,J,eg⟩
theorem iR.trans {X:bH} (h1:iR S Z) (h2:iR Z X):iR S X:=⟨h1.most.trans h2.most,h1.cZ.trans h2.cZ,h1.aB.trans h2.aB⟩
theorem iR.map (h:iR S Z):A_ S=A_ Z:=by
 cases hc:S.nav.core with
 |none=>rw[Vv hc,Vv (h.none_ hc)]
 |some c=>
  obtain⟨c',h1,h2⟩:=h.core hc;rw[Vw hc,Vw h1,h2]
theorem aiV {k k':Int} {flush:List Bool} {x:List cR} (hx: ∀o∈x,ou o) (hl:x.length<=61): ∀(n q:Nat) (S Z:bH) (A B:List eI) (i:Int) (L L':List aF),(x.length-i).toNat<=n->n<q->0<=i->i<=x.length->gX S k 5 (1000000*i) L->gX Z k' 5 (1000000*i) L'->iR S Z->(A.length:Int)=i->A.length=B.length->(∀j:Int,0<=j->j<A.length->Al (rd A j) (rd B j))->oV.l0 q flush x S Z A B i=some true:=by
 have fin: ∀(q:Nat) (S Z:bH) (A B:List eI) (i:Int) (L L':List aF),¬i<x.length->i<=x.length->gX S k 5 (1000000*i) L->gX Z k' 5 (1000000*i) L'->iR S Z->(A.length:Int)=i->A.length=B.length->(∀j:Int,0<=j->j<A.length->Al (rd A j) (rd B j))->oV.l0 (q+1) flush x S Z A B i=some true:=λq S Z A B i L L' hi dZ h h' hs hA rR El=>by
  obtain⟨w1,w2⟩:=XH h;obtain⟨w3,_⟩:=XH h';have ew:Fu Z=Fu S:=by unfold Fu;rw[hs.cZ]
  rw[ew] at w3;have ea:qy.f A B=some true:=by
   unfold qy.f;rw[ah (by simp[rR])]
   exact YX rR U El 1000 fuel 0 U (by rw[cI];omega) U
  rw[oV.l0,ah hi,aao,aI,af J,ea,aI,af J,w1,aI,w3,aI,aj7 w2,aI,af J,Xp h,aI,Xp h',aI,<-hs.map,aiD];rfl
 intro n
 induction n with
 |zero=>
  intro q S Z A B i L L' hn hq h0 hi h h' hs hA rR El;obtain⟨q,rfl⟩:=bl hq;exact fin q S Z A B i L L' U hi h h' hs hA rR El
 |succ n ih=>
  intro q S Z A B i L L' hn hq h0 hi h h' hs hA rR El;obtain⟨q,rfl⟩:=bl hq
  by_cases z:i<x.length
  ·have ho:=hx _ (dU h0 z);obtain⟨Z1,L1,ez,EF,Ox⟩: ∃Z1 L1,(if i<(List.length flush:Int) then(if(0<=i/\i<(List.length flush:Int)) then(if(rd flush i)=true then((ig.f Z (cR.mk 8 0 0 [])).bind λv23=>some (v23.2,(v23.1.Code !=0))) else(some (Z,false))) else none) else(some (Z,false)))=some (Z1,false)/\gX Z1 k' 5 (1000000*i+500000) L1/\iR S Z1:=by
    by_cases y:i<flush.length
    ·rw[af y,af ⟨h0,y⟩]
     by_cases w:rd flush i=true
     ·obtain⟨r,e,e1,e2,L1,e3⟩:=X' h' ⟨by omega,by omega⟩
      rw[af w,e,aI,e1];exact⟨r.2,L1,J,e3,hs.trans e2⟩
     ·rw[ah w];exact⟨Z,L',J,h'.mono U,hs⟩
    ·rw[ah y];exact⟨Z,L',J,h'.mono U,hs⟩
   obtain⟨r,p,er,ep,h1,h2,⟨L2,h3⟩,L3,h4⟩:=X_ h EF ⟨by omega,by omega⟩ ⟨by omega,by omega⟩ Ox ho
   rw[oV.l0,af z,ez,aI];simp only;rw[ah bd,af ⟨h0,z⟩,er,aI,af U,ep,aI,af U,wi U U];refine ih q r.2 p.2 _ _ (i+1) L2 L3 U U U U (h3.mono U) (by rw[show 1000000*(i+1)=1000000*i+500000+500000 by omega];exact h4) h2 bm (by simp[rR]) λj j0 j1=>?_
   rw[List.length_append] at j1;rw[WX j0 (by simp at j1;omega),WX j0 (by rw[<-rR];simp at j1;omega),<-rR]
   split
   ·exact h1
   ·exact El j j0 (by simp at j1;omega)
  ·exact fin q S Z A B i L L' z hi h h' hs hA rR El
theorem YC:oV.Pure:=by
 intro p0 o w h p3 l flush _ _ _ _ hp3 _ _ _ _;unfold oV.f;obtain⟨r,er⟩:=abX l (n:=40) U;obtain⟨x,ex,uR,zj,wa⟩:=aiG w h hp3 (aA l 0 r);have hw:=Iz (n:=p0) (lo:=1) (hi:=9) U;have hv:=Iz (n:=o) (lo:=1) (hi:=9) U;rw[er,aI,ex,aI,Iy U U U U,aI];rw[Iy (n:=o) U U U U,aI];generalize 1+p0%(9-1+1)=k at hw⊢;generalize 1+o%(9-1+1)=k' at hv⊢;obtain⟨S,eS,hS,c1,_⟩:=Xr (k:=k) (most:=5) U U U U;obtain⟨Z,eZ,hZ,c2,_⟩:=Xr (k:=k') (most:=5) U U U U;rw[eS,aI];simp only[cT,aI];rw[eZ];simp only[aI];have hs:iR S Z:=by
  refine⟨by rw[hS.m_,hZ.m_],?_,by rw[AJ c1,AJ c2]⟩
  have a:S.cZ=none:=by
   rcases hS.cr with⟨_,y,_⟩ |⟨c,_,y,_⟩
   ·exact y
   ·rw[c1] at y;simp at y
  have b:Z.cZ=none:=by
   rcases hZ.cr with⟨_,y,_⟩ |⟨c,_,y,_⟩
   ·exact y
   ·rw[c2] at y;simp at y
  rw[a,b]
 exact aiV wa zj 61 fuel S Z [] [] 0 [] [] U (by rw[cI];omega) U U hS hZ hs J J (λj j0 j1=>by simp at j1;omega)
end
end Go.Proofs.YthodkonhneebbaaGreatDoor
