/- What the functions do, in plain Lean, on the objects that are kept in order. -/
import Derived.KernelRfl
import Derived.Test.YthodkonhneebbaaGreatDoorKF17
import Derived.Test.YthodkonhneebbaaGreatDoorKF16
import Derived.Test.YthodkonhneebbaaGreatDoorKF13
namespace Go.Proofs.YthodkonhneebbaaGreatDoor
open Go.Hx
set_option linter.unusedVariables false
set_option linter.unusedSimpArgs false
variable {c : dV} {w h most : Int} {L : List aD}
theorem CS.J1 (hc:CS c w h most L):ik w h L:=by
 refine⟨hc.may,λj j0 j1=>?_⟩
 have hm:=dS j0 j1;obtain⟨a,b,d⟩:=hc.ok _ hm;refine⟨?_,a,b,λq q0 q1 e=>?_⟩
 ·split
  ·have:=(hc.us.DX hm).1;omega
  ·have:=uc hc.us.up (i:=j-1) (j:=j) U U bm;rwa[yX U U,yX U U] at this
 ·have h1:=hc.inj (dS q0 U) hm e;have:=uc hc.us.up (i:=q) (j:=j) q0 q1 bm;rw[yX U U,yX U U,h1] at this;omega
theorem aiH {k:Int} {v:aD} {p:aD->Bool} (hv:p v=false) (l:List aD):(gF l k (λ_=>v)).filter p=l7 (l.filter p) k:=by
 unfold gF l7
 induction l with
 |nil=>rfl
 |cons x r ih=>
  rw[List.map_cons]
  by_cases e:x.Id=k
  ·rw[af e,List.filter_cons,hv,ih]
   by_cases q:p x=true
   ·simp[q,e]
   ·simp[q]
  ·rw[ah e,List.filter_cons,ih]
   by_cases q:p x=true
   ·rw[af q,List.filter_cons,af q,List.filter_cons,af (by simpa using e)]
   ·rw[ah q,List.filter_cons,ah q]
theorem aiI {k:Int} {v:aD} {p:aD->Bool} (hv:p v=true) (l:List aD) (hl: ∀x∈l,x.Id=k->p x=true):(gF l k (λ_=>v)).filter p=gF (l.filter p) k (λ_=>v):=by
 unfold gF
 induction l with
 |nil=>rfl
 |cons x r ih=>
  have TZ:=ih (λy hy=>hl y (by simp[hy]))
  rw[List.map_cons]
  by_cases e:x.Id=k
  ·rw[af e,List.filter_cons,af hv,TZ,List.filter_cons,af (hl x bk e),List.map_cons,af e]
  ·rw[ah e,List.filter_cons,TZ]
   by_cases q:p x=true
   ·rw[af q,List.filter_cons,af q,List.map_cons,ah e]
   ·rw[ah q,List.filter_cons,ah q]
abbrev Ln (w h:Int) (L:List aD) (aM:List Int) (n:Nat):List aD:=(dK w h L aM n).1.filter (λx=>decide (0<=x.Cell))
theorem ahS {l:List aD} {n:Nat} (hn:n<l.length) (lD: ∀i j:Int,0<=i->i<l.length->0<=j->j<l.length->i≠j->(rd l i).Id≠(rd l j).Id) (v:aD):l.set n v=gF l (rd l (n:Int)).Id (λ_=>v):=by
 refine GY (by simp[gF]) (λi i0 i1=>?_)
 rw[List.length_set] at i1;unfold gF;rw[yX i0 i1];have:=kX (L:=l) (i:=(n:Int)) (c:=i) (v:=v) U U i0;rw[show((n:Int)).toNat=n by simp] at this
 rw[this]
 by_cases e:i=n
 ·rw[af e,e,af J]
 ·rw[ah e,ah (lD i n i0 i1 U U e)]
theorem ae' (hm:ik w h L) (aM:List Int) {n:Nat} (hn:n<L.length):Ln w h L aM (n+1)=
 if sG w h L aM n then(if lF w h L aM n=(rd L (n:Int)).Goal then l7 (Ln w h L aM n) (rd L (n:Int)).Id else gF (Ln w h L aM n) (rd L (n:Int)).Id (λ_=>⟨(rd L (n:Int)).Id,lF w h L aM n,(rd L (n:Int)).Goal⟩)) else Ln w h L aM n:=by
 have hi:=yo hm aM n U;have hl:=hi.len
 show(kQ w h (dK w h L aM n) n (rd L (n:Int)) (rd aM (n:Int))).1.filter _=_
 unfold kQ;have lD: ∀i j:Int,0<=i->i<(dK w h L aM n).1.length->0<=j->j<(dK w h L aM n).1.length->i≠j->(rd (dK w h L aM n).1 i).Id≠(rd (dK w h L aM n).1 j).Id:=by
  intro i j i0 i1 j0 j1 rA;rw[(hi.same i i0 U).1,(hi.same j j0 U).1];rcases Int.lt_or_gt_of_ne rA with q |q
  ·have:=hm.Aq i0 q U;omega
  ·have:=hm.Aq j0 q U;omega
 by_cases z:sG w h L aM n
 ·rw[af z,af z];simp only;rw[show((n:Int)).toNat=n by simp,ahS U lD,hi.rest n U U]
  by_cases g:lF w h L aM n=(rd L (n:Int)).Goal
  ·rw[af g,af g];exact aiH bk _
  ·rw[ah g,ah g];have vg:0<=lF w h L aM n:=z.1;refine aiI (by simpa using vg) _ (λx hx e=>?_)
   obtain⟨j,j0,j1,rfl⟩:=jK hx;have:j=n:=Classical.byContradiction λq=>by
    have:=lD j n j0 j1 U U q;rw[hi.rest n U U] at this;exact this e
   subst this;rw[hi.rest n U U];simpa using(hm.cell U U).2.1
 ·rw[ah z,ah z]
theorem abd {f:fk} {n:Int} (hf:FS f n L) (Am:(L.map (·.Id)).Pairwise (· < ·)) {x:aD} (hx:x∈L) (i0:0<=x.Id) {to:Int} (t0:0<=to) (t1:to<n) (gD: ∀y∈L,y.Cell≠to):
 FS (iw (iw f x.Cell 0 (-1)) to (x.Id+1) 1) n (gF L x.Id (λ_=>⟨x.Id,to,x.Goal⟩)):=by
 obtain⟨h0,h1,h2⟩:=hf.at_ x hx;have hr:=hf.fl.2 x.Cell h0 h1;have Tj:qW n (iw f x.Cell 0 (-1)):=He hf.fl h0 h1 U U;have NC: ∀d,0<=d->rd (iw (iw f x.Cell 0 (-1)) to (x.Id+1) 1).words d=if d=to then x.Id+1 else if d=x.Cell then 0 else rd f.words d:=by
  intro d d0;rw[AH Tj t0 t1 d0,AH hf.fl h0 h1 d0]
 refine⟨He Tj t0 t1 U U,by simp[iw,hf.eG,gF];omega,λy hy=>?_,λd d0 d1 hd=>?_⟩
 ·unfold gF at hy;obtain⟨z,hz,rfl⟩:=List.mem_map.1 hy;obtain⟨a,b,e⟩:=hf.at_ z hz
  by_cases q:z.Id=x.Id
  ·rw[af q];exact⟨t0,t1,by rw[NC to t0,af J]⟩
  ·rw[ah q];refine⟨a,b,?_⟩;rw[NC _ a,ah (gD z hz),ah]
   ·exact e
   ·intro y;rw[y,h2] at e;omega
 ·rw[NC d d0] at hd
  by_cases q:d=to
  ·refine⟨⟨x.Id,to,x.Goal⟩,List.mem_map.2 ⟨x,hx,by rw[af J]⟩,q.symm⟩
  ·rw[ah q] at hd
   by_cases z:d=x.Cell
   ·rw[af z] at hd;exact absurd J hd
   ·rw[ah z] at hd;obtain⟨y,hy,e⟩:=hf.only d d0 d1 hd;refine⟨y,List.mem_map.2 ⟨y,hy,?_⟩,e⟩;rw[ah (λk=>z (by rw[<-e,B3 Am hy hx k]))]
theorem aiB (hm:ik w h L) (hb:L.length<=1000000) {aM:List Int} (nx:Int): ∀(m k n:Nat) (c:dV),n+m=L.length->m<k->CS c w h most (Ln w h L aM n)->c.cU.next=nx->
 ∃c',ni.l0 k ((gO w h L aM).1,(gO w h L aM).2.1,(gO w h L aM).2.2,0) c ((dK w h L aM n).2.1.length:Int)=
  some ((gO w h L aM).2.1,(gO w h L aM).2.2,0,c')/\CS c' w h most (gO w h L aM).1/\c'.cU.next=nx:=by
 intro m
 induction m with
 |zero=>
  intro k n c hn hk hc hx;obtain⟨k,rfl⟩:=bl hk;have:n=L.length:=U;subst this;refine⟨c,?_,hc,hx⟩;rw[ni.l0,ah (by simp[gO])]
 |succ m ih=>
  intro k n c hn hk hc hx;have aQ:n<L.length:=U;have hi:=yo hm aM n U;obtain⟨m1,m2⟩:=afz (aM:=aM) hm (n:=n) aQ;have Jz:=N6 (w:=w) (h:=h) (l:=L) (aM:=aM) n;have BV:=ae' hm aM aQ;have Nv:=hi.J6
  by_cases z:sG w h L aM n
  ·obtain⟨k,rfl⟩:=bl hk;have hr:=m2 z;have ajq:=(m1.2 z).1;rw[af z] at Jz BV;have ad5:((dK w h L aM (n+1)).2.1.length:Int)=((dK w h L aM n).2.1.length:Int)+1:=by rw[Jz];simp
   have Ao:rd L (n:Int)∈Ln w h L aM n:=by
    rw[List.mem_filter];have:rd (dK w h L aM n).1 (n:Int)=rd L (n:Int):=hi.rest n U U;refine⟨by rw[<-this];exact dS U (by rw[hi.len];omega),?_⟩
    simpa using(hm.cell U U).2.1
   have adV:=Pd hc.us.up Ao;have F1:zn (Ln w h L aM n) (rd L (n:Int)).Id=(rd L (n:Int),true):=by unfold zn;rw[adV]
   have aaW:aD.mk (rd L (n:Int)).Id (rd L (n:Int)).Cell (rd L (n:Int)).Goal=rd L (n:Int):=rfl;rw[ni.l0,af (by simp only;omega),af (by simp only;omega)]
   simp only[hr,Dy hc.us,F1,aL];rw[wi U U,<-ad5,aaW];have ad4:=hc.us.DX Ao
   by_cases g:lF w h L aM n=(rd L (n:Int)).Goal
   ·rw[af g] at BV;obtain⟨c',e1,e2,e3⟩:=LQ hc Ao;rw[af (by simpa using g)]
    rw[e1,aL];exact ih k (n+1) c' U U (by rw[BV];exact e2) U
   ·rw[ah g] at BV;rw[ah (by simpa using g)]
    obtain⟨u',a1,a2,a3⟩:=afy hc.us (rd L (n:Int)).Id (lF w h L aM n);have vg:=RM z.1;have gD: ∀y∈Ln w h L aM n,y.Cell≠lF w h L aM n:=λy hy=>z.2 y (List.mem_filter.1 hy).1;have M_:=hc.fl.eG;have ajs:0<(Ln w h L aM n).length:=List.length_pos_iff.2 (List.ne_nil_of_mem Ao);have hle:(Ln w h L aM n).length<=L.length:=by
     have:=List.length_filter_le (λx:aD=>decide (0<=x.Cell)) (dK w h L aM n).1;rw[hi.len] at this;exact this
    have hw:mC (w*h) c.floor (rd L (n:Int)).Cell=(rd L (n:Int)).Id:=by rw[KW hc,Fs hc Ao]
    have F0:rm (w*h) c.floor (lF w h L aM n):=by
     refine⟨vg.2.1,vg.2.2,Classical.byContradiction λy=>?_⟩
     obtain⟨x,pa,e⟩:=hc.fl.only _ vg.2.1 vg.2.2 y;exact gD x pa e
    have es:IQ (w*h) c.floor (rd L (n:Int)).Cell (lF w h L aM n)=(true,iw (iw c.floor (rd L (n:Int)).Cell 0 (-1)) (lF w h L aM n) ((rd L (n:Int)).Id+1) 1):=by
     unfold IQ;rw[hw,af ⟨by omega,F0⟩]
    rw[ahU hc.fl.fl U,es,a1];simp only[aL];have aed:gF (Ln w h L aM n) (rd L (n:Int)).Id (λx=>⟨x.Id,lF w h L aM n,x.Goal⟩)=gF (Ln w h L aM n) (rd L (n:Int)).Id (λ_=>⟨(rd L (n:Int)).Id,lF w h L aM n,(rd L (n:Int)).Goal⟩):=by
     unfold gF;refine List.map_congr_left λy hy=>?_
     by_cases q:y.Id=(rd L (n:Int)).Id
     ·rw[af q,af q,B3 hc.us.up hy Ao q]
     ·rw[ah q,ah q]
    rw[aed] at a3;refine ih k (n+1) ⟨c.w,c.h,c.most,u',iw (iw c.floor (rd L (n:Int)).Cell 0 (-1)) (lF w h L aM n) ((rd L (n:Int)).Id+1) 1⟩ U U ?_ (by simp only;omega)
    rw[BV];refine⟨hc.w_,hc.h_,hc.m_,hc.may,a3,abd hc.fl hc.us.up Ao ad4.1 vg.2.1 vg.2.2 gD,λy hy=>?_,by simpa[gF] using hc.jI⟩
    unfold gF at hy;obtain⟨y',DW,rfl⟩:=List.mem_map.1 hy;have vc:=hc.ok y' DW;split
    ·exact⟨vg,(hc.ok _ Ao).2.1,g⟩
    ·exact vc
  ·rw[ah z,List.append_nil] at Jz;rw[ah z] at BV;rw[<-Jz];exact ih k (n+1) c U U (by rw[BV];exact hc) hx
theorem aaw (hc:CS c w h most L) {aM:List Int} (hd:K2 aM L.length): ∃c',ni.f c aM=some ((gO w h L aM).2.1,(gO w h L aM).2.2,0,c')/\CS c' w h most (gO w h L aM).1/\c'.cU.next=c.cU.next:=by
 unfold ni.f;have hm:=hc.J1;have ku:=hc.us.eG;have F7:=hc.next
 rw[L2 hc,hc.w_,hc.h_];simp only[aL,go_ok hm U hd];rw[ah bk];have h0:Ln w h L aM 0=L:=by
  show L.filter _=L
  rw[List.filter_eq_self];intro x hx;simpa using(hc.ok x hx).1.2.1
 obtain⟨c',e1,e2,e3⟩:=aiB (most:=most) hm U (aM:=aM) c.cU.next L.length fuel 0 c U (by rw[cM];omega) (by rw[h0];exact hc) J
 exact⟨c',e1,e2,e3⟩
theorem aay (hc:CS c w h most L):uL.f c=some c.floor.words:=by
 unfold uL.f;have:=tX hc.may;rw[ai0 hc.fl.fl U];rfl
theorem afR {w h most:Int} (hm:iD w h) (h1:1<=most) (h2:most<=65536): ∃c,uP.f w h most=some (some c)/\CS c w h most []/\c.cU.next=0:=by
 obtain⟨r,r1,r2,r3⟩:=aad w h most;have:=r2.2 ⟨hm,h1,h2⟩;obtain⟨c,rfl⟩:=Option.isSome_iff_exists.1 this;exact⟨c,r1,(r3 c J).1,(r3 c J).2⟩
theorem count_range {ids:List Int} {n:Nat} (hn:ids.Nodup) (hr: ∀x∈ids,0<=x/\x<n):((List.range n).filter (λi:Nat=>decide ((i:Int)∈ids))).length=ids.length:=by
 have h1:(((List.range n).filter (λi:Nat=>decide ((i:Int)∈ids))).map (λi:Nat=>(i:Int))).Perm ids:=by
  rw[List.perm_ext_iff_of_nodup]
  ·intro a;simp only[List.mem_map,List.mem_filter,List.mem_range,decide_eq_true_eq];constructor
   ·rintro⟨i,⟨_,h⟩,rfl⟩;exact h
   ·intro h;have:=hr a h;refine⟨a.toNat,⟨by omega,?_⟩,by omega⟩
    rwa[show(a.toNat:Int)=a by omega]
  ·have hd:((List.range n).filter (λi:Nat=>decide ((i:Int)∈ids))).Nodup:=List.nodup_range.filter _;unfold List.Nodup at hd⊢;rw[List.pairwise_map];exact hd.imp (λh e=>h U)
  ·exact hn
 have:=h1.length_eq;simpa using this
section
structure my (S:bE) (k most b:Int) (L:List aD):Prop where
 m_:S.most=most
 mb:1<=most/\most<=100
 nav: ∃ord,iT S.nav k b ord
 cr:(S.nav.core=none/\S.eH=none/\L=[])∨ ∃c C,S.nav.core=some c/\S.eH=some C/\CS C c.aK.m.W c.aK.m.H most L/\500000*C.cU.next<=b/\ ∀u∈L,fx c.aK u.Cell≠255
 kp: ∀c,S.nav.core=some c->(c.iV.kept.isSome=true↔S.nav.fJ.keys.au≠[])
variable {S : bE} {k most b : Int} {L : List aD}
theorem OB (c:Int):fE.f c=some (if c=0 then Er.nil else Er.num 148 c):=by
 unfold fE.f
 by_cases z:c=0<;>simp[z]
theorem Rl {n:bZ} {ord:List Int} {c:eI} {goal s:Int} {r:fZ×Er×bZ} (h:Da n k b ord c goal s r):r.2.2.fJ.keys.au≠[]/\ ∃c',r.2.2.core=some c'/\c'.aK=c.aK/\c'.iV.kept.isSome=true:=by
 obtain⟨R,l,c',qE,f1,f2,f3,f4,f5,f6,f7,f8,f9,f10,f11,f12,f13,f14,f15,f16,f17,f18⟩:=h.Dw;refine⟨λz=>?_,c',f7,f8,by rw[f9];rfl⟩
 obtain⟨x,x1,_⟩:=f17.now;have:=(f16.og.sl _ _).1 x1;rw[z] at this;simp at this;omega
theorem aa7 {ps:List (Int×Int)} {n n':bZ} (h:tn k ps n n'):(ps=[]/\n'=n)∨(ps≠[]/\n'.fJ.keys.au≠[]/\ ∃c',n'.core=some c'/\c'.iV.kept.isSome=true):=by
 cases h with
 |nil=>exact .inl ⟨J,J⟩
 |snoc h hn hc hg hs hf=>
  have:=Rl hf;obtain⟨a,c',b1,_,b3⟩:=this;exact .inr ⟨by simp,a,c',b1,b3⟩
def Pt (k:Int) (S:bE) (L:List aD) (o:dn) (S':bE) (L':List aD) (a:iH):Prop:=
 (o.Kind=1/\L'=[]/\a.fh=[]/\S'.nav.fJ.keys.au=[]/\gf S'.nav=gf S.nav/\ ∃c',S'.nav.core=some c'/\ ∀s:Int,bI c'.aK.m.W c'.aK.m.H s->(rd c'.iz.parts s).version≠fy c'.aK s)∨
 (o.Kind=8/\L'=L/\a.fh=[]/\S'.nav.fJ.keys.au=[]/\gf S'.nav=gf S.nav/\((S.nav.core=none/\S'.nav.core=none)∨ ∃c,S.nav.core=some c/\S'.nav.core=some ⟨c.aK,c.iz,⟨none,c.iV.count⟩⟩))∨
 (o.Kind=2/\L'=L/\a.fh=[]/\gf S'.nav=gf S.nav/\ ∃c,S.nav.core=some c/\cN c.aK.m o.A/\S'.nav.core=some ⟨mF c.aK o.A o.B,c.iz,c.iV⟩)∨
 ((o.Kind=3∨o.Kind=4∨o.Kind=5)/\a.fh=[]/\S'.nav=S.nav)∨
 (o.Kind=6/\L'=L/\a.fh=[]/\ ∃c b' ord f,S.nav.core=some c/\cN c.aK.m o.A/\cN c.aK.m o.B/\iT S.nav k b' ord/\Da S.nav k b' ord c o.A (aY c.aK.m.W c.aK.m.H o.B) (f,Er.nil,S'.nav)/\a.D=rd f.fb (dx c.aK.m.W c.aK.m.H o.B)/\a.cA=rd f.cA (dx c.aK.m.W c.aK.m.H o.B))∨
 (o.Kind=7/\ ∃c aM,S.nav.core=some c/\ik c.aK.m.W c.aK.m.H L/\tn k ((jN c.aK.m.W c.aK.m.H L).map DZ) S.nav S'.nav/\aM.length=L.length/\(∀j:Int,0<=j->j<L.length->C9 c.aK (rd L j) (rd aM j))/\L'=(gO c.aK.m.W c.aK.m.H L aM).1/\a.fh=(gO c.aK.m.W c.aK.m.H L aM).2.1/\a.ig=(gO c.aK.m.W c.aK.m.H L aM).2.2)
def Ends (k most b:Int) (S:bE) (L:List aD) (o:dn) (r:Er×bE×iH):Prop:=
 ∃L',my r.2.1 k most b L'/\((r.1=Er.nil/\r.2.2.Code=0/\Pt k S L o r.2.1 L' r.2.2)∨((r.1=Er.dW 0∨ ∃c,c≠0/\r.1=Er.num 148 c)/\r.2.1.nav=S.nav/\r.2.2.fh=[]/\o.Kind≠8))
theorem my.mono {b':Int} (h:my S k most b L) (hb:b<=b'):my S k most b' L:=by
 obtain⟨ord,hn⟩:=h.nav;refine⟨h.m_,h.mb,⟨ord,hn.mono hb⟩,?_,h.kp⟩;rcases h.cr with z |⟨c,C,h1,h2,h3,h4,h5⟩
 ·exact .inl z
 ·exact .inr ⟨c,C,h1,h2,h3,by omega,h5⟩
abbrev a0:iH:=iH.mk 0 0 5 (-1) [] [] (gx.mk 0 0 0 0 0 0)
theorem Ha {l:fP} {ord:List Int} (h:ra l k ord):ord=[]↔l.au=[]:=by
 constructor
 ·intro z;rw[<-List.length_eq_zero_iff];apply Classical.byContradiction;intro y;have:=(h.mem 0).2 U;rw[z] at this;simp at this
 ·intro z;refine List.eq_nil_iff_forall_not_mem.2 λc hc=>?_
  have:=(h.mem c).1 hc;rw[z] at this;simp at this;omega
theorem Wj (h:my S k most b L) (hb:0<=b/\b<=60000000000) {o:dn} (ho:rh o) (hk:o.Kind=1):
 Ok (xz.f S o.Map) (λr=>Ends k most (b+1) S L o (r.1,r.2,a0)):=by
 obtain⟨l1,l2,l3,l4,l5⟩:=ho.ld hk;obtain⟨ord,hn⟩:=h.nav;unfold xz.f;refine(XL l1 l3).bind λv hv=>?_
 rcases hv with q |⟨q1,q2,q3,q4,q5⟩
 ·refine Ok.pos (by rcases q with q |q<;>simp[q]) (Ok.pure ⟨L,h.mono U,.inr ⟨.inr ⟨6,by omega,rfl⟩,rfl,rfl,by omega⟩⟩)
 ·refine Ok.neg (by simp[q1]) ?_
  have hm:=q2.1;have Nx:PB v.1:=⟨q2,q3,by
   have:v.1.W*v.1.H<=40*40:=kA U U U U;omega⟩
  obtain⟨n',c',e,e1,e2,e3,e4,e5,e6,e7⟩:=afU hn ⟨hb.1,by omega⟩ Nx
  obtain⟨C,eC,hC,hC0⟩:=afR (w:=v.1.W) (h:=v.1.H) (most:=most) hm h.mb.1 (by have:=h.mb;omega)
  refine Ok.eq e (Ok.pos J ?_);rw[h.m_];refine Ok.eq (v:=some C) eC ?_;refine Ok.opt (Ok.eq J (Ok.pure ⟨[],⟨J,h.mb,⟨[],e2⟩,.inr ⟨c',C,e1,J,by rw[e3];exact hC,by omega,by simp⟩,λc hc=>?_⟩,.inl ⟨J,J,.inl ⟨hk,J,J,(Ha e2.og).1 J,e5,c',e1,by rw[e3];exact e6⟩⟩⟩))
  simp only at hc⊢;rw[e1] at hc;simp only[Option.some.injEq] at hc;subst hc;have:=(Ha e2.og).1 J;rw[e4,this];simp
theorem ahI (h:my S k most b L) (hb:0<=b/\b<=60000000000) {o:dn} (ho:rh o) (hk:o.Kind=2) {c:eI} {C:dV} (h1:S.nav.core=some c) (h2:S.eH=some C) (h3:CS C c.aK.m.W c.aK.m.H most L) (h4:500000*C.cU.next<=b) (h5: ∀u∈L,fx c.aK u.Cell≠255) (hA:cN c.aK.m o.A):
 Ok (xy.f S o.A o.B) (λr=>Ends k most (b+1) S L o (r.1,r.2,a0)):=by
 have hB:=ho.b2 hk;obtain⟨ord,hn⟩:=h.nav;unfold xy.f;refine Ok.ite (λq=>Ok.pure ⟨L,h.mono U,.inr ⟨.inr ⟨8,by omega,J⟩,J,J,by omega⟩⟩) λq=>?_
 have q: ¬(o.B<1∨o.B>255):=by simpa using q
 rw[h2];have e:dq (some C) none (λx3=>if(o.B==255)=true then((zT.f x3 o.A).bind λv4=>some (decide (v4≥0))) else(some false))=some (decide (o.B=255/\oP L o.A≥0)):=by
  show(if(o.B==255)=true then _ else _)=_
  by_cases z:o.B=255
  ·rw[af (by simpa using z),aax h3];simp[z]
  ·rw[ah (by simpa using z)];simp[z]
 refine Ok.eq e (Ok.ite (λz=>Ok.pure ⟨L,h.mono U,.inr ⟨.inr ⟨10,by omega,J⟩,J,J,by omega⟩⟩) λz=>?_)
 have z: ¬(o.B=255/\oP L o.A≥0):=by simpa using z
 obtain⟨n',e1,e2,e3,e4,e5,e6⟩:=afO hn ⟨hb.1,by omega⟩ h1 hA U hB
 have hG:=(hn.core c h1).1.gs;refine Ok.eq e1 (Ok.eq J (Ok.pure ⟨L,⟨h.m_,h.mb,⟨ord,e5⟩,.inr ⟨_,C,e2,J,h3,by omega,λu hu=>?_⟩,λc' jZ=>?_⟩,.inl ⟨J,J,.inr (.inr (.inl ⟨hk,J,J,e6,c,h1,hA,e2⟩))⟩⟩))
 ·have o_:=(h3.ok u hu).1;have eo:cN c.aK.m u.Cell:=o_.2;have hold:=h5 u hu;have e: ∀(x:Int),cN c.aK.m x->fx (mF c.aK o.A o.B) x=if x=o.A then o.B else fx c.aK x:=λx hx=>by
   have e0:fx (mF c.aK o.A o.B) x=rd (mF c.aK o.A o.B).m.C x:=by unfold fx;exact af hx
   rw[e0,NT hG hA hx.1];split
   ·rfl
   ·unfold fx;rw[af hx]
  simp only;rw[e _ eo];split
  ·rename_i w;intro y;refine z ⟨y,?_⟩;rw[<-w,Fs h3 hu];exact(US.DX h3.us hu).1
  ·exact hold
 ·simp only at jZ⊢;rw[e2] at jZ;simp only[Option.some.injEq] at jZ;subst jZ;simp only;rw[e3];exact h.kp c h1
theorem aif (h:my S k most b L) (hb:0<=b/\b<=60000000000) {o:dn} (hk:o.Kind=3) {c:eI} {C:dV} (h1:S.nav.core=some c) (h2:S.eH=some C) (h3:CS C c.aK.m.W c.aK.m.H most L) (h4:500000*C.cU.next<=b) (h5: ∀u∈L,fx c.aK u.Cell≠255):
 Ok (xB.f S o.A o.B) (λr=> ∀a:iH,a.fh=[]->a.Code=0->Ends k most (b+500000) S L o (r.2.1,r.2.2,a)):=by
 obtain⟨ord,hn⟩:=h.nav;unfold xB.f;refine Ok.eq (J_ hn h1 _) (Ok.ite (λq=>Ok.pure λa ha _=>⟨L,h.mono U,.inr ⟨.inr ⟨9,by omega,J⟩,J,ha,by omega⟩⟩) λq=>?_)
 have q:fx c.aK o.A≠255:=by simpa using q
 rw[h2];obtain⟨C',e1,e2,e3⟩:=aav h3 U o.A o.B;refine Ok.opt (Ok.eq e1 (Ok.eq (OB _) (Ok.pure λa ha Ta=>⟨(nf c.aK.m.W c.aK.m.H most L C.cU.next o.A o.B).2.2,⟨h.m_,h.mb,⟨ord,hn.mono U⟩,.inr ⟨c,C',h1,J,e2,?_,λu hu=>?_⟩,h.kp⟩,?_⟩)))
 ·have:C'.cU.next<=C.cU.next+1:=by rw[e3];split<;>omega
  omega
 ·unfold nf at hu
  repeat' split at hu
  all_goals first
   |exact h5 u hu
   |(rcases List.mem_append.1 hu with z |z
     ·exact h5 u z
     ·simp only[List.mem_cons,List.not_mem_nil,or_false] at z;rw[z];exact q)
 ·by_cases z:(nf c.aK.m.W c.aK.m.H most L C.cU.next o.A o.B).2.1=0
  ·rw[af z];exact .inl ⟨J,Ta,.inr (.inr (.inr (.inl ⟨.inl hk,ha,J⟩)))⟩
  ·rw[ah z];exact .inr ⟨.inr ⟨_,z,J⟩,J,ha,by omega⟩
theorem aid (h:my S k most b L) (hb:0<=b/\b<=60000000000) {o:dn} (hk:o.Kind=6) {c:eI} {C:dV} (h1:S.nav.core=some c) (h2:S.eH=some C) (h3:CS C c.aK.m.W c.aK.m.H most L) (h4:500000*C.cU.next<=b) (h5: ∀u∈L,fx c.aK u.Cell≠255):
 Ok (xA.f S a0 o.A o.B) (λr=>Ends k most (b+5000) S L o (r.1,r.2.1,r.2.2)):=by
 obtain⟨ord,hn⟩:=h.nav;unfold xA.f;refine(afV hn ⟨hb.1,by omega⟩ h1 o.A o.B).bind λv hv=>?_
 rcases hv with⟨a1,a2,a3,f,a4,a5,a6⟩ |⟨a1,a2,a3⟩
 ·rw[a3];obtain⟨g1,c',g2,g3,g4⟩:=Rl a4;obtain⟨R,l,c2,qE,f1,f2,f3,f4,f5,f6,f7,f8,f9,f10,f11,f12,f13,f14,f15,f16,f17,f18⟩:=a4.Dw;refine Ok.pos J (Ok.eq J (Ok.pure ⟨L,⟨h.m_,h.mb,⟨qE,f16⟩,.inr ⟨c',C,g2,h2,by rw[g3];exact h3,by omega,by rw[g3];exact h5⟩,λc3 u6=>?_⟩,.inl ⟨J,J,.inr (.inr (.inr (.inr (.inl ⟨hk,J,J,c,b,ord,f,h1,a1,a2,hn,a4,a5,a6⟩))))⟩⟩))
  simp only at g2 u6⊢;rw[g2] at u6;simp only[Option.some.injEq] at u6;subst u6;exact⟨λ_=>g1,λ_=>g4⟩
 ·rw[a2,a3];exact Ok.neg bk (Ok.eq J (Ok.pure ⟨L,h.mono U,.inr ⟨.inr ⟨7,by omega,J⟩,J,J,by omega⟩⟩))
end
section
variable {S : bE} {k most b : Int} {L : List aD}
theorem XK {w h:Int} {aM:List Int} (hm:ik w h L): ∀n:Nat,n<=L.length-> ∀u∈pM (dK w h L aM n) n,∃j:Int,0<=j/\j<n/\(u.Cell=(rd L j).Cell∨(0<=rd aM j/\rd aM j<=3/\u.Cell=cD w h (rd L j).Cell (rd aM j)/\0<=u.Cell)):=by
 intro n
 induction n with
 |zero=>intro _ u hu;simp[pM] at hu
 |succ n ih=>
  intro hn u hu;rw[Lq hm U] at hu;rcases List.mem_append.1 hu with z |z
  ·obtain⟨j,j0,j1,q⟩:=ih U u z;exact⟨j,j0,by omega,q⟩
  ·split at z
   ·rename_i y;simp only[List.mem_cons,List.not_mem_nil,or_false] at z;subst z;refine⟨n,by omega,by omega,?_⟩
    simp only;unfold D6 at y⊢;split at y
    ·rename_i c;rw[af c];split at y
     ·omega
     ·rename_i g;rw[ah g];refine .inr ?_;have hc:=c.1;unfold dB at hc;have hd:0<=rd aM (n:Int)/\rd aM (n:Int)<=3:=Classical.byContradiction λq=>by rw[ah q] at hc;omega
      refine⟨hd.1,hd.2,?_,y⟩
      show dB w h (rd L (n:Int)) (rd aM (n:Int))=_
      unfold dB;rw[af hd]
    ·rename_i c;rw[ah c];exact .inl J
   ·simp at z
theorem air (h:my S k most b L) (hb:0<=b/\b<=60000000000) {o:dn} (hk:o.Kind=7) {c:eI} {C:dV} (h1:S.nav.core=some c) (h2:S.eH=some C) (h3:CS C c.aK.m.W c.aK.m.H most L) (h4:500000*C.cU.next<=b) (h5: ∀u∈L,fx c.aK u.Cell≠255):
 Ok (xC.f S a0) (λr=>Ends k most (b+500000) S L o (r.1,r.2.1,r.2.2)):=by
 obtain⟨ord,hn⟩:=h.nav;have hG:=(hn.core c h1).1.gs;have hmb:=h.mb;have FY:=h3.jI;have hm:=h3.J1;have mL:(jN c.aK.m.W c.aK.m.H L).length<=L.length:=by
  have:=JY _ (Oo hm).some_;rw[Kk] at this;exact this
 unfold xC.f;rw[h2];refine Ok.opt (Ok.eq (L2 h3) ((aaB hn ⟨hb.1,by omega⟩ h1 hm U (λu hu=>(h3.ok u hu).2.1.2)).bind λr hr=>?_))
 obtain⟨r1,pj,qE,r2,r3,⟨c',r4,VN⟩,r5,r6,r7⟩:=hr;rw[r1,r2];refine Ok.neg (by simp[Er.isNil]) ?_
 simp only[h2];have adS:K2 r.1 L.length:=by
  refine⟨r6,λd hd=>?_⟩
  obtain⟨j,j0,j1,rfl⟩:=jK hd;obtain⟨R,l,f,d1,d2,d3,d4,d5,d6⟩:=r7 j j0 U;have hc:=(h3.ok _ (dS j0 U)).1;have lV:=CK hG hc.2;rw[d6,d5.dir _ lV.1 lV.2.1];exact aaJ _
 obtain⟨C',e1,e2,e3⟩:=aaw h3 adS;refine Ok.opt (Ok.eq e1 (Ok.eq J (Ok.pure ⟨(gO c.aK.m.W c.aK.m.H L r.1).1,⟨h.m_,h.mb,⟨qE,r3.mono U⟩,.inr ⟨c',C',r4,J,by rw[VN];exact e2,by omega,λu hu=>?_⟩,λc3 u6=>?_⟩,.inl ⟨J,J,.inr (.inr (.inr (.inr (.inr ⟨hk,c,r.1,h1,hm,r5,r6,r7,J,J,J⟩))))⟩⟩)))
 ·rw[VN];have o_:u∈pM (dK c.aK.m.W c.aK.m.H L r.1 L.length) L.length:=by
   unfold gO at hu;unfold pM;rw[List.take_of_length_le (by have:=(yo hm r.1 L.length (Nat.le_refl _)).len;omega)]
   exact hu
  obtain⟨j,j0,j1,q⟩:=XK hm L.length (Nat.le_refl _) u o_;have hj:=dS j0 j1;rcases q with q |⟨q0,q3,q4,q5⟩
  ·rw[q];exact h5 _ hj
  ·obtain⟨R,l,f,d1,d2,d3,d4,d5,d6⟩:=r7 j j0 j1;have:=aaA hG d3.1 (h3.ok _ hj).1.2 d4 d5 d6 q0 q3;rw[q4];exact this.2
 ·simp only at u6⊢;rcases aa7 r5 with⟨_,z⟩ |⟨_,z1,c4,z2,z3⟩
  ·rw[z] at u6⊢;exact h.kp c3 u6
  ·rw[z2] at u6;simp only[Option.some.injEq] at u6;subst u6;exact⟨λ_=>z1,λ_=>z3⟩
theorem ahw {ord:List Int} {c:eI} (hn:iT S.nav k b ord) (h1:S.nav.core=some c) (o:dn):
 Ok (ui.f S o) (λe=>(e=Er.nil/\(o.Kind=3∨o.Kind=2->cN c.aK.m o.A))∨(e=Er.num 148 7/\o.Kind≠8)):=by
 have hG:=(hn.core c h1).1.gs;have cu: ∀x,fx c.aK x≠0->cN c.aK.m x:=λx hx=>Classical.byContradiction λz=>hx (by unfold fx;rw[ah z])
 unfold ui.f;refine Ok.ite (λq=>Ok.eq (J_ hn h1 _) (Ok.ite (λ_=>Ok.pure (.inr ⟨J,by simp at q;omega⟩)) λ_=>Ok.eq (J_ hn h1 _) (Ok.ite (λ_=>Ok.pure (.inr ⟨J,by simp at q;omega⟩)) λz=>Ok.pure (.inl ⟨J,λ_=>cu _ (by simpa using z)⟩)))) λq=>Ok.ite (λq=>Ok.eq (J_ hn h1 _) (Ok.ite (λ_=>Ok.pure (.inr ⟨J,by simp at q;omega⟩)) λz=>Ok.pure (.inl ⟨J,λ_=>cu _ (by simpa using z)⟩))) λq'=>Ok.pure (.inl ⟨J,λz=>?_⟩)
 simp at q q';omega
theorem Ends.mono {o:dn} {r:Er×bE×iH} {b':Int} (h:Ends k most b S L o r) (hb:b<=b'):Ends k most b' S L o r:=by
 obtain⟨L',h1,h2⟩:=h;exact⟨L',h1.mono hb,h2⟩
theorem ahC (h:my S k most b L) (hb:0<=b/\b<=60000000000) {o:dn} (ho:rh o):Ok (xx.f S o a0) (Ends k most (b+500000) S L o):=by
 obtain⟨ord,hn⟩:=h.nav;unfold xx.f;have no: ∀e:Er,(e=Er.dW 0∨ ∃c,c≠0/\e=Er.num 148 c)->o.Kind≠8->Ends k most (b+500000) S L o (e,S,a0):=λe he h8=>⟨L,h.mono U,.inr ⟨he,J,J,h8⟩⟩
 by_cases Nn:o.Kind=0
 ·rw[af (by simpa using Nn)]
  exact Ok.eq J (Ok.pos J (Ok.pure (no _ (.inl J) U)))
 rw[ah (by simpa using Nn),af' ho Nn]
 refine Ok.eq J (Ok.neg bk ?_);have hkr:=ho.k;have fin: ∀(r:Er×bE×iH),Ends k most (b+500000) S L o r->Ok (some (r.1,r.2.1,iH.mk r.2.2.Code r.2.2.D r.2.2.cA r.2.2.Id r.2.2.fh r.2.2.ig (gx.mk r.2.2.Stats.bC r.2.2.Stats.bD r.2.2.Stats.bA r.2.2.Stats.bz r.2.2.Stats.bJ r.2.2.Stats.bF))) (Ends k most (b+500000) S L o):=λr hr=>Ok.pure hr
 rcases h.cr with⟨n1,n2,n3⟩ |⟨c,C,h1,h2,h3,h4,h5⟩
 ·rw[n2];have e:(dq (none:Option dV) (if(o.Kind !=1)=true then(some (o.Kind !=8)) else(some false)) (λx6=>some false))=some (decide (o.Kind≠1/\o.Kind≠8)):=by
   show(if(o.Kind !=1)=true then _ else _)=_
   by_cases z:o.Kind=1
   ·rw[ah (by simp[z])];simp[z]
   ·rw[af (by simpa using z)];simp only[Option.some.injEq];rw[Bool.eq_iff_iff];simp[z]
  refine Ok.eq e (Ok.ite (λw=>Ok.pure (no _ (.inr ⟨4,by omega,J⟩) (of_decide_eq_true w).2)) λq=>?_)
  have q:o.Kind=1∨o.Kind=8:=by have:=of_decide_eq_false (by simpa using q:decide (o.Kind≠1/\o.Kind≠8)=false);omega
  have ec:ui.f S o=some Er.nil:=by
   unfold ui.f;rw[ah bm,ah bm]
  refine Ok.eq ec (Ok.neg (by simp[Er.isNil]) ?_)
  rcases q with q |q
  ·rw[af (by simpa using q)]
   obtain⟨r,er,hr⟩:=Wj h ⟨hb.1,by omega⟩ ho q
   rw[er];exact Ok.eq J (fin (r.1,r.2,a0) (hr.mono U))
  ·rw[ah (by simp[q]),af (by simpa using q)]
   obtain⟨n',e1,e2,e3,e4,e5,e6⟩:=UJ hn;have e6:n'.core=none:=by
    rcases e6 with z |⟨c,z,_⟩
    ·exact z.2
    ·rw[n1] at z;simp at z
   rw[e1];refine Ok.eq J (fin (Er.nil,⟨S.most,n',none⟩,a0) ⟨L,⟨h.m_,h.mb,⟨[],e2.mono U⟩,.inl ⟨e6,J,n3⟩,λc hc=>by simp only at hc;rw[e6] at hc;simp at hc⟩,.inl ⟨J,J,.inr (.inl ⟨q,J,J,(Ha e2.og).1 J,e3,.inl ⟨n1,e6⟩⟩)⟩⟩)
 ·rw[h2];refine Ok.eq (v:=false) J (Ok.neg bk ?_);refine(ahw hn h1 o).bind λe he=>?_
  rcases he with⟨rfl,cu⟩ |⟨rfl,h8⟩
  rotate_left
  ·exact Ok.pos J (Ok.pure (no _ (.inr ⟨7,by omega,J⟩) h8))
  refine Ok.neg (by simp[Er.isNil]) ?_
  by_cases k1:o.Kind=1
  ·rw[af (by simpa using k1)]
   obtain⟨r,er,hr⟩:=Wj h ⟨hb.1,by omega⟩ ho k1
   rw[er];exact Ok.eq J (fin (r.1,r.2,a0) (hr.mono U))
  rw[ah (by simpa using k1)]
  by_cases k8:o.Kind=8
  ·rw[af (by simpa using k8)]
   obtain⟨n',e1,e2,e3,e4,e5,e6⟩:=UJ hn;rcases e6 with z |⟨c2,z1,z2⟩
   ·rw[h1] at z;simp at z
   rw[h1] at z1;simp only[Option.some.injEq] at z1;subst z1;rw[e1];refine Ok.eq J (fin (Er.nil,⟨S.most,n',some C⟩,a0) ⟨L,⟨h.m_,h.mb,⟨[],e2.mono U⟩,.inr ⟨_,C,z2,J,h3,by omega,h5⟩,λc' jZ=>?_⟩,.inl ⟨J,J,.inr (.inl ⟨k8,J,J,(Ha e2.og).1 J,e3,.inr ⟨c,h1,z2⟩⟩)⟩⟩)
   simp only at jZ⊢;rw[z2] at jZ;simp only[Option.some.injEq] at jZ;subst jZ;rw[(Ha e2.og).1 J];simp
  rw[ah (by simpa using k8)]
  by_cases k2:o.Kind=2
  ·rw[af (by simpa using k2)]
   obtain⟨r,er,hr⟩:=ahI h ⟨hb.1,by omega⟩ ho k2 h1 h2 h3 h4 h5 (cu (.inr k2))
   rw[er];exact Ok.eq J (fin (r.1,r.2,a0) (hr.mono U))
  rw[ah (by simpa using k2)]
  by_cases k3:o.Kind=3
  ·rw[af (by simpa using k3)]
   obtain⟨r,er,hr⟩:=aif h hb k3 h1 h2 h3 h4 h5;rw[er];exact Ok.eq J (fin (r.2.1,r.2.2,⟨0,0,5,r.1,[],[],⟨0,0,0,0,0,0⟩⟩) ((hr _ J J).mono U))
  rw[ah (by simpa using k3)]
  by_cases k4:o.Kind=4
  ·rw[af (by simpa using k4)]
   obtain⟨C',e1,e2,e3⟩:=aao h3 o.A o.B;have hS:my ⟨S.most,S.nav,some C'⟩ k most (b+500000) (wA c.aK.m.W c.aK.m.H L o.A o.B).2:=⟨h.m_,h.mb,⟨ord,hn.mono U⟩,.inr ⟨c,C',h1,J,e2,by omega,λu hu=>by
    unfold wA at hu
    repeat' split at hu
    all_goals first
     |exact h5 u hu
     |exact h5 u (L8 hu)
     |(unfold gF at hu
       obtain⟨x,hx,rfl⟩:=List.mem_map.1 hu;split
       ·exact h5 x hx
       ·exact h5 x hx)⟩,h.kp⟩
   refine Ok.bind (P:=λr=>r=((if(wA c.aK.m.W c.aK.m.H L o.A o.B).1=0 then Er.nil else Er.num 148 (wA c.aK.m.W c.aK.m.H L o.A o.B).1),(0:Int),(0:Int),(5:Int),(-1:Int),([]:List fe),([]:List Int),(0:Int),(0:Int),(0:Int),(0:Int),(0:Int),(0:Int),(⟨S.most,S.nav,some C'⟩:bE))) (Ok.opt (Ok.eq e1 (Ok.eq (OB _) (Ok.pure J)))) λr hr=>?_
   subst hr;refine fin ((if(wA c.aK.m.W c.aK.m.H L o.A o.B).1=0 then Er.nil else Er.num 148 (wA c.aK.m.W c.aK.m.H L o.A o.B).1),⟨S.most,S.nav,some C'⟩,a0) ⟨_,hS,?_⟩
   by_cases z:(wA c.aK.m.W c.aK.m.H L o.A o.B).1=0
   ·rw[af z];exact .inl ⟨J,J,.inr (.inr (.inr (.inl ⟨.inr (.inl k4),J,J⟩)))⟩
   ·rw[ah z];exact .inr ⟨.inr ⟨_,z,J⟩,J,J,by omega⟩
  rw[ah (by simpa using k4)]
  by_cases k5:o.Kind=5
  ·rw[af (by simpa using k5)]
   obtain⟨C',e1,e2,e3⟩:=ZU h3 o.A;have hS:my ⟨S.most,S.nav,some C'⟩ k most (b+500000) (wz L o.A).2:=⟨h.m_,h.mb,⟨ord,hn.mono U⟩,.inr ⟨c,C',h1,J,e2,by omega,λu hu=>by
    unfold wz at hu;split at hu
    ·exact h5 u (L8 hu)
    ·exact h5 u hu⟩,h.kp⟩
   refine Ok.bind (P:=λr=>r=((if(wz L o.A).1=0 then Er.nil else Er.num 148 (wz L o.A).1),(0:Int),(0:Int),(5:Int),(-1:Int),([]:List fe),([]:List Int),(0:Int),(0:Int),(0:Int),(0:Int),(0:Int),(0:Int),(⟨S.most,S.nav,some C'⟩:bE))) (Ok.opt (Ok.eq e1 (Ok.eq (OB _) (Ok.pure J)))) λr hr=>?_
   subst hr;refine fin ((if(wz L o.A).1=0 then Er.nil else Er.num 148 (wz L o.A).1),⟨S.most,S.nav,some C'⟩,a0) ⟨_,hS,?_⟩
   by_cases z:(wz L o.A).1=0
   ·rw[af z];exact .inl ⟨J,J,.inr (.inr (.inr (.inl ⟨.inr (.inr k5),J,J⟩)))⟩
   ·rw[ah z];exact .inr ⟨.inr ⟨_,z,J⟩,J,J,by omega⟩
  rw[ah (by simpa using k5)]
  by_cases k6:o.Kind=6
  ·rw[af (by simpa using k6)]
   obtain⟨r,er,hr⟩:=aid h ⟨hb.1,by omega⟩ k6 h1 h2 h3 h4 h5
   rw[er];exact Ok.eq J (fin r (hr.mono U))
  rw[ah (by simpa using k6),af bm]
  obtain⟨r,er,hr⟩:=air h ⟨hb.1,by omega⟩ (show o.Kind=7 by omega) h1 h2 h3 h4 h5
  rw[er];exact Ok.eq J (fin r (hr.mono U))
theorem ahy (q c:Int):CY.f (Er.wrap 110 [q] (Er.num 148 c))=some c:=rfl
theorem ahx (q:Int):CY.f (Er.wrap 110 [q] (Er.dW 0))=some 5:=rfl
theorem W5 (h:my S k most b L) (hb:0<=b/\b<=60000000000) {o:dn} (ho:rh o):
 Ok (lZ.f S o) (λr=> ∃L',my r.2 k most (b+500000) L'/\r.1.Stats=gf r.2.nav/\((r.1.Code=0/\Pt k S L o r.2 L' r.1)∨(r.1.Code≠0/\r.2.nav=S.nav/\r.1.fh=[]/\o.Kind≠8))):=by
 unfold lZ.f;refine(ahC h hb ho).bind λr hr=>?_
 obtain⟨L',h1,h2⟩:=hr;obtain⟨ord,hn⟩:=h1.nav;have mh:zl.f r.2.1=some (gf r.2.1.nav):=by
  unfold zl.f;rw[aii hn ⟨by omega,by omega⟩];rfl
 rcases h2 with⟨e,z,q⟩ |⟨e |⟨c,c0,e⟩,z,q⟩
 ·rw[e];exact Ok.neg (by simp[Er.isNil]) (Ok.eq mh (Ok.pure ⟨L',h1,J,.inl ⟨z,q⟩⟩))
 ·rw[e];exact Ok.pos J (Ok.eq (ahx _) (Ok.eq mh (Ok.pure ⟨L',h1,J,.inr ⟨by simp,z,q⟩⟩)))
 ·rw[e];exact Ok.pos J (Ok.eq (ahy _ _) (Ok.eq mh (Ok.pure ⟨L',h1,J,.inr ⟨c0,z,q⟩⟩)))
end
theorem Y8:EA.f=some true:=ay
section
variable {S : bE} {k most b : Int} {L : List aD}
theorem ah3 {k most:Int} (k1:1<=k) (k2:k<=1000000) (m1:1<=most) (m2:most<=100): ∃S,s_.f k most=some (some S)/\my S k most 0 []/\S.nav.core=none/\gf S.nav=⟨0,0,0,0,0,0⟩:=by
 obtain⟨n,e,h1,h2,h3⟩:=afX k1 k2;unfold s_.f;rw[ah bm,e];exact⟨_,J,⟨J,⟨m1,m2⟩,⟨[],h1⟩,.inl ⟨h2,J,J⟩,λc hc=>by simp only at hc;rw[h2] at hc;simp at hc⟩,h2,h3⟩
def Ce (S:bE):aJ:=match S.nav.core with |none=>⟨0,0,[]⟩ |some c=>c.aK.m
theorem afj {c:eI} (hc:S.nav.core=some c):Ce S=c.aK.m:=by unfold Ce;rw[hc]
theorem afi (hc:S.nav.core=none):Ce S=⟨0,0,[]⟩:=by unfold Ce;rw[hc]
theorem ah1 (h:my S k most b L):xv.f S=some (Ce S):=by
 obtain⟨ord,hn⟩:=h.nav;unfold xv.f Ce
 cases hc:S.nav.core with
 |none=>unfold vr.f;rw[hc];rfl
 |some c=>rw[afW hn hc];rfl
theorem aiw (h:my S k most b L):tc.f S=some L:=by
 unfold tc.f;rcases h.cr with⟨_,h2,h3⟩ |⟨c,C,h1,h2,h3,_⟩
 ·rw[h2,h3];rfl
 ·rw[h2]
  show(oS.f C).bind _=_
  rw[L2 h3];rfl
theorem aa1 (l:List sx) {n:Int} (h:0<=n): ∃r,vS.f l n=some r:=by
 unfold vS.f
 by_cases z:n<(l.length:Int)
 ·simp only[af z];exact⟨n,by rw[af U]⟩
 ·simp only[ah z];exact⟨_,by rw[af U]⟩
end
def C4 (S:bE):List Int:=match S.eH with |none=>[] |some C=>C.floor.words
theorem aix {S:bE} {k most b:Int} {L:List aD} (h:my S k most b L):xw.f S=some (C4 S):=by
 unfold xw.f C4;rcases h.cr with⟨_,h2,_⟩ |⟨c,C,h1,h2,h3,_⟩
 ·rw[h2];rfl
 ·rw[h2];show(uL.f C).bind _=_;rw[aay h3];rfl
structure WS (m:aJ) (L:List aD) (W:List Int):Prop where
 len:W.length=m.C.length
 jI:W.length<=1048576
 ok: ∀x∈L,(0<=x.Cell/\x.Cell<W.length)/\rd W x.Cell=x.Id+1/\rd m.C x.Cell≠255/\x.Cell≠x.Goal/\(0<=x.Goal/\x.Goal<W.length)/\0<=x.Id/\x.Id<=1000000
 only: ∀c:Int,0<=c->c<W.length->rd W c≠0-> ∃x∈L,x.Cell=c
 up: ∀j:Int,0<j->j<L.length->(rd L (j-1)).Id<(rd L j).Id
 nd:(L.map (·.Cell)).Nodup
theorem ai4 {S:bE} {k most b:Int} {L:List aD} (h:my S k most b L):WS (Ce S) L (C4 S):=by
 obtain⟨ord,hn⟩:=h.nav;rcases h.cr with⟨h1,h2,rfl⟩ |⟨c,C,h1,h2,h3,h4,h5⟩
 ·rw[afi h1];unfold C4;rw[h2];exact⟨J,by simp,λx hx=>by simp at hx,λc c0 c1=>by simp at c1;omega,λj j0 j1=>by simp at j1;omega,List.nodup_nil⟩
 ·have hG:=(hn.core c h1).1.gs;have hlen:=hG.ok.2.1;rw[afj h1];have hW:C4 S=C.floor.words:=by unfold C4;rw[h2]
  rw[hW];have hfl:=h3.fl.fl.1;have hp:=tX h3.may;refine⟨by omega,by omega,λx hx=>?_,λd d0 d1 hd=>h3.fl.only d d0 U hd,λj j0 j1=>h3.J1.Aq U U j1,?_⟩
  ·obtain⟨a1,a2,a3⟩:=h3.fl.at_ x hx;obtain⟨b1,b2,b3⟩:=h3.ok x hx;have hi:=h3.us.DX hx;have pa:=h3.us.next
   have hc:=h5 x hx;unfold fx at hc;rw[af (c:=cN c.aK.m x.Cell) ⟨a1,a2⟩] at hc;exact⟨⟨a1,by omega⟩,a3,hc,b3,⟨b2.2.1,by have:=b2.2.2;omega⟩,hi.1,by omega⟩
  ·have hm:=h3.J1;unfold List.Nodup;rw[List.pairwise_map];have Am:=h3.us.up;rw[List.pairwise_map] at Am;exact Am.imp_of_mem λ{x y} hx hy B2 e=>by rw[h3.inj hx hy e] at B2;omega
def sj (W:List Int) (i:Nat):Nat:=((List.range i).filter (λj:Nat=>decide (rd W (j:Int)≠0))).length
theorem aaY (W:List Int) (i:Nat):sj W i<=i:=by
 unfold sj;have:=List.length_filter_le (λj:Nat=>decide (rd W (j:Int)≠0)) (List.range i);simp at this⊢;omega
theorem aaZ (W:List Int) (i:Nat):sj W (i+1)=sj W i+(if rd W (i:Int)≠0 then 1 else 0):=by
 unfold sj;rw[List.range_succ,List.filter_append,List.length_append]
 by_cases z:rd W (i:Int)=0<;>simp[z]
theorem aaX {m:aJ} {L:List aD} {W:List Int} (h:WS m L W) (lD: ∀x∈L,0<=x.Id):sj W W.length=L.length:=by
 have h1:=count_range (ids:=L.map (·.Cell)) (n:=W.length) h.nd (λx hx=>by
  obtain⟨u,hu,rfl⟩:=List.mem_map.1 hx;exact(h.ok u hu).1)
 rw[List.length_map] at h1;rw[<-h1];unfold sj
 congr 1
 refine List.filter_congr λj hj=>?_
 rw[List.mem_range] at hj;rw[decide_eq_decide];constructor
 ·intro z;obtain⟨x,hx,e⟩:=h.only j U U z;exact List.mem_map.2 ⟨x,hx,e⟩
 ·intro z;obtain⟨x,hx,e⟩:=List.mem_map.1 z;have:=(h.ok x hx).2.1;have h0:=lD x hx;rw[<-e,this];omega
theorem aa_ {S:bE} {a:iH} {m:aJ} {L:List aD} {W:List Int} (h:WS m L W) (hL:L.length<=1000): ∀(n q:Nat) (j:Int),(L.length-j).toNat<=n->n<q->0<=j->fK.l2 q L.length (a,S) m L W j=some (Sum.inr S):=by
 have fin: ∀(q:Nat) (j:Int),¬j<L.length->fK.l2 (q+1) L.length (a,S) m L W j=some (Sum.inr S):=λq j hj=>by
  rw[fK.l2,ah hj,ah bk]
 intro n
 induction n with
 |zero=>
  intro q j hn hq j0;obtain⟨q,rfl⟩:=bl hq;exact fin q j U
 |succ n ih=>
  intro q j hn hq j0;obtain⟨q,rfl⟩:=bl hq
  by_cases z:j<L.length
  ·obtain⟨⟨a0,a1⟩,a2,a3,a4,⟨a5,a6⟩,a7,a8⟩:=h.ok _ (dS j0 z);have hl:=h.len;rw[fK.l2,af z];have e: ∀X:Option Bool,X=some false->(X.bind λjE=>if jE=true then(some (Sum.inl false)) else(fK.l2 q L.length (a,S) m L W (aa (j+1))))=some (Sum.inr S):=λX hX=>by
    rw[hX,aL,ah bk,wi U U];exact ih q (j+1) U U U
   refine e _ ?_;rw[af ⟨j0,z⟩,ah U,ah U,af ⟨a0,a1⟩,ah (by rw[a2,wi U U,ai5 U U];simp),af ⟨a0,by omega⟩,ah (by simpa using a3),ah (by simpa using a4),ah U,ah U]
   by_cases y:j>0
   ·rw[af y,wi U U,af ⟨by omega,by omega⟩,decide_eq_false (by have:=h.up j y z;omega)]
   ·rw[ah y]
  ·exact fin q j z
theorem aa9 {S:bE} {a:iH} {m:aJ} {L:List aD} {W:List Int} (h:WS m L W) (hL:L.length<=1000): ∀(n q i:Nat),W.length-i<=n->n<q->i<=W.length->fK.l1 q (a,S) m L W (sj W i) i=some (Sum.inr S):=by
 have hf:=h.jI;have fin: ∀(q i:Nat),i=W.length->fK.l1 (q+1) (a,S) m L W (sj W i) i=some (Sum.inr S):=λq i hi=>by
  rw[fK.l1,ah U,hi,aaX h (λx hx=>(h.ok x hx).2.2.2.2.2.1)];exact aa_ h hL 1000 fuel 0 U (by rw[cM];omega) U
 intro n
 induction n with
 |zero=>
  intro q i hn hq hi;obtain⟨q,rfl⟩:=bl hq;exact fin q i U
 |succ n ih=>
  intro q i hn hq hi;obtain⟨q,rfl⟩:=bl hq
  by_cases z:i<W.length
  ·have hs:=aaZ W i;have hle:=aaY W i;have e:(if((rd W (i:Int))!=0)=true then(some (aa ((sj W i:Int)+1))) else(some (sj W i:Int)))=some ((sj W (i+1):Nat):Int):=by
    rw[hs]
    by_cases y:rd W (i:Int)=0
    ·rw[ah (by simp[y]),ah (by simpa using y)];rfl
    ·rw[af (by simpa using y),af y,wi U U];rfl
   rw[fK.l1,af U,af (c:=0<=(i:Int)/\(i:Int)<(List.length W:Int)) ⟨by omega,by omega⟩,e,aL,wi U U]
   exact ih q (i+1) U U U
  ·exact fin q i U
theorem aa8 {k o:Int} (ho8:1<=o/\o<=8) {x:List dn} (hx: ∀o∈x,rh o) (hl:x.length<=61): ∀(n q:Nat) (S:bE) (i b:Int) (L:List aD),(x.length-i).toNat<=n->n<q->0<=i->i<=x.length->my S k o b L->b=500000*i->fK.l0 q o x S i=some true:=by
 have fin: ∀(q:Nat) (S:bE) (i:Int),¬i<x.length->fK.l0 (q+1) o x S i=some true:=λq S i hi=>by
  rw[fK.l0,ah hi,Y8];rfl
 intro n
 induction n with
 |zero=>
  intro q S i b L hn hq h0 hi h hb;obtain⟨q,rfl⟩:=bl hq;exact fin q S i U
 |succ n ih=>
  intro q S i b L hn hq h0 hi h hb;obtain⟨q,rfl⟩:=bl hq
  by_cases z:i<x.length
  ·have ho:=hx _ (dS h0 z);obtain⟨⟨a,S'⟩,e,L',h',mh,adU⟩:=W5 h U ho;simp only at h' mh adU;have hW:=ai4 h';have FY:(L'.length:Int)<=o:=by
    rcases h'.cr with⟨_,_,rfl⟩ |⟨c,C,_,_,h3,_⟩
    ·simp;omega
    ·exact h3.jI
   have NJ:=hW.len;have hwf:=hW.jI;rw[fK.l0,af z,af (c:=0<=i/\i<(List.length x:Int)) ⟨h0,z⟩,e,aL,ah1 h',aL,aiw h',aL,aix h',aL,ah U,aL,ah bm];have e1:=aa9 (a:=a) (S:=S') hW U 1048576 fuel 0 U (by rw[cM];omega) U
   rw[show(sj (C4 S') 0:Int)=0 from rfl] at e1
   rw[show(((0:Nat):Int))=0 from rfl] at e1
   rw[e1,aL,wi U U];exact ih q S' (i+1) (b+500000) L' U U U U h' U
  ·exact fin q S i z
theorem Xy:fK.Pure:=by
 intro p0 w h p3 l _ _ _ hp3 _ _ _;unfold fK.f;obtain⟨r,er⟩:=aa1 l (n:=50) U;obtain⟨x,ex,tP,yG,vh⟩:=ahz w h hp3 (aA l 0 r);have hw:=KZ (n:=p0) (lo:=1) (hi:=8) U;rw[KY U U U U,aL,er,aL,ex,aL];generalize 1+p0%(8-1+1)=k at hw⊢;obtain⟨S,eS,hS,_⟩:=ah3 (k:=2) (most:=k) U U U U;rw[eS,aL];exact aa8 hw vh yG 61 fuel S 0 0 [] U (by rw[cM];omega) U U hS U
end Go.Proofs.YthodkonhneebbaaGreatDoor
