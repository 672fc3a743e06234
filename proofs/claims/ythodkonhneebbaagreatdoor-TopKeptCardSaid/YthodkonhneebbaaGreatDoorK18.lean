/- What the functions do, in plain Lean, on the objects that are kept in order. -/
import Derived.KernelRfl
import Derived.Test.YthodkonhneebbaaGreatDoorK17
import Derived.Test.YthodkonhneebbaaGreatDoorK16
import Derived.Test.YthodkonhneebbaaGreatDoorK13
namespace Go.Proofs.YthodkonhneebbaaGreatDoor
open Go.Hx
set_option linter.unusedVariables false
set_option linter.unusedSimpArgs false
variable {c : d_} {w h most : Int} {L : List aF}
theorem CS.UC (hc:CS c w h most L):il w h L:=by
 refine⟨hc.may,λj j0 j1=>?_⟩
 have hm:=dN j0 j1;obtain⟨a,b,d⟩:=hc.ok _ hm;refine⟨?_,a,b,λq q0 q1 e=>?_⟩
 ·split
  ·have:=(hc.us.Gk hm).1;omega
  ·have:=sT hc.us.up (i:=j-1) (j:=j) U U bl;rwa[ze U U,ze U U] at this
 ·have h1:=hc.inj (dN q0 U) hm e;have:=sT hc.us.up (i:=q) (j:=j) q0 q1 bl;rw[ze U U,ze U U,h1] at this;omega
theorem aiX {k:Int} {v:aF} {p:aF->Bool} (hv:p v=false) (l:List aF):(gC l k (λ_=>v)).filter p=lY (l.filter p) k:=by
 unfold gC lY
 induction l with
 |nil=>rfl
 |cons x r ih=>
  rw[List.map_cons]
  by_cases e:x.Id=k
  ·rw[af e,List.filter_cons,hv,ih]
   by_cases q:p x=true
   ·simp[q,e]
   ·simp[q]
  ·rw[ah e,List.filter_cons,ih]
   by_cases q:p x=true
   ·rw[af q,List.filter_cons,af q,List.filter_cons,af (by simpa using e)]
   ·rw[ah q,List.filter_cons,ah q]
theorem aiY {k:Int} {v:aF} {p:aF->Bool} (hv:p v=true) (l:List aF) (hl: ∀x∈l,x.Id=k->p x=true):(gC l k (λ_=>v)).filter p=gC (l.filter p) k (λ_=>v):=by
 unfold gC
 induction l with
 |nil=>rfl
 |cons x r ih=>
  have T8:=ih (λy hy=>hl y (by simp[hy]))
  rw[List.map_cons]
  by_cases e:x.Id=k
  ·rw[af e,List.filter_cons,af hv,T8,List.filter_cons,af (hl x bk e),List.map_cons,af e]
  ·rw[ah e,List.filter_cons,T8]
   by_cases q:p x=true
   ·rw[af q,List.filter_cons,af q,List.map_cons,ah e]
   ·rw[ah q,List.filter_cons,ah q]
abbrev Ln (w h:Int) (L:List aF) (aL:List Int) (n:Nat):List aF:=(dG w h L aL n).1.filter (λx=>decide (0<=x.Cell))
theorem ah7 {l:List aF} {n:Nat} (hn:n<l.length) (l_: ∀i j:Int,0<=i->i<l.length->0<=j->j<l.length->i≠j->(rd l i).Id≠(rd l j).Id) (v:aF):l.set n v=gC l (rd l (n:Int)).Id (λ_=>v):=by
 refine G2 (by simp[gC]) (λi i0 i1=>?_)
 rw[List.length_set] at i1;unfold gC;rw[ze i0 i1];have:=kV (L:=l) (i:=(n:Int)) (c:=i) (v:=v) U U i0;rw[show((n:Int)).toNat=n by simp] at this
 rw[this]
 by_cases e:i=n
 ·rw[af e,e,af J]
 ·rw[ah e,ah (l_ i n i0 i1 U U e)]
theorem afn (hm:il w h L) (aL:List Int) {n:Nat} (hn:n<L.length):Ln w h L aL (n+1)=
 if sN w h L aL n then(if lE w h L aL n=(rd L (n:Int)).Goal then lY (Ln w h L aL n) (rd L (n:Int)).Id else gC (Ln w h L aL n) (rd L (n:Int)).Id (λ_=>⟨(rd L (n:Int)).Id,lE w h L aL n,(rd L (n:Int)).Goal⟩)) else Ln w h L aL n:=by
 have hi:=yA hm aL n U;have hl:=hi.len
 show(kO w h (dG w h L aL n) n (rd L (n:Int)) (rd aL (n:Int))).1.filter _=_
 unfold kO;have l_: ∀i j:Int,0<=i->i<(dG w h L aL n).1.length->0<=j->j<(dG w h L aL n).1.length->i≠j->(rd (dG w h L aL n).1 i).Id≠(rd (dG w h L aL n).1 j).Id:=by
  intro i j i0 i1 j0 j1 rE;rw[(hi.same i i0 U).1,(hi.same j j0 U).1];rcases Int.lt_or_gt_of_ne rE with q |q
  ·have:=hm.B6 i0 q U;omega
  ·have:=hm.B6 j0 q U;omega
 by_cases z:sN w h L aL n
 ·rw[af z,af z];simp only;rw[show((n:Int)).toNat=n by simp,ah7 U l_,hi.rest n U U]
  by_cases g:lE w h L aL n=(rd L (n:Int)).Goal
  ·rw[af g,af g];exact aiX bk _
  ·rw[ah g,ah g];have vm:0<=lE w h L aL n:=z.1;refine aiY (by simpa using vm) _ (λx hx e=>?_)
   obtain⟨j,j0,j1,rfl⟩:=jJ hx;have:j=n:=Classical.byContradiction λq=>by
    have:=l_ j n j0 j1 U U q;rw[hi.rest n U U] at this;exact this e
   subst this;rw[hi.rest n U U];simpa using(hm.cell U U).2.1
 ·rw[ah z,ah z]
theorem abg {f:fy} {n:Int} (hf:FS f n L) (Gi:(L.map (·.Id)).Pairwise (· < ·)) {x:aF} (hx:x∈L) (i0:0<=x.Id) {to:Int} (t0:0<=to) (t1:to<n) (gz: ∀y∈L,y.Cell≠to):
 FS (iw (iw f x.Cell 0 (-1)) to (x.Id+1) 1) n (gC L x.Id (λ_=>⟨x.Id,to,x.Goal⟩)):=by
 obtain⟨h0,h1,h2⟩:=hf.at_ x hx;have hr:=hf.fl.2 x.Cell h0 h1;have Tl:rW n (iw f x.Cell 0 (-1)):=Hh hf.fl h0 h1 U U;have NJ: ∀d,0<=d->rd (iw (iw f x.Cell 0 (-1)) to (x.Id+1) 1).words d=if d=to then x.Id+1 else if d=x.Cell then 0 else rd f.words d:=by
  intro d d0;rw[AJ Tl t0 t1 d0,AJ hf.fl h0 h1 d0]
 refine⟨Hh Tl t0 t1 U U,by simp[iw,hf.eH,gC];omega,λy hy=>?_,λd d0 d1 hd=>?_⟩
 ·unfold gC at hy;obtain⟨z,hz,rfl⟩:=List.mem_map.1 hy;obtain⟨a,b,e⟩:=hf.at_ z hz
  by_cases q:z.Id=x.Id
  ·rw[af q];exact⟨t0,t1,by rw[NJ to t0,af J]⟩
  ·rw[ah q];refine⟨a,b,?_⟩;rw[NJ _ a,ah (gz z hz),ah]
   ·exact e
   ·intro y;rw[y,h2] at e;omega
 ·rw[NJ d d0] at hd
  by_cases q:d=to
  ·refine⟨⟨x.Id,to,x.Goal⟩,List.mem_map.2 ⟨x,hx,by rw[af J]⟩,q.symm⟩
  ·rw[ah q] at hd
   by_cases z:d=x.Cell
   ·rw[af z] at hd;exact absurd J hd
   ·rw[ah z] at hd;obtain⟨y,hy,e⟩:=hf.only d d0 d1 hd;refine⟨y,List.mem_map.2 ⟨y,hy,?_⟩,e⟩;rw[ah (λk=>z (by rw[<-e,B5 Gi hy hx k]))]
theorem aiR (hm:il w h L) (hb:L.length<=1000000) {aL:List Int} (nx:Int): ∀(m k n:Nat) (c:d_),n+m=L.length->m<k->CS c w h most (Ln w h L aL n)->c.cT.next=nx->
 ∃c',ng.l0 k ((gL w h L aL).1,(gL w h L aL).2.1,(gL w h L aL).2.2,0) c ((dG w h L aL n).2.1.length:Int)=
  some ((gL w h L aL).2.1,(gL w h L aL).2.2,0,c')/\CS c' w h most (gL w h L aL).1/\c'.cT.next=nx:=by
 intro m
 induction m with
 |zero=>
  intro k n c hn hk hc hx;obtain⟨k,rfl⟩:=bh hk;have:n=L.length:=U;subst this;refine⟨c,?_,hc,hx⟩;rw[ng.l0,ah (by simp[gL])]
 |succ m ih=>
  intro k n c hn hk hc hx;have aP:n<L.length:=U;have hi:=yA hm aL n U;obtain⟨m1,m2⟩:=afM (aL:=aL) hm (n:=n) aP;have JH:=N_ (w:=w) (h:=h) (l:=L) (aL:=aL) n;have BX:=afn hm aL aP;have NB:=hi.Ka
  by_cases z:sN w h L aL n
  ·obtain⟨k,rfl⟩:=bh hk;have hr:=m2 z;have ajD:=(m1.2 z).1;rw[af z] at JH BX;have aec:((dG w h L aL (n+1)).2.1.length:Int)=((dG w h L aL n).2.1.length:Int)+1:=by rw[JH];simp
   have Aq:rd L (n:Int)∈Ln w h L aL n:=by
    rw[List.mem_filter];have:rd (dG w h L aL n).1 (n:Int)=rd L (n:Int):=hi.rest n U U;refine⟨by rw[<-this];exact dN U (by rw[hi.len];omega),?_⟩
    simpa using(hm.cell U U).2.1
   have ad3:=Ph hc.us.up Aq;have F1:zv (Ln w h L aL n) (rd L (n:Int)).Id=(rd L (n:Int),true):=by unfold zv;rw[ad3]
   have aa5:aF.mk (rd L (n:Int)).Id (rd L (n:Int)).Cell (rd L (n:Int)).Goal=rd L (n:Int):=rfl;rw[ng.l0,af (by simp only;omega),af (by simp only;omega)]
   simp only[hr,DA hc.us,F1,aK];rw[wi U U,<-aec,aa5];have aea:=hc.us.Gk Aq
   by_cases g:lE w h L aL n=(rd L (n:Int)).Goal
   ·rw[af g] at BX;obtain⟨c',e1,e2,e3⟩:=LX hc Aq;rw[af (by simpa using g)]
    rw[e1,aK];exact ih k (n+1) c' U U (by rw[BX];exact e2) U
   ·rw[ah g] at BX;rw[ah (by simpa using g)]
    obtain⟨u',a1,a2,a3⟩:=afL hc.us (rd L (n:Int)).Id (lE w h L aL n);have vm:=RP z.1;have gz: ∀y∈Ln w h L aL n,y.Cell≠lE w h L aL n:=λy hy=>z.2 y (List.mem_filter.1 hy).1;have Ng:=hc.fl.eH;have ajF:0<(Ln w h L aL n).length:=List.length_pos_iff.2 (List.ne_nil_of_mem Aq);have hle:(Ln w h L aL n).length<=L.length:=by
     have:=List.length_filter_le (λx:aF=>decide (0<=x.Cell)) (dG w h L aL n).1;rw[hi.len] at this;exact this
    have hw:mu (w*h) c.floor (rd L (n:Int)).Cell=(rd L (n:Int)).Id:=by rw[K1 hc,Fs hc Aq]
    have F0:ry (w*h) c.floor (lE w h L aL n):=by
     refine⟨vm.2.1,vm.2.2,Classical.byContradiction λy=>?_⟩
     obtain⟨x,pS,e⟩:=hc.fl.only _ vm.2.1 vm.2.2 y;exact gz x pS e
    have es:IZ (w*h) c.floor (rd L (n:Int)).Cell (lE w h L aL n)=(true,iw (iw c.floor (rd L (n:Int)).Cell 0 (-1)) (lE w h L aL n) ((rd L (n:Int)).Id+1) 1):=by
     unfold IZ;rw[hw,af ⟨by omega,F0⟩]
    rw[ah9 hc.fl.fl U,es,a1];simp only[aK];have aem:gC (Ln w h L aL n) (rd L (n:Int)).Id (λx=>⟨x.Id,lE w h L aL n,x.Goal⟩)=gC (Ln w h L aL n) (rd L (n:Int)).Id (λ_=>⟨(rd L (n:Int)).Id,lE w h L aL n,(rd L (n:Int)).Goal⟩):=by
     unfold gC;refine List.map_congr_left λy hy=>?_
     by_cases q:y.Id=(rd L (n:Int)).Id
     ·rw[af q,af q,B5 hc.us.up hy Aq q]
     ·rw[ah q,ah q]
    rw[aem] at a3;refine ih k (n+1) ⟨c.w,c.h,c.most,u',iw (iw c.floor (rd L (n:Int)).Cell 0 (-1)) (lE w h L aL n) ((rd L (n:Int)).Id+1) 1⟩ U U ?_ (by simp only;omega)
    rw[BX];refine⟨hc.w_,hc.h_,hc.m_,hc.may,a3,abg hc.fl hc.us.up Aq aea.1 vm.2.1 vm.2.2 gz,λy hy=>?_,by simpa[gC] using hc.jd⟩
    unfold gC at hy;obtain⟨y',DZ,rfl⟩:=List.mem_map.1 hy;have vh:=hc.ok y' DZ;split
    ·exact⟨vm,(hc.ok _ Aq).2.1,g⟩
    ·exact vh
  ·rw[ah z,List.append_nil] at JH;rw[ah z] at BX;rw[<-JH];exact ih k (n+1) c U U (by rw[BX];exact hc) hx
theorem aaG (hc:CS c w h most L) {aL:List Int} (hd:K7 aL L.length): ∃c',ng.f c aL=some ((gL w h L aL).2.1,(gL w h L aL).2.2,0,c')/\CS c' w h most (gL w h L aL).1/\c'.cT.next=c.cT.next:=by
 unfold ng.f;have hm:=hc.UC;have ko:=hc.us.eH;have F7:=hc.next
 rw[QZ hc,hc.w_,hc.h_];simp only[aK,go_ok hm U hd];rw[ah bk];have h0:Ln w h L aL 0=L:=by
  show L.filter _=L
  rw[List.filter_eq_self];intro x hx;simpa using(hc.ok x hx).1.2.1
 obtain⟨c',e1,e2,e3⟩:=aiR (most:=most) hm U (aL:=aL) c.cT.next L.length fuel 0 c U (by rw[cH];omega) (by rw[h0];exact hc) J
 exact⟨c',e1,e2,e3⟩
theorem af4 {w h most:Int} (hm:iA w h) (h1:1<=most) (h2:most<=65536): ∃c,uS.f w h most=some (some c)/\CS c w h most []/\c.cT.next=0:=by
 obtain⟨r,r1,r2,r3⟩:=aan w h most;have:=r2.2 ⟨hm,h1,h2⟩;obtain⟨c,rfl⟩:=Option.isSome_iff_exists.1 this;exact⟨c,r1,(r3 c J).1,(r3 c J).2⟩
section
structure nT (S:bJ) (k most b:Int) (L:List aF):Prop where
 m_:S.most=most
 mb:1<=most/\most<=100
 nav: ∃ord,gW S.nav k b ord
 cr:(S.nav.core=none/\S.eY=none/\L=[])∨ ∃c C,S.nav.core=some c/\S.eY=some C/\CS C c.aI.m.W c.aI.m.H most L/\500000*C.cT.next<=b/\ ∀u∈L,fI c.aI u.Cell≠255
 kp: ∀c,S.nav.core=some c->(c.gZ.kept.isSome=true↔S.nav.eh.keys.ak≠[])
variable {S : bJ} {k most b : Int} {L : List aF}
theorem OG (c:Int):fE.f c=some (if c=0 then Er.nil else Er.num 148 c):=by
 unfold fE.f
 by_cases z:c=0<;>simp[z]
theorem Ro {n:bY} {ord:List Int} {c:eI} {goal s:Int} {r:fX×Er×bY} (h:Dc n k b ord c goal s r):r.2.2.eh.keys.ak≠[]/\ ∃c',r.2.2.core=some c'/\c'.aI=c.aI/\c'.gZ.kept.isSome=true:=by
 obtain⟨R,l,c',qF,f1,f2,f3,f4,f5,f6,f7,f8,f9,f10,f11,f12,f13,f14,f15,f16,f17,f18⟩:=h.Dy;refine⟨λz=>?_,c',f7,f8,by rw[f9];rfl⟩
 obtain⟨x,x1,_⟩:=f17.now;have:=(f16.mC.sl _ _).1 x1;rw[z] at this;simp at this;omega
theorem abb {ps:List (Int×Int)} {n n':bY} (h:tx k ps n n'):(ps=[]/\n'=n)∨(ps≠[]/\n'.eh.keys.ak≠[]/\ ∃c',n'.core=some c'/\c'.gZ.kept.isSome=true):=by
 cases h with
 |nil=>exact .inl ⟨J,J⟩
 |snoc h hn hc hg hs hf=>
  have:=Ro hf;obtain⟨a,c',b1,_,b3⟩:=this;exact .inr ⟨by simp,a,c',b1,b3⟩
def Pw (k:Int) (S:bJ) (L:List aF) (o:dn) (S':bJ) (L':List aF) (a:iZ):Prop:=
 (o.Kind=1/\L'=[]/\a.fi=[]/\S'.nav.eh.keys.ak=[]/\gd S'.nav=gd S.nav/\ ∃c',S'.nav.core=some c'/\ ∀s:Int,bG c'.aI.m.W c'.aI.m.H s->(rd c'.hZ.parts s).version≠fA c'.aI s)∨
 (o.Kind=8/\L'=L/\a.fi=[]/\S'.nav.eh.keys.ak=[]/\gd S'.nav=gd S.nav/\((S.nav.core=none/\S'.nav.core=none)∨ ∃c,S.nav.core=some c/\S'.nav.core=some ⟨c.aI,c.hZ,⟨none,c.gZ.count⟩⟩))∨
 (o.Kind=2/\L'=L/\a.fi=[]/\gd S'.nav=gd S.nav/\ ∃c,S.nav.core=some c/\cO c.aI.m o.A/\S'.nav.core=some ⟨mw c.aI o.A o.B,c.hZ,c.gZ⟩)∨
 ((o.Kind=3∨o.Kind=4∨o.Kind=5)/\a.fi=[]/\S'.nav=S.nav)∨
 (o.Kind=6/\L'=L/\a.fi=[]/\ ∃c b' ord f,S.nav.core=some c/\cO c.aI.m o.A/\cO c.aI.m o.B/\gW S.nav k b' ord/\Dc S.nav k b' ord c o.A (aX c.aI.m.W c.aI.m.H o.B) (f,Er.nil,S'.nav)/\a.D=rd f.fa (du c.aI.m.W c.aI.m.H o.B)/\a.cz=rd f.cz (du c.aI.m.W c.aI.m.H o.B))∨
 (o.Kind=7/\ ∃c aL,S.nav.core=some c/\il c.aI.m.W c.aI.m.H L/\tx k ((jL c.aI.m.W c.aI.m.H L).map D2) S.nav S'.nav/\aL.length=L.length/\(∀j:Int,0<=j->j<L.length->Da c.aI (rd L j) (rd aL j))/\L'=(gL c.aI.m.W c.aI.m.H L aL).1/\a.fi=(gL c.aI.m.W c.aI.m.H L aL).2.1/\a.ik=(gL c.aI.m.W c.aI.m.H L aL).2.2)
def Ends (k most b:Int) (S:bJ) (L:List aF) (o:dn) (r:Er×bJ×iZ):Prop:=
 ∃L',nT r.2.1 k most b L'/\((r.1=Er.nil/\r.2.2.Code=0/\Pw k S L o r.2.1 L' r.2.2)∨((r.1=Er.dS 0∨ ∃c,c≠0/\r.1=Er.num 148 c)/\r.2.1.nav=S.nav/\r.2.2.fi=[]/\o.Kind≠8))
theorem nT.mono {b':Int} (h:nT S k most b L) (hb:b<=b'):nT S k most b' L:=by
 obtain⟨ord,hn⟩:=h.nav;refine⟨h.m_,h.mb,⟨ord,hn.mono hb⟩,?_,h.kp⟩;rcases h.cr with z |⟨c,C,h1,h2,h3,h4,h5⟩
 ·exact .inl z
 ·exact .inr ⟨c,C,h1,h2,h3,by omega,h5⟩
abbrev a0:iZ:=iZ.mk 0 0 5 (-1) [] [] (gv.mk 0 0 0 0 0 0)
theorem Ep {l:fg} {ord:List Int} (h:pA l k ord):ord=[]↔l.ak=[]:=by
 constructor
 ·intro z;rw[<-List.length_eq_zero_iff];apply Classical.byContradiction;intro y;have:=(h.mem 0).2 U;rw[z] at this;simp at this
 ·intro z;refine List.eq_nil_iff_forall_not_mem.2 λc hc=>?_
  have:=(h.mem c).1 hc;rw[z] at this;simp at this;omega
theorem Ws (h:nT S k most b L) (hb:0<=b/\b<=60000000000) {o:dn} (ho:rj o) (hk:o.Kind=1):
 Ok (xJ.f S o.Map) (λr=>Ends k most (b+1) S L o (r.1,r.2,a0)):=by
 obtain⟨l1,l2,l3,l4,l5⟩:=ho.ld hk;obtain⟨ord,hn⟩:=h.nav;unfold xJ.f;refine(XU l1 l3).bind λv hv=>?_
 rcases hv with q |⟨q1,q2,q3,q4,q5⟩
 ·refine Ok.pos (by rcases q with q |q<;>simp[q]) (Ok.pure ⟨L,h.mono U,.inr ⟨.inr ⟨6,by omega,rfl⟩,rfl,rfl,by omega⟩⟩)
 ·refine Ok.neg (by simp[q1]) ?_
  have hm:=q2.1;have ND:PE v.1:=⟨q2,q3,by
   have:v.1.W*v.1.H<=40*40:=kt U U U U;omega⟩
  obtain⟨n',c',e,e1,e2,e3,e4,e5,e6,e7⟩:=af8 hn ⟨hb.1,by omega⟩ ND
  obtain⟨C,eC,hC,hC0⟩:=af4 (w:=v.1.W) (h:=v.1.H) (most:=most) hm h.mb.1 (by have:=h.mb;omega)
  refine Ok.eq e (Ok.pos J ?_);rw[h.m_];refine Ok.eq (v:=some C) eC ?_;refine Ok.opt (Ok.eq J (Ok.pure ⟨[],⟨J,h.mb,⟨[],e2⟩,.inr ⟨c',C,e1,J,by rw[e3];exact hC,by omega,by simp⟩,λc hc=>?_⟩,.inl ⟨J,J,.inl ⟨hk,J,J,(Ep e2.mC).1 J,e5,c',e1,by rw[e3];exact e6⟩⟩⟩))
  simp only at hc⊢;rw[e1] at hc;simp only[Option.some.injEq] at hc;subst hc;have:=(Ep e2.mC).1 J;rw[e4,this];simp
theorem ahX (h:nT S k most b L) (hb:0<=b/\b<=60000000000) {o:dn} (ho:rj o) (hk:o.Kind=2) {c:eI} {C:d_} (h1:S.nav.core=some c) (h2:S.eY=some C) (h3:CS C c.aI.m.W c.aI.m.H most L) (h4:500000*C.cT.next<=b) (h5: ∀u∈L,fI c.aI u.Cell≠255) (hA:cO c.aI.m o.A):
 Ok (xI.f S o.A o.B) (λr=>Ends k most (b+1) S L o (r.1,r.2,a0)):=by
 have hB:=ho.b2 hk;obtain⟨ord,hn⟩:=h.nav;unfold xI.f;refine Ok.ite (λq=>Ok.pure ⟨L,h.mono U,.inr ⟨.inr ⟨8,by omega,J⟩,J,J,by omega⟩⟩) λq=>?_
 have q: ¬(o.B<1∨o.B>255):=by simpa using q
 rw[h2];have e:c_ (some C) none (λx3=>if(o.B==255)=true then((z7.f x3 o.A).bind λv4=>some (decide (v4≥0))) else(some false))=some (decide (o.B=255/\oL L o.A≥0)):=by
  show(if(o.B==255)=true then _ else _)=_
  by_cases z:o.B=255
  ·rw[af (by simpa using z),aaH h3];simp[z]
  ·rw[ah (by simpa using z)];simp[z]
 refine Ok.eq e (Ok.ite (λz=>Ok.pure ⟨L,h.mono U,.inr ⟨.inr ⟨10,by omega,J⟩,J,J,by omega⟩⟩) λz=>?_)
 have z: ¬(o.B=255/\oL L o.A≥0):=by simpa using z
 obtain⟨n',e1,e2,e3,e4,e5,e6⟩:=af1 hn ⟨hb.1,by omega⟩ h1 hA U hB
 have hG:=(hn.core c h1).1.gs;refine Ok.eq e1 (Ok.eq J (Ok.pure ⟨L,⟨h.m_,h.mb,⟨ord,e5⟩,.inr ⟨_,C,e2,J,h3,by omega,λu hu=>?_⟩,λc' jX=>?_⟩,.inl ⟨J,J,.inr (.inr (.inl ⟨hk,J,J,e6,c,h1,hA,e2⟩))⟩⟩))
 ·have oZ:=(h3.ok u hu).1;have ez:cO c.aI.m u.Cell:=oZ.2;have hold:=h5 u hu;have e: ∀(x:Int),cO c.aI.m x->fI (mw c.aI o.A o.B) x=if x=o.A then o.B else fI c.aI x:=λx hx=>by
   have e0:fI (mw c.aI o.A o.B) x=rd (mw c.aI o.A o.B).m.C x:=by unfold fI;exact af hx
   rw[e0,NY hG hA hx.1];split
   ·rfl
   ·unfold fI;rw[af hx]
  simp only;rw[e _ ez];split
  ·rename_i w;intro y;refine z ⟨y,?_⟩;rw[<-w,Fs h3 hu];exact(US.Gk h3.us hu).1
  ·exact hold
 ·simp only at jX⊢;rw[e2] at jX;simp only[Option.some.injEq] at jX;subst jX;simp only;rw[e3];exact h.kp c h1
theorem aiy (h:nT S k most b L) (hb:0<=b/\b<=60000000000) {o:dn} (hk:o.Kind=3) {c:eI} {C:d_} (h1:S.nav.core=some c) (h2:S.eY=some C) (h3:CS C c.aI.m.W c.aI.m.H most L) (h4:500000*C.cT.next<=b) (h5: ∀u∈L,fI c.aI u.Cell≠255):
 Ok (xL.f S o.A o.B) (λr=> ∀a:iZ,a.fi=[]->a.Code=0->Ends k most (b+500000) S L o (r.2.1,r.2.2,a)):=by
 obtain⟨ord,hn⟩:=h.nav;unfold xL.f;refine Ok.eq (Kf hn h1 _) (Ok.ite (λq=>Ok.pure λa ha _=>⟨L,h.mono U,.inr ⟨.inr ⟨9,by omega,J⟩,J,ha,by omega⟩⟩) λq=>?_)
 have q:fI c.aI o.A≠255:=by simpa using q
 rw[h2];obtain⟨C',e1,e2,e3⟩:=aaF h3 U o.A o.B;refine Ok.opt (Ok.eq e1 (Ok.eq (OG _) (Ok.pure λa ha Ta=>⟨(mZ c.aI.m.W c.aI.m.H most L C.cT.next o.A o.B).2.2,⟨h.m_,h.mb,⟨ord,hn.mono U⟩,.inr ⟨c,C',h1,J,e2,?_,λu hu=>?_⟩,h.kp⟩,?_⟩)))
 ·have:C'.cT.next<=C.cT.next+1:=by rw[e3];split<;>omega
  omega
 ·unfold mZ at hu
  repeat' split at hu
  all_goals first
   |exact h5 u hu
   |(rcases List.mem_append.1 hu with z |z
     ·exact h5 u z
     ·simp only[List.mem_cons,List.not_mem_nil,or_false] at z;rw[z];exact q)
 ·by_cases z:(mZ c.aI.m.W c.aI.m.H most L C.cT.next o.A o.B).2.1=0
  ·rw[af z];exact .inl ⟨J,Ta,.inr (.inr (.inr (.inl ⟨.inl hk,ha,J⟩)))⟩
  ·rw[ah z];exact .inr ⟨.inr ⟨_,z,J⟩,J,ha,by omega⟩
theorem aiw (h:nT S k most b L) (hb:0<=b/\b<=60000000000) {o:dn} (hk:o.Kind=6) {c:eI} {C:d_} (h1:S.nav.core=some c) (h2:S.eY=some C) (h3:CS C c.aI.m.W c.aI.m.H most L) (h4:500000*C.cT.next<=b) (h5: ∀u∈L,fI c.aI u.Cell≠255):
 Ok (xK.f S a0 o.A o.B) (λr=>Ends k most (b+5000) S L o (r.1,r.2.1,r.2.2)):=by
 obtain⟨ord,hn⟩:=h.nav;unfold xK.f;refine(af9 hn ⟨hb.1,by omega⟩ h1 o.A o.B).bind λv hv=>?_
 rcases hv with⟨a1,a2,a3,f,a4,a5,a6⟩ |⟨a1,a2,a3⟩
 ·rw[a3];obtain⟨g1,c',g2,g3,g4⟩:=Ro a4;obtain⟨R,l,c2,qF,f1,f2,f3,f4,f5,f6,f7,f8,f9,f10,f11,f12,f13,f14,f15,f16,f17,f18⟩:=a4.Dy;refine Ok.pos J (Ok.eq J (Ok.pure ⟨L,⟨h.m_,h.mb,⟨qF,f16⟩,.inr ⟨c',C,g2,h2,by rw[g3];exact h3,by omega,by rw[g3];exact h5⟩,λc3 va=>?_⟩,.inl ⟨J,J,.inr (.inr (.inr (.inr (.inl ⟨hk,J,J,c,b,ord,f,h1,a1,a2,hn,a4,a5,a6⟩))))⟩⟩))
  simp only at g2 va⊢;rw[g2] at va;simp only[Option.some.injEq] at va;subst va;exact⟨λ_=>g1,λ_=>g4⟩
 ·rw[a2,a3];exact Ok.neg bk (Ok.eq J (Ok.pure ⟨L,h.mono U,.inr ⟨.inr ⟨7,by omega,J⟩,J,J,by omega⟩⟩))
end
section
variable {S : bJ} {k most b : Int} {L : List aF}
theorem XT {w h:Int} {aL:List Int} (hm:il w h L): ∀n:Nat,n<=L.length-> ∀u∈pN (dG w h L aL n) n,∃j:Int,0<=j/\j<n/\(u.Cell=(rd L j).Cell∨(0<=rd aL j/\rd aL j<=3/\u.Cell=cD w h (rd L j).Cell (rd aL j)/\0<=u.Cell)):=by
 intro n
 induction n with
 |zero=>intro _ u hu;simp[pN] at hu
 |succ n ih=>
  intro hn u hu;rw[Lv hm U] at hu;rcases List.mem_append.1 hu with z |z
  ·obtain⟨j,j0,j1,q⟩:=ih U u z;exact⟨j,j0,by omega,q⟩
  ·split at z
   ·rename_i y;simp only[List.mem_cons,List.not_mem_nil,or_false] at z;subst z;refine⟨n,by omega,by omega,?_⟩
    simp only;unfold D7 at y⊢;split at y
    ·rename_i c;rw[af c];split at y
     ·omega
     ·rename_i g;rw[ah g];refine .inr ?_;have hc:=c.1;unfold dx at hc;have hd:0<=rd aL (n:Int)/\rd aL (n:Int)<=3:=Classical.byContradiction λq=>by rw[ah q] at hc;omega
      refine⟨hd.1,hd.2,?_,y⟩
      show dx w h (rd L (n:Int)) (rd aL (n:Int))=_
      unfold dx;rw[af hd]
    ·rename_i c;rw[ah c];exact .inl J
   ·simp at z
theorem aiJ (h:nT S k most b L) (hb:0<=b/\b<=60000000000) {o:dn} (hk:o.Kind=7) {c:eI} {C:d_} (h1:S.nav.core=some c) (h2:S.eY=some C) (h3:CS C c.aI.m.W c.aI.m.H most L) (h4:500000*C.cT.next<=b) (h5: ∀u∈L,fI c.aI u.Cell≠255):
 Ok (xM.f S a0) (λr=>Ends k most (b+500000) S L o (r.1,r.2.1,r.2.2)):=by
 obtain⟨ord,hn⟩:=h.nav;have hG:=(hn.core c h1).1.gs;have hmb:=h.mb;have JA:=h3.jd;have hm:=h3.UC;have mB:(jL c.aI.m.W c.aI.m.H L).length<=L.length:=by
  have:=J5 _ (Ow hm).some_;rw[Ko] at this;exact this
 unfold xM.f;rw[h2];refine Ok.opt (Ok.eq (QZ h3) ((aaK hn ⟨hb.1,by omega⟩ h1 hm U (λu hu=>(h3.ok u hu).2.1.2)).bind λr hr=>?_))
 obtain⟨r1,pe,qF,r2,r3,⟨c',r4,VW⟩,r5,r6,r7⟩:=hr;rw[r1,r2];refine Ok.neg (by simp[Er.isNil]) ?_
 simp only[h2];have ad1:K7 r.1 L.length:=by
  refine⟨r6,λd hd=>?_⟩
  obtain⟨j,j0,j1,rfl⟩:=jJ hd;obtain⟨R,l,f,d1,d2,d3,d4,d5,d6⟩:=r7 j j0 U;have hc:=(h3.ok _ (dN j0 U)).1;have lS:=CM hG hc.2;rw[d6,d5.dir _ lS.1 lS.2.1];exact aaS _
 obtain⟨C',e1,e2,e3⟩:=aaG h3 ad1;refine Ok.opt (Ok.eq e1 (Ok.eq J (Ok.pure ⟨(gL c.aI.m.W c.aI.m.H L r.1).1,⟨h.m_,h.mb,⟨qF,r3.mono U⟩,.inr ⟨c',C',r4,J,by rw[VW];exact e2,by omega,λu hu=>?_⟩,λc3 va=>?_⟩,.inl ⟨J,J,.inr (.inr (.inr (.inr (.inr ⟨hk,c,r.1,h1,hm,r5,r6,r7,J,J,J⟩))))⟩⟩)))
 ·rw[VW];have oZ:u∈pN (dG c.aI.m.W c.aI.m.H L r.1 L.length) L.length:=by
   unfold gL at hu;unfold pN;rw[List.take_of_length_le (by have:=(yA hm r.1 L.length (Nat.le_refl _)).len;omega)]
   exact hu
  obtain⟨j,j0,j1,q⟩:=XT hm L.length (Nat.le_refl _) u oZ;have hj:=dN j0 j1;rcases q with q |⟨q0,q3,q4,q5⟩
  ·rw[q];exact h5 _ hj
  ·obtain⟨R,l,f,d1,d2,d3,d4,d5,d6⟩:=r7 j j0 j1;have:=aaJ hG d3 (h3.ok _ hj).1.2 d4 d5 d6 q0 q3;rw[q4];exact this.2
 ·simp only at va⊢;rcases abb r5 with⟨_,z⟩ |⟨_,z1,c4,z2,z3⟩
  ·rw[z] at va⊢;exact h.kp c3 va
  ·rw[z2] at va;simp only[Option.some.injEq] at va;subst va;exact⟨λ_=>z1,λ_=>z3⟩
theorem ahL {ord:List Int} {c:eI} (hn:gW S.nav k b ord) (h1:S.nav.core=some c) (o:dn):
 Ok (ur.f S o) (λe=>(e=Er.nil/\(o.Kind=3∨o.Kind=2->cO c.aI.m o.A))∨(e=Er.num 148 7/\o.Kind≠8)):=by
 have hG:=(hn.core c h1).1.gs;have cu: ∀x,fI c.aI x≠0->cO c.aI.m x:=λx hx=>Classical.byContradiction λz=>hx (by unfold fI;rw[ah z])
 unfold ur.f;refine Ok.ite (λq=>Ok.eq (Kf hn h1 _) (Ok.ite (λ_=>Ok.pure (.inr ⟨J,by simp at q;omega⟩)) λ_=>Ok.eq (Kf hn h1 _) (Ok.ite (λ_=>Ok.pure (.inr ⟨J,by simp at q;omega⟩)) λz=>Ok.pure (.inl ⟨J,λ_=>cu _ (by simpa using z)⟩)))) λq=>Ok.ite (λq=>Ok.eq (Kf hn h1 _) (Ok.ite (λ_=>Ok.pure (.inr ⟨J,by simp at q;omega⟩)) λz=>Ok.pure (.inl ⟨J,λ_=>cu _ (by simpa using z)⟩))) λq'=>Ok.pure (.inl ⟨J,λz=>?_⟩)
 simp at q q';omega
theorem Ends.mono {o:dn} {r:Er×bJ×iZ} {b':Int} (h:Ends k most b S L o r) (hb:b<=b'):Ends k most b' S L o r:=by
 obtain⟨L',h1,h2⟩:=h;exact⟨L',h1.mono hb,h2⟩
theorem ahR (h:nT S k most b L) (hb:0<=b/\b<=60000000000) {o:dn} (ho:rj o):Ok (xH.f S o a0) (Ends k most (b+500000) S L o):=by
 obtain⟨ord,hn⟩:=h.nav;unfold xH.f;have no: ∀e:Er,(e=Er.dS 0∨ ∃c,c≠0/\e=Er.num 148 c)->o.Kind≠8->Ends k most (b+500000) S L o (e,S,a0):=λe he h8=>⟨L,h.mono U,.inr ⟨he,J,J,h8⟩⟩
 by_cases Nu:o.Kind=0
 ·rw[af (by simpa using Nu)]
  exact Ok.eq J (Ok.pos J (Ok.pure (no _ (.inl J) U)))
 rw[ah (by simpa using Nu),ago ho Nu]
 refine Ok.eq J (Ok.neg bk ?_);have hkr:=ho.k;have fin: ∀(r:Er×bJ×iZ),Ends k most (b+500000) S L o r->Ok (some (r.1,r.2.1,iZ.mk r.2.2.Code r.2.2.D r.2.2.cz r.2.2.Id r.2.2.fi r.2.2.ik (gv.mk r.2.2.Stats.bC r.2.2.Stats.bD r.2.2.Stats.bA r.2.2.Stats.bx r.2.2.Stats.bM r.2.2.Stats.bE))) (Ends k most (b+500000) S L o):=λr hr=>Ok.pure hr
 rcases h.cr with⟨n1,n2,n3⟩ |⟨c,C,h1,h2,h3,h4,h5⟩
 ·rw[n2];have e:(c_ (none:Option d_) (if(o.Kind !=1)=true then(some (o.Kind !=8)) else(some false)) (λx6=>some false))=some (decide (o.Kind≠1/\o.Kind≠8)):=by
   show(if(o.Kind !=1)=true then _ else _)=_
   by_cases z:o.Kind=1
   ·rw[ah (by simp[z])];simp[z]
   ·rw[af (by simpa using z)];simp only[Option.some.injEq];rw[Bool.eq_iff_iff];simp[z]
  refine Ok.eq e (Ok.ite (λw=>Ok.pure (no _ (.inr ⟨4,by omega,J⟩) (of_decide_eq_true w).2)) λq=>?_)
  have q:o.Kind=1∨o.Kind=8:=by have:=of_decide_eq_false (by simpa using q:decide (o.Kind≠1/\o.Kind≠8)=false);omega
  have ec:ur.f S o=some Er.nil:=by
   unfold ur.f;rw[ah bl,ah bl]
  refine Ok.eq ec (Ok.neg (by simp[Er.isNil]) ?_)
  rcases q with q |q
  ·rw[af (by simpa using q)]
   obtain⟨r,er,hr⟩:=Ws h ⟨hb.1,by omega⟩ ho q
   rw[er];exact Ok.eq J (fin (r.1,r.2,a0) (hr.mono U))
  ·rw[ah (by simp[q]),af (by simpa using q)]
   obtain⟨n',e1,e2,e3,e4,e5,e6⟩:=UO hn;have e6:n'.core=none:=by
    rcases e6 with z |⟨c,z,_⟩
    ·exact z.2
    ·rw[n1] at z;simp at z
   rw[e1];refine Ok.eq J (fin (Er.nil,⟨S.most,n',none⟩,a0) ⟨L,⟨h.m_,h.mb,⟨[],e2.mono U⟩,.inl ⟨e6,J,n3⟩,λc hc=>by simp only at hc;rw[e6] at hc;simp at hc⟩,.inl ⟨J,J,.inr (.inl ⟨q,J,J,(Ep e2.mC).1 J,e3,.inl ⟨n1,e6⟩⟩)⟩⟩)
 ·rw[h2];refine Ok.eq (v:=false) J (Ok.neg bk ?_);refine(ahL hn h1 o).bind λe he=>?_
  rcases he with⟨rfl,cu⟩ |⟨rfl,h8⟩
  rotate_left
  ·exact Ok.pos J (Ok.pure (no _ (.inr ⟨7,by omega,J⟩) h8))
  refine Ok.neg (by simp[Er.isNil]) ?_
  by_cases k1:o.Kind=1
  ·rw[af (by simpa using k1)]
   obtain⟨r,er,hr⟩:=Ws h ⟨hb.1,by omega⟩ ho k1
   rw[er];exact Ok.eq J (fin (r.1,r.2,a0) (hr.mono U))
  rw[ah (by simpa using k1)]
  by_cases k8:o.Kind=8
  ·rw[af (by simpa using k8)]
   obtain⟨n',e1,e2,e3,e4,e5,e6⟩:=UO hn;rcases e6 with z |⟨c2,z1,z2⟩
   ·rw[h1] at z;simp at z
   rw[h1] at z1;simp only[Option.some.injEq] at z1;subst z1;rw[e1];refine Ok.eq J (fin (Er.nil,⟨S.most,n',some C⟩,a0) ⟨L,⟨h.m_,h.mb,⟨[],e2.mono U⟩,.inr ⟨_,C,z2,J,h3,by omega,h5⟩,λc' jX=>?_⟩,.inl ⟨J,J,.inr (.inl ⟨k8,J,J,(Ep e2.mC).1 J,e3,.inr ⟨c,h1,z2⟩⟩)⟩⟩)
   simp only at jX⊢;rw[z2] at jX;simp only[Option.some.injEq] at jX;subst jX;rw[(Ep e2.mC).1 J];simp
  rw[ah (by simpa using k8)]
  by_cases k2:o.Kind=2
  ·rw[af (by simpa using k2)]
   obtain⟨r,er,hr⟩:=ahX h ⟨hb.1,by omega⟩ ho k2 h1 h2 h3 h4 h5 (cu (.inr k2))
   rw[er];exact Ok.eq J (fin (r.1,r.2,a0) (hr.mono U))
  rw[ah (by simpa using k2)]
  by_cases k3:o.Kind=3
  ·rw[af (by simpa using k3)]
   obtain⟨r,er,hr⟩:=aiy h hb k3 h1 h2 h3 h4 h5;rw[er];exact Ok.eq J (fin (r.2.1,r.2.2,⟨0,0,5,r.1,[],[],⟨0,0,0,0,0,0⟩⟩) ((hr _ J J).mono U))
  rw[ah (by simpa using k3)]
  by_cases k4:o.Kind=4
  ·rw[af (by simpa using k4)]
   obtain⟨C',e1,e2,e3⟩:=aay h3 o.A o.B;have hS:nT ⟨S.most,S.nav,some C'⟩ k most (b+500000) (wG c.aI.m.W c.aI.m.H L o.A o.B).2:=⟨h.m_,h.mb,⟨ord,hn.mono U⟩,.inr ⟨c,C',h1,J,e2,by omega,λu hu=>by
    unfold wG at hu
    repeat' split at hu
    all_goals first
     |exact h5 u hu
     |exact h5 u (Mc hu)
     |(unfold gC at hu
       obtain⟨x,hx,rfl⟩:=List.mem_map.1 hu;split
       ·exact h5 x hx
       ·exact h5 x hx)⟩,h.kp⟩
   refine Ok.bind (P:=λr=>r=((if(wG c.aI.m.W c.aI.m.H L o.A o.B).1=0 then Er.nil else Er.num 148 (wG c.aI.m.W c.aI.m.H L o.A o.B).1),(0:Int),(0:Int),(5:Int),(-1:Int),([]:List fc),([]:List Int),(0:Int),(0:Int),(0:Int),(0:Int),(0:Int),(0:Int),(⟨S.most,S.nav,some C'⟩:bJ))) (Ok.opt (Ok.eq e1 (Ok.eq (OG _) (Ok.pure J)))) λr hr=>?_
   subst hr;refine fin ((if(wG c.aI.m.W c.aI.m.H L o.A o.B).1=0 then Er.nil else Er.num 148 (wG c.aI.m.W c.aI.m.H L o.A o.B).1),⟨S.most,S.nav,some C'⟩,a0) ⟨_,hS,?_⟩
   by_cases z:(wG c.aI.m.W c.aI.m.H L o.A o.B).1=0
   ·rw[af z];exact .inl ⟨J,J,.inr (.inr (.inr (.inl ⟨.inr (.inl k4),J,J⟩)))⟩
   ·rw[ah z];exact .inr ⟨.inr ⟨_,z,J⟩,J,J,by omega⟩
  rw[ah (by simpa using k4)]
  by_cases k5:o.Kind=5
  ·rw[af (by simpa using k5)]
   obtain⟨C',e1,e2,e3⟩:=aab h3 o.A;have hS:nT ⟨S.most,S.nav,some C'⟩ k most (b+500000) (wF L o.A).2:=⟨h.m_,h.mb,⟨ord,hn.mono U⟩,.inr ⟨c,C',h1,J,e2,by omega,λu hu=>by
    unfold wF at hu;split at hu
    ·exact h5 u (Mc hu)
    ·exact h5 u hu⟩,h.kp⟩
   refine Ok.bind (P:=λr=>r=((if(wF L o.A).1=0 then Er.nil else Er.num 148 (wF L o.A).1),(0:Int),(0:Int),(5:Int),(-1:Int),([]:List fc),([]:List Int),(0:Int),(0:Int),(0:Int),(0:Int),(0:Int),(0:Int),(⟨S.most,S.nav,some C'⟩:bJ))) (Ok.opt (Ok.eq e1 (Ok.eq (OG _) (Ok.pure J)))) λr hr=>?_
   subst hr;refine fin ((if(wF L o.A).1=0 then Er.nil else Er.num 148 (wF L o.A).1),⟨S.most,S.nav,some C'⟩,a0) ⟨_,hS,?_⟩
   by_cases z:(wF L o.A).1=0
   ·rw[af z];exact .inl ⟨J,J,.inr (.inr (.inr (.inl ⟨.inr (.inr k5),J,J⟩)))⟩
   ·rw[ah z];exact .inr ⟨.inr ⟨_,z,J⟩,J,J,by omega⟩
  rw[ah (by simpa using k5)]
  by_cases k6:o.Kind=6
  ·rw[af (by simpa using k6)]
   obtain⟨r,er,hr⟩:=aiw h ⟨hb.1,by omega⟩ k6 h1 h2 h3 h4 h5
   rw[er];exact Ok.eq J (fin r (hr.mono U))
  rw[ah (by simpa using k6),af bl]
  obtain⟨r,er,hr⟩:=aiJ h ⟨hb.1,by omega⟩ (show o.Kind=7 by omega) h1 h2 h3 h4 h5
  rw[er];exact Ok.eq J (fin r (hr.mono U))
theorem ahN (q c:Int):C1.f (Er.wrap 110 [q] (Er.num 148 c))=some c:=rfl
theorem ahM (q:Int):C1.f (Er.wrap 110 [q] (Er.dS 0))=some 5:=rfl
theorem Xc (h:nT S k most b L) (hb:0<=b/\b<=60000000000) {o:dn} (ho:rj o):
 Ok (lW.f S o) (λr=> ∃L',nT r.2 k most (b+500000) L'/\r.1.Stats=gd r.2.nav/\((r.1.Code=0/\Pw k S L o r.2 L' r.1)∨(r.1.Code≠0/\r.2.nav=S.nav/\r.1.fi=[]/\o.Kind≠8))):=by
 unfold lW.f;refine(ahR h hb ho).bind λr hr=>?_
 obtain⟨L',h1,h2⟩:=hr;obtain⟨ord,hn⟩:=h1.nav;have mc:zt.f r.2.1=some (gd r.2.1.nav):=by
  unfold zt.f;rw[aiA hn ⟨by omega,by omega⟩];rfl
 rcases h2 with⟨e,z,q⟩ |⟨e |⟨c,c0,e⟩,z,q⟩
 ·rw[e];exact Ok.neg (by simp[Er.isNil]) (Ok.eq mc (Ok.pure ⟨L',h1,J,.inl ⟨z,q⟩⟩))
 ·rw[e];exact Ok.pos J (Ok.eq (ahM _) (Ok.eq mc (Ok.pure ⟨L',h1,J,.inr ⟨by simp,z,q⟩⟩)))
 ·rw[e];exact Ok.pos J (Ok.eq (ahN _ _) (Ok.eq mc (Ok.pure ⟨L',h1,J,.inr ⟨c0,z,q⟩⟩)))
end
theorem Zf:ED.f=some true:=ay
section
variable {S : bJ} {k most b : Int} {L : List aF}
theorem aij {k most:Int} (k1:1<=k) (k2:k<=1000000) (m1:1<=most) (m2:most<=100): ∃S,tm.f k most=some (some S)/\nT S k most 0 []/\S.nav.core=none/\gd S.nav=⟨0,0,0,0,0,0⟩:=by
 obtain⟨n,e,h1,h2,h3⟩:=af' k1 k2;unfold tm.f;rw[ah bl,e];exact⟨_,J,⟨J,⟨m1,m2⟩,⟨[],h1⟩,.inl ⟨h2,J,J⟩,λc hc=>by simp only at hc;rw[h2] at hc;simp at hc⟩,h2,h3⟩
def GF (S:bJ):aJ:=match S.nav.core with |none=>⟨0,0,[]⟩ |some c=>c.aI.m
def Gt (S:bJ):Bool:=match S.nav.core with |none=>false |some c=>c.gZ.kept.isSome
theorem afw {c:eI} (hc:S.nav.core=some c):GF S=c.aI.m:=by unfold GF;rw[hc]
theorem aih (h:nT S k most b L):xG.f S=some (GF S):=by
 obtain⟨ord,hn⟩:=h.nav;unfold xG.f GF
 cases hc:S.nav.core with
 |none=>unfold vx.f;rw[hc];rfl
 |some c=>rw[af_ hn hc];rfl
theorem aif {ord:List Int} (hn:gW S.nav k b ord):xF.f S=some (ord.map λc=>(rd S.nav.eh.keys.ak c).key):=by
 unfold xF.f;rw[af7 hn];rfl
theorem aie (S:bJ): ∃x,C0.f S=some (x,Gt S):=by
 unfold C0.f D9.f Gt
 cases S.nav.core with
 |none=>exact⟨_,J⟩
 |some c=>
  cases hk:c.gZ.kept with
  |none=>exact⟨0,by simp[c_,CD.f,hk]⟩
  |some R=>exact⟨R.goal,by simp[c_,CD.f,hk]⟩
structure PC (S:bJ) (k:Int) (K:List (Int×Int)):Prop where
 jd:(K.length:Int)<=k
 nd:K.Nodup
 len_:K=[]↔S.nav.eh.keys.ak=[]
 ok: ∀c,S.nav.core=some c-> ∀p∈K,cO c.aI.m p.1/\bG c.aI.m.W c.aI.m.H p.2
 no:S.nav.core=none->K=[]
theorem aeQ {ord:List Int} (hn:gW S.nav k b ord):PC S k (ord.map λc=>(rd S.nav.eh.keys.ak c).key):=by
 have hl:=hn.mC;have hlen:=U2 hl.nd hl.mem;refine⟨by simp;have:=hl.jd;omega,?_,by rw[List.map_eq_nil_iff];exact Ep hl,λc hc p hp=>?_,λhc=>by rw[(hn.none_ hc).2];rfl⟩
 ·unfold List.Nodup;rw[List.pairwise_map];refine hl.nd.imp_of_mem λ{x y} hx hy B4 e=>B4 ?_
  obtain⟨x0,x1⟩:=(hl.mem x).1 hx;obtain⟨y0,y1⟩:=(hl.mem y).1 hy;have a:=(hl.sl (rd S.nav.eh.keys.ak x).key x).2 ⟨x0,x1,J⟩;have b:=(hl.sl (rd S.nav.eh.keys.ak x).key y).2 ⟨y0,y1,e.symm⟩;rw[a] at b;exact Option.some.inj b
 ·obtain⟨x,hx,rfl⟩:=List.mem_map.1 hp;obtain⟨x0,x1⟩:=(hl.mem x).1 hx;have tV:=(hn.core c hc).2.2.2;have:=tV.ok x x0 (by rw[tV.fl];exact x1)
  exact⟨this.1,this.2.1⟩
theorem aa7 (l:List sG) {n:Int} (h:0<=n): ∃r,vX.f l n=some r:=by
 unfold vX.f
 by_cases z:n<(l.length:Int)
 ·simp only[af z];exact⟨n,by rw[af U]⟩
 ·simp only[ah z];exact⟨_,by rw[af U]⟩
end
theorem aeO {K:List (Int×Int)} (hn:K.Nodup) (hl:K.length<=1000) {j:Int} (j0:0<=j) (j1:j<K.length): ∀(n m:Nat) (q:Int),(j-q).toNat<=n->n<m->0<=q->q<=j->fT.l2 m K j q=some (Sum.inr ()):=by
 intro n
 induction n with
 |zero=>
  intro m q hq hm q0 q1;obtain⟨m,rfl⟩:=bh hm;rw[fT.l2,ah U]
 |succ n ih=>
  intro m q hq hm q0 q1;obtain⟨m,rfl⟩:=bh hm
  by_cases z:q<j
  ·have bH:rd K q≠rd K j:=sT hn q0 z j1;rw[fT.l2,af z,af U,af U,ah (by
    intro w;simp only[Bool.and_eq_true,beq_iff_eq] at w;exact bH (Prod.ext w.1 w.2)),wi U U]
   exact ih m (q+1) U U U U
  ·rw[fT.l2,ah z]
theorem aeN {S:bJ} {k most b:Int} {L:List aF} (h:nT S k most b L) {K:List (Int×Int)} (hK:PC S k K) (hk:k<=5) (a:iZ) {m:aJ} (hm:m=GF S): ∀(n q:Nat) (j:Int),(K.length-j).toNat<=n->n<q->0<=j->fT.l1 q m (a,S) K j=some (Sum.inr S):=by
 have hf:=hK.jd;intro n
 induction n with
 |zero=>
  intro q j hn hq j0;obtain⟨q,rfl⟩:=bh hq;rw[fT.l1,ah U]
 |succ n ih=>
  intro q j hn hq j0;obtain⟨q,rfl⟩:=bh hq
  by_cases z:j<K.length
  ·obtain⟨ord,hN⟩:=h.nav
   cases hc:S.nav.core with
   |none=>rw[hK.no hc] at z;simp at z;omega
   |some c=>
    rw[afw hc] at hm;obtain⟨k1,k2⟩:=hK.ok c hc _ (dN j0 z);have hl:=(hN.core c hc).1.gs.ok.2.1;have e:(if(0<=j/\j<(List.length K:Int)) then(if(rd K j).1<0 then(some true) else(if(rd K j).1≥(List.length m.C:Int) then(some true) else(if(rd K j).2<0 then(some true) else((ui.f m.W m.H).bind λv24=>some (decide ((rd K j).2≥v24)))))) else none)=some false:=by
     rw[hm,af ⟨j0,z⟩,ah (by have:=k1.1;omega),ah (by rw[hl];have:=k1.2;omega),ah (by have:=k2.1;omega),Kt,aK,decide_eq_false (by have:=k2.2;omega)]
    rw[fT.l1,af z,e,aK,ah bk,aeO hK.nd U j0 z 1000 fuel 0 U (by rw[cH];omega) U j0,aK,wi U U]
    exact ih q (j+1) U U U
  ·rw[fT.l1,ah z]
theorem aeM {k:Int} (hk:1<=k/\k<=5) {x:List dn} (hx: ∀o∈x,rj o) (hl:x.length<=61): ∀(n q:Nat) (S:bJ) (i b:Int) (L:List aF),(x.length-i).toNat<=n->n<q->0<=i->i<=x.length->nT S k 5 b L->b=500000*i->fT.l0 q k x S i=some true:=by
 have fin: ∀(q:Nat) (S:bJ) (i:Int),¬i<x.length->fT.l0 (q+1) k x S i=some true:=λq S i hi=>by
  rw[fT.l0,ah hi,Zf];rfl
 intro n
 induction n with
 |zero=>
  intro q S i b L hn hq h0 hi h hb;obtain⟨q,rfl⟩:=bh hq;exact fin q S i U
 |succ n ih=>
  intro q S i b L hn hq h0 hi h hb;obtain⟨q,rfl⟩:=bh hq
  by_cases z:i<x.length
  ·have ho:=hx _ (dN h0 z);obtain⟨⟨a,S'⟩,e,L',h',mc,Ti⟩:=Xc h U ho;simp only at h' mc Ti;obtain⟨ord,hN⟩:=h'.nav;have hK:=aeQ hN;obtain⟨g,eg⟩:=aie S';generalize hKk:(ord.map λc=>(rd S'.nav.eh.keys.ak c).key)=K at hK;have ek:=aif hN;rw[hKk] at ek;have aeb:Gt S'=decide ((K.length:Int)>0):=by
    unfold Gt
    cases hc:S'.nav.core with
    |none=>rw[hK.no hc];rfl
    |some c=>
     have h1:=h'.kp c hc;have h2:=hK.len_;rw[Bool.eq_iff_iff,decide_eq_true_iff,h1,ne_eq,<-not_congr h2,<-List.length_eq_zero_iff];omega
   have adZ:(if((decide ((List.length K:Int)>k))||(!(Gt S'==(decide ((List.length K:Int)>0)))))=true then(some true) else(if(0<=i/\i<(List.length x:Int)) then(if((rd x i).Kind==8)=true then(some ((List.length K:Int)!=0)) else(if((rd x i).Kind==1)=true then(if(a.Code==0)=true then(some ((List.length K:Int)!=0)) else(some false)) else(some false))) else none))=some false:=by
    have Tk:(rd x i).Kind=8∨((rd x i).Kind=1/\a.Code=0)->(K.length:Int)=0:=λw=>by
     have hs:S'.nav.eh.keys.ak=[]:=by
      rcases Ti with⟨c0,y |y |y |y |y |y⟩ |⟨c0,y,_,y8⟩
      ·exact y.2.2.2.1
      ·exact y.2.2.2.1
      ·have:=y.1;omega
      ·have:=y.1;omega
      ·have:=y.1;omega
      ·have:=y.1;omega
      ·rcases w with w |w
       ·exact absurd w y8
       ·exact absurd w.2 c0
     rw[hK.len_.2 hs];rfl
    rw[aeb,ah (by have:=hK.jd;simp;omega),af ⟨h0,z⟩]
    by_cases w8:(rd x i).Kind=8
    ·rw[af (by simpa using w8),Tk (.inl w8)];rfl
    ·rw[ah (by simpa using w8)]
     by_cases w1:(rd x i).Kind=1
     ·rw[af (by simpa using w1)]
      by_cases wc:a.Code=0
      ·rw[af (by simpa using wc),Tk (.inr ⟨w1,wc⟩)];rfl
      ·rw[ah (by simpa using wc)]
     ·rw[ah (by simpa using w1)]
   rw[fT.l0,af z,af (c:=0<=i/\i<(List.length x:Int)) ⟨h0,z⟩,e,aK,aih h',aK,ek,aK,eg,aK];simp only;rw[adZ,aK,ah bk,aeN h' hK hk.2 a J 1000 fuel 0 (by have:=hK.jd;omega) (by rw[cH];omega) U,aK,wi U U]
   exact ih q S' (i+1) (b+500000) L' U U U U h' U
  ·exact fin q S i z
theorem XG:fT.Pure:=by
 intro p0 w h p3 l _ _ _ hp3 _ _ _;unfold fT.f;obtain⟨r,er⟩:=aa7 l (n:=50) U;obtain⟨x,ex,tY,yN,vn⟩:=ahO w h hp3 (aA l 0 r);have hw:=K4 (n:=p0) (lo:=1) (hi:=5) U;rw[K3 U U U U,aK,er,aK,ex,aK];generalize 1+p0%(5-1+1)=k at hw⊢;obtain⟨S,eS,hS,_⟩:=aij (k:=k) (most:=5) U U U U;rw[eS,aK];exact aeM hw vn yN 61 fuel S 0 0 [] U (by rw[cH];omega) U U hS U
end Go.Proofs.YthodkonhneebbaaGreatDoor
