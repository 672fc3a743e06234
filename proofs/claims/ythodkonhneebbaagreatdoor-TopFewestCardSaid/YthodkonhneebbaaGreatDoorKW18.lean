/- What the functions do, in plain Lean, on the objects that are kept in order. -/
import Derived.KernelRfl
import Derived.Test.YthodkonhneebbaaGreatDoorKW17
import Derived.Test.YthodkonhneebbaaGreatDoorKW16
import Derived.Test.YthodkonhneebbaaGreatDoorKW13
namespace Go.Proofs.YthodkonhneebbaaGreatDoor
open Go.Hx
set_option linter.unusedVariables false
set_option linter.unusedSimpArgs false
variable {c : eA} {w h most : Int} {L : List aD}
theorem CS.Ov (hc:CS c w h most L):fv w h L:=by
 refine⟨hc.may,λj j0 j1=>?_⟩
 have hm:=dZ j0 j1;obtain⟨a,b,d⟩:=hc.ok _ hm;refine⟨?_,a,b,λq q0 q1 e=>?_⟩
 ·split
  ·have:=(hc.us.GH hm).1;omega
  ·have:=uv hc.us.up (i:=j-1) (j:=j) U U bp;rwa[zs U U,zs U U] at this
 ·have h1:=hc.inj (dZ q0 U) hm e;have:=uv hc.us.up (i:=q) (j:=j) q0 q1 bp;rw[zs U U,zs U U,h1] at this;omega
theorem aje {k:Int} {v:aD} {p:aD->Bool} (hv:p v=false) (l:List aD):(gM l k (λ_=>v)).filter p=mg (l.filter p) k:=by
 unfold gM mg
 induction l with
 |nil=>rfl
 |cons x r ih=>
  rw[List.map_cons]
  by_cases e:x.Id=k
  ·rw[af e,List.filter_cons,hv,ih]
   by_cases q:p x=true
   ·simp[q,e]
   ·simp[q]
  ·rw[ah e,List.filter_cons,ih]
   by_cases q:p x=true
   ·rw[af q,List.filter_cons,af q,List.filter_cons,af (by simpa using e)]
   ·rw[ah q,List.filter_cons,ah q]
theorem ajf {k:Int} {v:aD} {p:aD->Bool} (hv:p v=true) (l:List aD) (hl: ∀x∈l,x.Id=k->p x=true):(gM l k (λ_=>v)).filter p=gM (l.filter p) k (λ_=>v):=by
 unfold gM
 induction l with
 |nil=>rfl
 |cons x r ih=>
  have UF:=ih (λy hy=>hl y (by simp[hy]))
  rw[List.map_cons]
  by_cases e:x.Id=k
  ·rw[af e,List.filter_cons,af hv,UF,List.filter_cons,af (hl x bh e),List.map_cons,af e]
  ·rw[ah e,List.filter_cons,UF]
   by_cases q:p x=true
   ·rw[af q,List.filter_cons,af q,List.map_cons,ah e]
   ·rw[ah q,List.filter_cons,ah q]
abbrev Ln (w h:Int) (L:List aD) (aF:List Int) (n:Nat):List aD:=(dE w h L aF n).1.filter (λx=>decide (0<=x.Cell))
theorem ais {l:List aD} {n:Nat} (hn:n<l.length) (mw: ∀i j:Int,0<=i->i<l.length->0<=j->j<l.length->i≠j->(rd l i).Id≠(rd l j).Id) (v:aD):l.set n v=gM l (rd l (n:Int)).Id (λ_=>v):=by
 refine zp (by simp[gM]) (λi i0 i1=>?_)
 rw[List.length_set] at i1;unfold gM;rw[zs i0 i1];have:=ln (L:=l) (i:=(n:Int)) (c:=i) (v:=v) U U i0;rw[show((n:Int)).toNat=n by simp] at this
 rw[this]
 by_cases e:i=n
 ·rw[af e,e,af J]
 ·rw[ah e,ah (mw i n i0 i1 U U e)]
theorem afH (hm:fv w h L) (aF:List Int) {n:Nat} (hn:n<L.length):Ln w h L aF (n+1)=
 if sT w h L aF n then(if lM w h L aF n=(rd L (n:Int)).Goal then mg (Ln w h L aF n) (rd L (n:Int)).Id else gM (Ln w h L aF n) (rd L (n:Int)).Id (λ_=>⟨(rd L (n:Int)).Id,lM w h L aF n,(rd L (n:Int)).Goal⟩)) else Ln w h L aF n:=by
 have hi:=yI hm aF n U;have hl:=hi.len
 show(kE w h (dE w h L aF n) n (rd L (n:Int)) (rd aF (n:Int))).1.filter _=_
 unfold kE;have mw: ∀i j:Int,0<=i->i<(dE w h L aF n).1.length->0<=j->j<(dE w h L aF n).1.length->i≠j->(rd (dE w h L aF n).1 i).Id≠(rd (dE w h L aF n).1 j).Id:=by
  intro i j i0 i1 j0 j1 rK;rw[(hi.same i i0 U).1,(hi.same j j0 U).1];rcases Int.lt_or_gt_of_ne rK with q |q
  ·have:=hm.Cn i0 q U;omega
  ·have:=hm.Cn j0 q U;omega
 by_cases z:sT w h L aF n
 ·rw[af z,af z];simp only;rw[show((n:Int)).toNat=n by simp,ais U mw,hi.rest n U U]
  by_cases g:lM w h L aF n=(rd L (n:Int)).Goal
  ·rw[af g,af g];exact aje bh _
  ·rw[ah g,ah g];have vC:0<=lM w h L aF n:=z.1;refine ajf (by simpa using vC) _ (λx hx e=>?_)
   obtain⟨j,j0,j1,rfl⟩:=jT hx;have:j=n:=Classical.byContradiction λq=>by
    have:=mw j n j0 j1 U U q;rw[hi.rest n U U] at this;exact this e
   subst this;rw[hi.rest n U U];simpa using(hm.cell U U).2.1
 ·rw[ah z,ah z]
theorem abL {f:fJ} {n:Int} (hf:FS f n L) (GC:(L.map (·.Id)).Pairwise (· < ·)) {x:aD} (hx:x∈L) (i0:0<=x.Id) {to:Int} (t0:0<=to) (t1:to<n) (gL: ∀y∈L,y.Cell≠to):
 FS (iA (iA f x.Cell 0 (-1)) to (x.Id+1) 1) n (gM L x.Id (λ_=>⟨x.Id,to,x.Goal⟩)):=by
 obtain⟨h0,h1,h2⟩:=hf.at_ x hx;have hr:=hf.fl.2 x.Cell h0 h1;have TV:sb n (iA f x.Cell 0 (-1)):=HK hf.fl h0 h1 U U;have N2: ∀d,0<=d->rd (iA (iA f x.Cell 0 (-1)) to (x.Id+1) 1).words d=if d=to then x.Id+1 else if d=x.Cell then 0 else rd f.words d:=by
  intro d d0;rw[A4 TV t0 t1 d0,A4 hf.fl h0 h1 d0]
 refine⟨HK TV t0 t1 U U,by simp[iA,hf.eI,gM];omega,λy hy=>?_,λd d0 d1 hd=>?_⟩
 ·unfold gM at hy;obtain⟨z,hz,rfl⟩:=List.mem_map.1 hy;obtain⟨a,b,e⟩:=hf.at_ z hz
  by_cases q:z.Id=x.Id
  ·rw[af q];exact⟨t0,t1,by rw[N2 to t0,af J]⟩
  ·rw[ah q];refine⟨a,b,?_⟩;rw[N2 _ a,ah (gL z hz),ah]
   ·exact e
   ·intro y;rw[y,h2] at e;omega
 ·rw[N2 d d0] at hd
  by_cases q:d=to
  ·refine⟨⟨x.Id,to,x.Goal⟩,List.mem_map.2 ⟨x,hx,by rw[af J]⟩,q.symm⟩
  ·rw[ah q] at hd
   by_cases z:d=x.Cell
   ·rw[af z] at hd;exact absurd J hd
   ·rw[ah z] at hd;obtain⟨y,hy,e⟩:=hf.only d d0 d1 hd;refine⟨y,List.mem_map.2 ⟨y,hy,?_⟩,e⟩;rw[ah (λk=>z (by rw[<-e,Cm GC hy hx k]))]
theorem ai_ (hm:fv w h L) (hb:L.length<=1000000) {aF:List Int} (nx:Int): ∀(m k n:Nat) (c:eA),n+m=L.length->m<k->CS c w h most (Ln w h L aF n)->c.cP.next=nx->
 ∃c',nD.l0 k ((e_ w h L aF).1,(e_ w h L aF).2.1,(e_ w h L aF).2.2,0) c ((dE w h L aF n).2.1.length:Int)=
  some ((e_ w h L aF).2.1,(e_ w h L aF).2.2,0,c')/\CS c' w h most (e_ w h L aF).1/\c'.cP.next=nx:=by
 intro m
 induction m with
 |zero=>
  intro k n c hn hk hc hx;obtain⟨k,rfl⟩:=bq hk;have:n=L.length:=U;subst this;refine⟨c,?_,hc,hx⟩;rw[nD.l0,ah (by simp[e_])]
 |succ m ih=>
  intro k n c hn hk hc hx;have aR:n<L.length:=U;have hi:=yI hm aF n U;obtain⟨m1,m2⟩:=af7 (aF:=aF) hm (n:=n) aR;have JU:=Oy (w:=w) (h:=h) (l:=L) (aF:=aF) n;have Ch:=afH hm aF aR;have NU:=hi.Ks
  by_cases z:sT w h L aF n
  ·obtain⟨k,rfl⟩:=bq hk;have hr:=m2 z;have ajV:=(m1.2 z).1;rw[af z] at JU Ch;have aev:((dE w h L aF (n+1)).2.1.length:Int)=((dE w h L aF n).2.1.length:Int)+1:=by rw[JU];simp
   have AN:rd L (n:Int)∈Ln w h L aF n:=by
    rw[List.mem_filter];have:rd (dE w h L aF n).1 (n:Int)=rd L (n:Int):=hi.rest n U U;refine⟨by rw[<-this];exact dZ U (by rw[hi.len];omega),?_⟩
    simpa using(hm.cell U U).2.1
   have ael:=PH hc.us.up AN;have Gk:zK (Ln w h L aF n) (rd L (n:Int)).Id=(rd L (n:Int),true):=by unfold zK;rw[ael]
   have abt:aD.mk (rd L (n:Int)).Id (rd L (n:Int)).Cell (rd L (n:Int)).Goal=rd L (n:Int):=rfl;rw[nD.l0,af (by simp only;omega),af (by simp only;omega)]
   simp only[hr,DS hc.us,Gk,aK];rw[wi U U,<-aev,abt];have aeu:=hc.us.GH AN
   by_cases g:lM w h L aF n=(rd L (n:Int)).Goal
   ·rw[af g] at Ch;obtain⟨c',e1,e2,e3⟩:=Md hc AN;rw[af (by simpa using g)]
    rw[e1,aK];exact ih k (n+1) c' U U (by rw[Ch];exact e2) U
   ·rw[ah g] at Ch;rw[ah (by simpa using g)]
    obtain⟨u',a1,a2,a3⟩:=af6 hc.us (rd L (n:Int)).Id (lM w h L aF n);have vC:=Sj z.1;have gL: ∀y∈Ln w h L aF n,y.Cell≠lM w h L aF n:=λy hy=>z.2 y (List.mem_filter.1 hy).1;have NA:=hc.fl.eI;have ajX:0<(Ln w h L aF n).length:=List.length_pos_iff.2 (List.ne_nil_of_mem AN);have hle:(Ln w h L aF n).length<=L.length:=by
     have:=List.length_filter_le (λx:aD=>decide (0<=x.Cell)) (dE w h L aF n).1;rw[hi.len] at this;exact this
    have hw:mT (w*h) c.floor (rd L (n:Int)).Cell=(rd L (n:Int)).Id:=by rw[Li hc,FM hc AN]
    have Cd:rE (w*h) c.floor (lM w h L aF n):=by
     refine⟨vC.2.1,vC.2.2,Classical.byContradiction λy=>?_⟩
     obtain⟨x,qc,e⟩:=hc.fl.only _ vC.2.1 vC.2.2 y;exact gL x qc e
    have es:Jd (w*h) c.floor (rd L (n:Int)).Cell (lM w h L aF n)=(true,iA (iA c.floor (rd L (n:Int)).Cell 0 (-1)) (lM w h L aF n) ((rd L (n:Int)).Id+1) 1):=by
     unfold Jd;rw[hw,af ⟨by omega,Cd⟩]
    rw[aiu hc.fl.fl U,es,a1];simp only[aK];have aeL:gM (Ln w h L aF n) (rd L (n:Int)).Id (λx=>⟨x.Id,lM w h L aF n,x.Goal⟩)=gM (Ln w h L aF n) (rd L (n:Int)).Id (λ_=>⟨(rd L (n:Int)).Id,lM w h L aF n,(rd L (n:Int)).Goal⟩):=by
     unfold gM;refine List.map_congr_left λy hy=>?_
     by_cases q:y.Id=(rd L (n:Int)).Id
     ·rw[af q,af q,Cm hc.us.up hy AN q]
     ·rw[ah q,ah q]
    rw[aeL] at a3;refine ih k (n+1) ⟨c.w,c.h,c.most,u',iA (iA c.floor (rd L (n:Int)).Cell 0 (-1)) (lM w h L aF n) ((rd L (n:Int)).Id+1) 1⟩ U U ?_ (by simp only;omega)
    rw[Ch];refine⟨hc.w_,hc.h_,hc.m_,hc.may,a3,abL hc.fl hc.us.up AN aeu.1 vC.2.1 vC.2.2 gL,λy hy=>?_,by simpa[gM] using hc.kD⟩
    unfold gM at hy;obtain⟨y',Ei,rfl⟩:=List.mem_map.1 hy;have vx:=hc.ok y' Ei;split
    ·exact⟨vC,(hc.ok _ AN).2.1,g⟩
    ·exact vx
  ·rw[ah z,List.append_nil] at JU;rw[ah z] at Ch;rw[<-JU];exact ih k (n+1) c U U (by rw[Ch];exact hc) hx
theorem aa2 (hc:CS c w h most L) {aF:List Int} (hd:Lm aF L.length): ∃c',nD.f c aF=some ((e_ w h L aF).2.1,(e_ w h L aF).2.2,0,c')/\CS c' w h most (e_ w h L aF).1/\c'.cP.next=c.cP.next:=by
 unfold nD.f;have hm:=hc.Ov;have jI:=hc.us.eI;have Gr:=hc.next
 rw[Mn hc,hc.w_,hc.h_];simp only[aK,go_ok hm U hd];rw[ah bh];have h0:Ln w h L aF 0=L:=by
  show L.filter _=L
  rw[List.filter_eq_self];intro x hx;simpa using(hc.ok x hx).1.2.1
 obtain⟨c',e1,e2,e3⟩:=ai_ (most:=most) hm U (aF:=aF) c.cP.next L.length fuel 0 c U (by rw[cO];omega) (by rw[h0];exact hc) J
 exact⟨c',e1,e2,e3⟩
theorem agn {w h most:Int} (hm:iE w h) (h1:1<=most) (h2:most<=65536): ∃c,vb.f w h most=some (some c)/\CS c w h most []/\c.cP.next=0:=by
 obtain⟨r,r1,r2,r3⟩:=aaJ w h most;have:=r2.2 ⟨hm,h1,h2⟩;obtain⟨c,rfl⟩:=Option.isSome_iff_exists.1 this;exact⟨c,r1,(r3 c J).1,(r3 c J).2⟩
section
structure jy (S:bT) (k most b:Int) (L:List aD):Prop where
 m_:S.most=most
 mb:1<=most/\most<=100
 nav: ∃ord,iv S.nav k b ord
 cr:(S.nav.core=none/\S.eZ=none/\L=[])∨ ∃c C,S.nav.core=some c/\S.eZ=some C/\CS C c.ay.m.W c.ay.m.H most L/\500000*C.cP.next<=b/\ ∀u∈L,fK c.ay u.Cell≠255
 kp: ∀c,S.nav.core=some c->(c.gJ.kept.isSome=true↔S.nav.cz.keys.ak≠[])
variable {S : bT} {k most b : Int} {L : List aD}
theorem O7 (c:Int):fP.f c=some (if c=0 then Er.nil else Er.num 148 c):=by
 unfold fP.f
 by_cases z:c=0<;>simp[z]
theorem RR {n:bQ} {ord:List Int} {c:dK} {goal s:Int} {r:fQ×Er×bQ} (h:Bz n k b ord c goal s r):r.2.2.cz.keys.ak≠[]/\ ∃c',r.2.2.core=some c'/\c'.ay=c.ay/\c'.gJ.kept.isSome=true:=by
 obtain⟨R,l,c',mc,f1,f2,f3,f4,f5,f6,f7,f8,f9,f10,f11,f12,f13,f14,f15,f16,f17,f18⟩:=h.tV;refine⟨λz=>?_,c',f7,f8,by rw[f9];rfl⟩
 obtain⟨x,x1,_⟩:=f17.now;have:=(f16.iN.sl _ _).1 x1;rw[z] at this;simp at this;omega
theorem abE {ps:List (Int×Int)} {n n':bQ} (h:lB k ps n n'):(ps=[]/\n'=n)∨(ps≠[]/\n'.cz.keys.ak≠[]/\ ∃c',n'.core=some c'/\c'.gJ.kept.isSome=true):=by
 cases h with
 |nil=>exact .inl ⟨J,J⟩
 |snoc h hn hc hg hs hf=>
  have:=RR hf;obtain⟨a,c',b1,_,b3⟩:=this;exact .inr ⟨by simp,a,c',b1,b3⟩
def E8 (k:Int) (S:bT) (L:List aD) (o:cS) (S':bT) (L':List aD) (a:iX):Prop:=
 (o.Kind=1/\L'=[]/\a.dQ=[]/\S'.nav.cz.keys.ak=[]/\cu S'.nav=cu S.nav/\ ∃c',S'.nav.core=some c'/\ ∀s:Int,bK c'.ay.m.W c'.ay.m.H s->(rd c'.fZ.parts s).version≠fB c'.ay s)∨
 (o.Kind=8/\L'=L/\a.dQ=[]/\S'.nav.cz.keys.ak=[]/\cu S'.nav=cu S.nav/\((S.nav.core=none/\S'.nav.core=none)∨ ∃c,S.nav.core=some c/\S'.nav.core=some ⟨c.ay,c.fZ,⟨none,c.gJ.count⟩⟩))∨
 (o.Kind=2/\L'=L/\a.dQ=[]/\cu S'.nav=cu S.nav/\ ∃c,S.nav.core=some c/\cF c.ay.m o.A/\S'.nav.core=some ⟨mW c.ay o.A o.B,c.fZ,c.gJ⟩)∨
 ((o.Kind=3∨o.Kind=4∨o.Kind=5)/\a.dQ=[]/\S'.nav=S.nav)∨
 (o.Kind=6/\L'=L/\a.dQ=[]/\ ∃c b' ord f,S.nav.core=some c/\cF c.ay.m o.A/\cF c.ay.m o.B/\iv S.nav k b' ord/\Bz S.nav k b' ord c o.A (aX c.ay.m.W c.ay.m.H o.B) (f,Er.nil,S'.nav)/\a.D=rd f.eW (dB c.ay.m.W c.ay.m.H o.B)/\a.cx=rd f.cx (dB c.ay.m.W c.ay.m.H o.B))∨
 (o.Kind=7/\ ∃c aF,S.nav.core=some c/\fv c.ay.m.W c.ay.m.H L/\lB k ((fM c.ay.m.W c.ay.m.H L).map sN) S.nav S'.nav/\aF.length=L.length/\(∀j:Int,0<=j->j<L.length->wF c.ay (rd L j) (rd aF j))/\L'=(e_ c.ay.m.W c.ay.m.H L aF).1/\a.dQ=(e_ c.ay.m.W c.ay.m.H L aF).2.1/\a.gR=(e_ c.ay.m.W c.ay.m.H L aF).2.2)
def Ends (k most b:Int) (S:bT) (L:List aD) (o:cS) (r:Er×bT×iX):Prop:=
 ∃L',jy r.2.1 k most b L'/\((r.1=Er.nil/\r.2.2.Code=0/\E8 k S L o r.2.1 L' r.2.2)∨((r.1=Er.eB 0∨ ∃c,c≠0/\r.1=Er.num 148 c)/\r.2.1.nav=S.nav/\r.2.2.dQ=[]/\o.Kind≠8))
theorem jy.mono {b':Int} (h:jy S k most b L) (hb:b<=b'):jy S k most b' L:=by
 obtain⟨ord,hn⟩:=h.nav;refine⟨h.m_,h.mb,⟨ord,hn.mono hb⟩,?_,h.kp⟩;rcases h.cr with z |⟨c,C,h1,h2,h3,h4,h5⟩
 ·exact .inl z
 ·exact .inr ⟨c,C,h1,h2,h3,by omega,h5⟩
abbrev a0:iX:=iX.mk 0 0 5 (-1) [] [] (fx.mk 0 0 0 0 0 0)
theorem HH {l:fT} {ord:List Int} (h:pR l k ord):ord=[]↔l.ak=[]:=by
 constructor
 ·intro z;rw[<-List.length_eq_zero_iff];apply Classical.byContradiction;intro y;have:=(h.mem 0).2 U;rw[z] at this;simp at this
 ·intro z;refine List.eq_nil_iff_forall_not_mem.2 λc hc=>?_
  have:=(h.mem c).1 hc;rw[z] at this;simp at this;omega
theorem W0 (h:jy S k most b L) (hb:0<=b/\b<=60000000000) {o:cS} (ho:oS o) (hk:o.Kind=1):
 Ok (xP.f S o.Map) (λr=>Ends k most (b+1) S L o (r.1,r.2,a0)):=by
 obtain⟨l1,l2,l3,l4,l5⟩:=ho.ld hk;obtain⟨ord,hn⟩:=h.nav;unfold xP.f;refine(Yo l1 l3).bind λv hv=>?_
 rcases hv with q |⟨q1,q2,q3,q4,q5⟩
 ·refine Ok.pos (by rcases q with q |q<;>simp[q]) (Ok.pure ⟨L,h.mono U,.inr ⟨.inr ⟨6,by omega,rfl⟩,rfl,rfl,by omega⟩⟩)
 ·refine Ok.neg (by simp[q1]) ?_
  have hm:=q2.1;have NW:P4 v.1:=⟨q2,q3,by
   have:v.1.W*v.1.H<=40*40:=kJ U U U U;omega⟩
  obtain⟨n',c',e,e1,e2,e3,e4,e5,e6,e7⟩:=agq hn ⟨hb.1,by omega⟩ NW
  obtain⟨C,eC,hC,hC0⟩:=agn (w:=v.1.W) (h:=v.1.H) (most:=most) hm h.mb.1 (by have:=h.mb;omega)
  refine Ok.eq e (Ok.pos J ?_);rw[h.m_];refine Ok.eq (v:=some C) eC ?_;refine Ok.opt (Ok.eq J (Ok.pure ⟨[],⟨J,h.mb,⟨[],e2⟩,.inr ⟨c',C,e1,J,by rw[e3];exact hC,by omega,by simp⟩,λc hc=>?_⟩,.inl ⟨J,J,.inl ⟨hk,J,J,(HH e2.iN).1 J,e5,c',e1,by rw[e3];exact e6⟩⟩⟩))
  simp only at hc⊢;rw[e1] at hc;simp only[Option.some.injEq] at hc;subst hc;have:=(HH e2.iN).1 J;rw[e4,this];simp
theorem aii (h:jy S k most b L) (hb:0<=b/\b<=60000000000) {o:cS} (ho:oS o) (hk:o.Kind=2) {c:dK} {C:eA} (h1:S.nav.core=some c) (h2:S.eZ=some C) (h3:CS C c.ay.m.W c.ay.m.H most L) (h4:500000*C.cP.next<=b) (h5: ∀u∈L,fK c.ay u.Cell≠255) (hA:cF c.ay.m o.A):
 Ok (xO.f S o.A o.B) (λr=>Ends k most (b+1) S L o (r.1,r.2,a0)):=by
 have hB:=ho.b2 hk;obtain⟨ord,hn⟩:=h.nav;unfold xO.f;refine Ok.ite (λq=>Ok.pure ⟨L,h.mono U,.inr ⟨.inr ⟨8,by omega,J⟩,J,J,by omega⟩⟩) λq=>?_
 have q: ¬(o.B<1∨o.B>255):=by simpa using q
 rw[h2];have e:du (some C) none (λx3=>if(o.B==255)=true then((Ap.f x3 o.A).bind λv4=>some (decide (v4≥0))) else(some false))=some (decide (o.B=255/\pd L o.A≥0)):=by
  show(if(o.B==255)=true then _ else _)=_
  by_cases z:o.B=255
  ·rw[af (by simpa using z),aa3 h3];simp[z]
  ·rw[ah (by simpa using z)];simp[z]
 refine Ok.eq e (Ok.ite (λz=>Ok.pure ⟨L,h.mono U,.inr ⟨.inr ⟨10,by omega,J⟩,J,J,by omega⟩⟩) λz=>?_)
 have z: ¬(o.B=255/\pd L o.A≥0):=by simpa using z
 obtain⟨n',e1,e2,e3,e4,e5,e6⟩:=agk hn ⟨hb.1,by omega⟩ h1 hA U hB
 have hG:=(hn.core c h1).1.gs;refine Ok.eq e1 (Ok.eq J (Ok.pure ⟨L,⟨h.m_,h.mb,⟨ord,e5⟩,.inr ⟨_,C,e2,J,h3,by omega,λu hu=>?_⟩,λc' ie=>?_⟩,.inl ⟨J,J,.inr (.inr (.inl ⟨hk,J,J,e6,c,h1,hA,e2⟩))⟩⟩))
 ·have px:=(h3.ok u hu).1;have dW:cF c.ay.m u.Cell:=px.2;have hold:=h5 u hu;have e: ∀(x:Int),cF c.ay.m x->fK (mW c.ay o.A o.B) x=if x=o.A then o.B else fK c.ay x:=λx hx=>by
   have e0:fK (mW c.ay o.A o.B) x=rd (mW c.ay o.A o.B).m.C x:=by unfold fK;exact af hx
   rw[e0,Og hG hA hx.1];split
   ·rfl
   ·unfold fK;rw[af hx]
  simp only;rw[e _ dW];split
  ·rename_i w;intro y;refine z ⟨y,?_⟩;rw[<-w,FM h3 hu];exact(US.GH h3.us hu).1
  ·exact hold
 ·simp only at ie⊢;rw[e2] at ie;simp only[Option.some.injEq] at ie;subst ie;simp only;rw[e3];exact h.kp c h1
theorem aiQ (h:jy S k most b L) (hb:0<=b/\b<=60000000000) {o:cS} (hk:o.Kind=3) {c:dK} {C:eA} (h1:S.nav.core=some c) (h2:S.eZ=some C) (h3:CS C c.ay.m.W c.ay.m.H most L) (h4:500000*C.cP.next<=b) (h5: ∀u∈L,fK c.ay u.Cell≠255):
 Ok (xR.f S o.A o.B) (λr=> ∀a:iX,a.dQ=[]->a.Code=0->Ends k most (b+500000) S L o (r.2.1,r.2.2,a)):=by
 obtain⟨ord,hn⟩:=h.nav;unfold xR.f;refine Ok.eq (Kw hn h1 _) (Ok.ite (λq=>Ok.pure λa ha _=>⟨L,h.mono U,.inr ⟨.inr ⟨9,by omega,J⟩,J,ha,by omega⟩⟩) λq=>?_)
 have q:fK c.ay o.A≠255:=by simpa using q
 rw[h2];obtain⟨C',e1,e2,e3⟩:=aa1 h3 U o.A o.B;refine Ok.opt (Ok.eq e1 (Ok.eq (O7 _) (Ok.pure λa ha TM=>⟨(ny c.ay.m.W c.ay.m.H most L C.cP.next o.A o.B).2.2,⟨h.m_,h.mb,⟨ord,hn.mono U⟩,.inr ⟨c,C',h1,J,e2,?_,λu hu=>?_⟩,h.kp⟩,?_⟩)))
 ·have:C'.cP.next<=C.cP.next+1:=by rw[e3];split<;>omega
  omega
 ·unfold ny at hu
  repeat' split at hu
  all_goals first
   |exact h5 u hu
   |(rcases List.mem_append.1 hu with z |z
     ·exact h5 u z
     ·simp only[List.mem_cons,List.not_mem_nil,or_false] at z;rw[z];exact q)
 ·by_cases z:(ny c.ay.m.W c.ay.m.H most L C.cP.next o.A o.B).2.1=0
  ·rw[af z];exact .inl ⟨J,TM,.inr (.inr (.inr (.inl ⟨.inl hk,ha,J⟩)))⟩
  ·rw[ah z];exact .inr ⟨.inr ⟨_,z,J⟩,J,ha,by omega⟩
theorem aiO (h:jy S k most b L) (hb:0<=b/\b<=60000000000) {o:cS} (hk:o.Kind=6) {c:dK} {C:eA} (h1:S.nav.core=some c) (h2:S.eZ=some C) (h3:CS C c.ay.m.W c.ay.m.H most L) (h4:500000*C.cP.next<=b) (h5: ∀u∈L,fK c.ay u.Cell≠255):
 Ok (xQ.f S a0 o.A o.B) (λr=>Ends k most (b+5000) S L o (r.1,r.2.1,r.2.2)):=by
 obtain⟨ord,hn⟩:=h.nav;unfold xQ.f;refine(agr hn ⟨hb.1,by omega⟩ h1 o.A o.B).bind λv hv=>?_
 rcases hv with⟨a1,a2,a3,f,a4,a5,a6⟩ |⟨a1,a2,a3⟩
 ·rw[a3];obtain⟨g1,c',g2,g3,g4⟩:=RR a4;obtain⟨R,l,c2,mc,f1,f2,f3,f4,f5,f6,f7,f8,f9,f10,f11,f12,f13,f14,f15,f16,f17,f18⟩:=a4.tV;refine Ok.pos J (Ok.eq J (Ok.pure ⟨L,⟨h.m_,h.mb,⟨mc,f16⟩,.inr ⟨c',C,g2,h2,by rw[g3];exact h3,by omega,by rw[g3];exact h5⟩,λc3 vq=>?_⟩,.inl ⟨J,J,.inr (.inr (.inr (.inr (.inl ⟨hk,J,J,c,b,ord,f,h1,a1,a2,hn,a4,a5,a6⟩))))⟩⟩))
  simp only at g2 vq⊢;rw[g2] at vq;simp only[Option.some.injEq] at vq;subst vq;exact⟨λ_=>g1,λ_=>g4⟩
 ·rw[a2,a3];exact Ok.neg bh (Ok.eq J (Ok.pure ⟨L,h.mono U,.inr ⟨.inr ⟨7,by omega,J⟩,J,J,by omega⟩⟩))
end
section
variable {S : bT} {k most b : Int} {L : List aD}
theorem Yn {w h:Int} {aF:List Int} (hm:fv w h L): ∀n:Nat,n<=L.length-> ∀u∈p8 (dE w h L aF n) n,∃j:Int,0<=j/\j<n/\(u.Cell=(rd L j).Cell∨(0<=rd aF j/\rd aF j<=3/\u.Cell=cC w h (rd L j).Cell (rd aF j)/\0<=u.Cell)):=by
 intro n
 induction n with
 |zero=>intro _ u hu;simp[p8] at hu
 |succ n ih=>
  intro hn u hu;rw[LK hm U] at hu;rcases List.mem_append.1 hu with z |z
  ·obtain⟨j,j0,j1,q⟩:=ih U u z;exact⟨j,j0,by omega,q⟩
  ·split at z
   ·rename_i y;simp only[List.mem_cons,List.not_mem_nil,or_false] at z;subst z;refine⟨n,by omega,by omega,?_⟩
    simp only;unfold Es at y⊢;split at y
    ·rename_i c;rw[af c];split at y
     ·omega
     ·rename_i g;rw[ah g];refine .inr ?_;have hc:=c.1;unfold dF at hc;have hd:0<=rd aF (n:Int)/\rd aF (n:Int)<=3:=Classical.byContradiction λq=>by rw[ah q] at hc;omega
      refine⟨hd.1,hd.2,?_,y⟩
      show dF w h (rd L (n:Int)) (rd aF (n:Int))=_
      unfold dF;rw[af hd]
    ·rename_i c;rw[ah c];exact .inl J
   ·simp at z
theorem Xa (h:jy S k most b L) (hb:0<=b/\b<=60000000000) {o:cS} (hk:o.Kind=7) {c:dK} {C:eA} (h1:S.nav.core=some c) (h2:S.eZ=some C) (h3:CS C c.ay.m.W c.ay.m.H most L) (h4:500000*C.cP.next<=b) (h5: ∀u∈L,fK c.ay u.Cell≠255):
 Ok (wk.f S a0) (λr=> ∃L',jy r.2.1 k most (b+500000) L'/\r.1=Er.nil/\r.2.2.Code=0/\E8 k S L o r.2.1 L' r.2.2):=by
 obtain⟨ord,hn⟩:=h.nav;have hG:=(hn.core c h1).1.gs;have Uc:=h.mb;have Cc:=h3.kD;have hm:=h3.Ov;have mz:(fM c.ay.m.W c.ay.m.H L).length<=L.length:=by
  have:=El _ (Ez hm).some_;rw[EA] at this;exact this
 unfold wk.f;rw[h2];refine Ok.opt (Ok.eq (Mn h3) ((aa8 hn ⟨hb.1,by omega⟩ h1 hm U (λu hu=>(h3.ok u hu).2.1.2)).bind λr hr=>?_))
 obtain⟨r1,pC,mc,r2,r3,⟨c',r4,Ww⟩,r5,r6,r7⟩:=hr;rw[r1,r2];refine Ok.neg (by simp[Er.isNil]) ?_
 simp only[h2];have aej:Lm r.1 L.length:=by
  refine⟨r6,λd hd=>?_⟩
  obtain⟨j,j0,j1,rfl⟩:=jT hd;obtain⟨R,l,f,d1,d2,d3,d4,d5,d6⟩:=r7 j j0 U;have hc:=(h3.ok _ (dZ j0 U)).1;have ma:=C8 hG hc.2;rw[d6,d5.dir _ ma.1 ma.2.1];exact abe _
 obtain⟨C',e1,e2,e3⟩:=aa2 h3 aej;refine Ok.opt (Ok.eq e1 (Ok.eq J (Ok.pure ⟨(e_ c.ay.m.W c.ay.m.H L r.1).1,⟨h.m_,h.mb,⟨mc,r3.mono U⟩,.inr ⟨c',C',r4,J,by rw[Ww];exact e2,by omega,λu hu=>?_⟩,λc3 vq=>?_⟩,J,J,.inr (.inr (.inr (.inr (.inr ⟨hk,c,r.1,h1,hm,r5,r6,r7,J,J,J⟩))))⟩)))
 ·rw[Ww];have px:u∈p8 (dE c.ay.m.W c.ay.m.H L r.1 L.length) L.length:=by
   unfold e_ at hu;unfold p8;rw[List.take_of_length_le (by have:=(yI hm r.1 L.length (Nat.le_refl _)).len;omega)]
   exact hu
  obtain⟨j,j0,j1,q⟩:=Yn hm L.length (Nat.le_refl _) u px;have hj:=dZ j0 j1;rcases q with q |⟨q0,q3,q4,q5⟩
  ·rw[q];exact h5 _ hj
  ·obtain⟨R,l,f,d1,d2,d3,d4,d5,d6⟩:=r7 j j0 j1;have:=aa5 hG d3.1 (h3.ok _ hj).1.2 d4 d5 d6 q0 q3;rw[q4];exact this.2
 ·simp only at vq⊢;rcases abE r5 with⟨_,z⟩ |⟨_,z1,c4,z2,z3⟩
  ·rw[z] at vq⊢;exact h.kp c3 vq
  ·rw[z2] at vq;simp only[Option.some.injEq] at vq;subst vq;exact⟨λ_=>z1,λ_=>z3⟩
theorem ai1 (h:jy S k most b L) (hb:0<=b/\b<=60000000000) {o:cS} (hk:o.Kind=7) {c:dK} {C:eA} (h1:S.nav.core=some c) (h2:S.eZ=some C) (h3:CS C c.ay.m.W c.ay.m.H most L) (h4:500000*C.cP.next<=b) (h5: ∀u∈L,fK c.ay u.Cell≠255):
 Ok (wk.f S a0) (λr=>Ends k most (b+500000) S L o (r.1,r.2.1,r.2.2)):=
 (Xa h hb hk h1 h2 h3 h4 h5).mono λr ⟨L',e1,e2⟩=>⟨L',e1,.inl e2⟩
theorem ah7 {ord:List Int} {c:dK} (hn:iv S.nav k b ord) (h1:S.nav.core=some c) (o:cS):
 Ok (rY.f S o) (λe=>(e=Er.nil/\(o.Kind=3∨o.Kind=2->cF c.ay.m o.A))∨(e=Er.num 148 7/\o.Kind≠8)):=by
 have hG:=(hn.core c h1).1.gs;have ck: ∀x,fK c.ay x≠0->cF c.ay.m x:=λx hx=>Classical.byContradiction λz=>hx (by unfold fK;rw[ah z])
 unfold rY.f;refine Ok.ite (λq=>Ok.eq (Kw hn h1 _) (Ok.ite (λ_=>Ok.pure (.inr ⟨J,by simp at q;omega⟩)) λ_=>Ok.eq (Kw hn h1 _) (Ok.ite (λ_=>Ok.pure (.inr ⟨J,by simp at q;omega⟩)) λz=>Ok.pure (.inl ⟨J,λ_=>ck _ (by simpa using z)⟩)))) λq=>Ok.ite (λq=>Ok.eq (Kw hn h1 _) (Ok.ite (λ_=>Ok.pure (.inr ⟨J,by simp at q;omega⟩)) λz=>Ok.pure (.inl ⟨J,λ_=>ck _ (by simpa using z)⟩))) λq'=>Ok.pure (.inl ⟨J,λz=>?_⟩)
 simp at q q';omega
theorem Ends.mono {o:cS} {r:Er×bT×iX} {b':Int} (h:Ends k most b S L o r) (hb:b<=b'):Ends k most b' S L o r:=by
 obtain⟨L',h1,h2⟩:=h;exact⟨L',h1.mono hb,h2⟩
theorem aib (h:jy S k most b L) (hb:0<=b/\b<=60000000000) {o:cS} (ho:oS o):Ok (uC.f S o a0) (Ends k most (b+500000) S L o):=by
 obtain⟨ord,hn⟩:=h.nav;unfold uC.f;have no: ∀e:Er,(e=Er.eB 0∨ ∃c,c≠0/\e=Er.num 148 c)->o.Kind≠8->Ends k most (b+500000) S L o (e,S,a0):=λe he h8=>⟨L,h.mono U,.inr ⟨he,J,J,h8⟩⟩
 by_cases NM:o.Kind=0
 ·rw[af (by simpa using NM)]
  exact Ok.eq J (Ok.pos J (Ok.pure (no _ (.inl J) U)))
 rw[ah (by simpa using NM),Vv ho NM]
 refine Ok.eq J (Ok.neg bh ?_);have hkr:=ho.k;have fin: ∀(r:Er×bT×iX),Ends k most (b+500000) S L o r->Ok (some (r.1,r.2.1,iX.mk r.2.2.Code r.2.2.D r.2.2.cx r.2.2.Id r.2.2.dQ r.2.2.gR (fx.mk r.2.2.Stats.bB r.2.2.Stats.bw r.2.2.Stats.bk r.2.2.Stats.bn r.2.2.Stats.bF r.2.2.Stats.bE))) (Ends k most (b+500000) S L o):=λr hr=>Ok.pure hr
 rcases h.cr with⟨n1,n2,n3⟩ |⟨c,C,h1,h2,h3,h4,h5⟩
 ·rw[n2];have e:(du (none:Option eA) (if(o.Kind !=1)=true then(some (o.Kind !=8)) else(some false)) (λx6=>some false))=some (decide (o.Kind≠1/\o.Kind≠8)):=by
   show(if(o.Kind !=1)=true then _ else _)=_
   by_cases z:o.Kind=1
   ·rw[ah (by simp[z])];simp[z]
   ·rw[af (by simpa using z)];simp only[Option.some.injEq];rw[Bool.eq_iff_iff];simp[z]
  refine Ok.eq e (Ok.ite (λw=>Ok.pure (no _ (.inr ⟨4,by omega,J⟩) (of_decide_eq_true w).2)) λq=>?_)
  have q:o.Kind=1∨o.Kind=8:=by have:=of_decide_eq_false (by simpa using q:decide (o.Kind≠1/\o.Kind≠8)=false);omega
  have ec:rY.f S o=some Er.nil:=by
   unfold rY.f;rw[ah bp,ah bp]
  refine Ok.eq ec (Ok.neg (by simp[Er.isNil]) ?_)
  rcases q with q |q
  ·rw[af (by simpa using q)]
   obtain⟨r,er,hr⟩:=W0 h ⟨hb.1,by omega⟩ ho q
   rw[er];exact Ok.eq J (fin (r.1,r.2,a0) (hr.mono U))
  ·rw[ah (by simp[q]),af (by simpa using q)]
   obtain⟨n',e1,e2,e3,e4,e5,e6⟩:=Vk hn;have e6:n'.core=none:=by
    rcases e6 with z |⟨c,z,_⟩
    ·exact z.2
    ·rw[n1] at z;simp at z
   rw[e1];refine Ok.eq J (fin (Er.nil,⟨S.most,n',none⟩,a0) ⟨L,⟨h.m_,h.mb,⟨[],e2.mono U⟩,.inl ⟨e6,J,n3⟩,λc hc=>by simp only at hc;rw[e6] at hc;simp at hc⟩,.inl ⟨J,J,.inr (.inl ⟨q,J,J,(HH e2.iN).1 J,e3,.inl ⟨n1,e6⟩⟩)⟩⟩)
 ·rw[h2];refine Ok.eq (v:=false) J (Ok.neg bh ?_);refine(ah7 hn h1 o).bind λe he=>?_
  rcases he with⟨rfl,ck⟩ |⟨rfl,h8⟩
  rotate_left
  ·exact Ok.pos J (Ok.pure (no _ (.inr ⟨7,by omega,J⟩) h8))
  refine Ok.neg (by simp[Er.isNil]) ?_
  by_cases k1:o.Kind=1
  ·rw[af (by simpa using k1)]
   obtain⟨r,er,hr⟩:=W0 h ⟨hb.1,by omega⟩ ho k1
   rw[er];exact Ok.eq J (fin (r.1,r.2,a0) (hr.mono U))
  rw[ah (by simpa using k1)]
  by_cases k8:o.Kind=8
  ·rw[af (by simpa using k8)]
   obtain⟨n',e1,e2,e3,e4,e5,e6⟩:=Vk hn;rcases e6 with z |⟨c2,z1,z2⟩
   ·rw[h1] at z;simp at z
   rw[h1] at z1;simp only[Option.some.injEq] at z1;subst z1;rw[e1];refine Ok.eq J (fin (Er.nil,⟨S.most,n',some C⟩,a0) ⟨L,⟨h.m_,h.mb,⟨[],e2.mono U⟩,.inr ⟨_,C,z2,J,h3,by omega,h5⟩,λc' ie=>?_⟩,.inl ⟨J,J,.inr (.inl ⟨k8,J,J,(HH e2.iN).1 J,e3,.inr ⟨c,h1,z2⟩⟩)⟩⟩)
   simp only at ie⊢;rw[z2] at ie;simp only[Option.some.injEq] at ie;subst ie;rw[(HH e2.iN).1 J];simp
  rw[ah (by simpa using k8)]
  by_cases k2:o.Kind=2
  ·rw[af (by simpa using k2)]
   obtain⟨r,er,hr⟩:=aii h ⟨hb.1,by omega⟩ ho k2 h1 h2 h3 h4 h5 (ck (.inr k2))
   rw[er];exact Ok.eq J (fin (r.1,r.2,a0) (hr.mono U))
  rw[ah (by simpa using k2)]
  by_cases k3:o.Kind=3
  ·rw[af (by simpa using k3)]
   obtain⟨r,er,hr⟩:=aiQ h hb k3 h1 h2 h3 h4 h5;rw[er];exact Ok.eq J (fin (r.2.1,r.2.2,⟨0,0,5,r.1,[],[],⟨0,0,0,0,0,0⟩⟩) ((hr _ J J).mono U))
  rw[ah (by simpa using k3)]
  by_cases k4:o.Kind=4
  ·rw[af (by simpa using k4)]
   obtain⟨C',e1,e2,e3⟩:=aaU h3 o.A o.B;have hS:jy ⟨S.most,S.nav,some C'⟩ k most (b+500000) (wS c.ay.m.W c.ay.m.H L o.A o.B).2:=⟨h.m_,h.mb,⟨ord,hn.mono U⟩,.inr ⟨c,C',h1,J,e2,by omega,λu hu=>by
    unfold wS at hu
    repeat' split at hu
    all_goals first
     |exact h5 u hu
     |exact h5 u (Mq hu)
     |(unfold gM at hu
       obtain⟨x,hx,rfl⟩:=List.mem_map.1 hu;split
       ·exact h5 x hx
       ·exact h5 x hx)⟩,h.kp⟩
   refine Ok.bind (P:=λr=>r=((if(wS c.ay.m.W c.ay.m.H L o.A o.B).1=0 then Er.nil else Er.num 148 (wS c.ay.m.W c.ay.m.H L o.A o.B).1),(0:Int),(0:Int),(5:Int),(-1:Int),([]:List ff),([]:List Int),(0:Int),(0:Int),(0:Int),(0:Int),(0:Int),(0:Int),(⟨S.most,S.nav,some C'⟩:bT))) (Ok.opt (Ok.eq e1 (Ok.eq (O7 _) (Ok.pure J)))) λr hr=>?_
   subst hr;refine fin ((if(wS c.ay.m.W c.ay.m.H L o.A o.B).1=0 then Er.nil else Er.num 148 (wS c.ay.m.W c.ay.m.H L o.A o.B).1),⟨S.most,S.nav,some C'⟩,a0) ⟨_,hS,?_⟩
   by_cases z:(wS c.ay.m.W c.ay.m.H L o.A o.B).1=0
   ·rw[af z];exact .inl ⟨J,J,.inr (.inr (.inr (.inl ⟨.inr (.inl k4),J,J⟩)))⟩
   ·rw[ah z];exact .inr ⟨.inr ⟨_,z,J⟩,J,J,by omega⟩
  rw[ah (by simpa using k4)]
  by_cases k5:o.Kind=5
  ·rw[af (by simpa using k5)]
   obtain⟨C',e1,e2,e3⟩:=aax h3 o.A;have hS:jy ⟨S.most,S.nav,some C'⟩ k most (b+500000) (wR L o.A).2:=⟨h.m_,h.mb,⟨ord,hn.mono U⟩,.inr ⟨c,C',h1,J,e2,by omega,λu hu=>by
    unfold wR at hu;split at hu
    ·exact h5 u (Mq hu)
    ·exact h5 u hu⟩,h.kp⟩
   refine Ok.bind (P:=λr=>r=((if(wR L o.A).1=0 then Er.nil else Er.num 148 (wR L o.A).1),(0:Int),(0:Int),(5:Int),(-1:Int),([]:List ff),([]:List Int),(0:Int),(0:Int),(0:Int),(0:Int),(0:Int),(0:Int),(⟨S.most,S.nav,some C'⟩:bT))) (Ok.opt (Ok.eq e1 (Ok.eq (O7 _) (Ok.pure J)))) λr hr=>?_
   subst hr;refine fin ((if(wR L o.A).1=0 then Er.nil else Er.num 148 (wR L o.A).1),⟨S.most,S.nav,some C'⟩,a0) ⟨_,hS,?_⟩
   by_cases z:(wR L o.A).1=0
   ·rw[af z];exact .inl ⟨J,J,.inr (.inr (.inr (.inl ⟨.inr (.inr k5),J,J⟩)))⟩
   ·rw[ah z];exact .inr ⟨.inr ⟨_,z,J⟩,J,J,by omega⟩
  rw[ah (by simpa using k5)]
  by_cases k6:o.Kind=6
  ·rw[af (by simpa using k6)]
   obtain⟨r,er,hr⟩:=aiO h ⟨hb.1,by omega⟩ k6 h1 h2 h3 h4 h5
   rw[er];exact Ok.eq J (fin r (hr.mono U))
  rw[ah (by simpa using k6),af bp]
  obtain⟨r,er,hr⟩:=ai1 h ⟨hb.1,by omega⟩ (show o.Kind=7 by omega) h1 h2 h3 h4 h5
  rw[er];exact Ok.eq J (fin r (hr.mono U))
theorem ah9 (q c:Int):Di.f (Er.wrap 110 [q] (Er.num 148 c))=some c:=rfl
theorem ah8 (q:Int):Di.f (Er.wrap 110 [q] (Er.eB 0))=some 5:=rfl
theorem XI (h:jy S k most b L) (hb:0<=b/\b<=60000000000) {o:cS} (ho:oS o):
 Ok (jv.f S o) (λr=> ∃L',jy r.2 k most (b+500000) L'/\r.1.Stats=cu r.2.nav/\((r.1.Code=0/\E8 k S L o r.2 L' r.1)∨(r.1.Code≠0/\r.2.nav=S.nav/\r.1.dQ=[]/\o.Kind≠8))):=by
 unfold jv.f;refine(aib h hb ho).bind λr hr=>?_
 obtain⟨L',h1,h2⟩:=hr;obtain⟨ord,hn⟩:=h1.nav;have gV:qY.f r.2.1=some (cu r.2.1.nav):=by
  unfold qY.f;rw[Px hn ⟨by omega,by omega⟩];rfl
 rcases h2 with⟨e,z,q⟩ |⟨e |⟨c,c0,e⟩,z,q⟩
 ·rw[e];exact Ok.neg (by simp[Er.isNil]) (Ok.eq gV (Ok.pure ⟨L',h1,J,.inl ⟨z,q⟩⟩))
 ·rw[e];exact Ok.pos J (Ok.eq (ah8 _) (Ok.eq gV (Ok.pure ⟨L',h1,J,.inr ⟨by simp,z,q⟩⟩)))
 ·rw[e];exact Ok.pos J (Ok.eq (ah9 _ _) (Ok.eq gV (Ok.pure ⟨L',h1,J,.inr ⟨c0,z,q⟩⟩)))
end
theorem ZJ:EW.f=some true:=az
section
variable {S : bT} {k most b : Int} {L : List aD}
theorem aiD {k most:Int} (k1:1<=k) (k2:k<=1000000) (m1:1<=most) (m2:most<=100): ∃S,tz.f k most=some (some S)/\jy S k most 0 []/\S.nav.core=none/\cu S.nav=⟨0,0,0,0,0,0⟩:=by
 obtain⟨n,e,h1,h2,h3⟩:=agt k1 k2;unfold tz.f;rw[ah bp,e];exact⟨_,J,⟨J,⟨m1,m2⟩,⟨[],h1⟩,.inl ⟨h2,J,J⟩,λc hc=>by simp only at hc;rw[h2] at hc;simp at hc⟩,h2,h3⟩
def xq (S:bT):aM:=match S.nav.core with |none=>⟨0,0,[]⟩ |some c=>c.ay.m
theorem afR {c:dK} (hc:S.nav.core=some c):xq S=c.ay.m:=by unfold xq;rw[hc]
theorem aiB (h:jy S k most b L):xN.f S=some (xq S):=by
 obtain⟨ord,hn⟩:=h.nav;unfold xN.f xq
 cases hc:S.nav.core with
 |none=>unfold vL.f;rw[hc];rfl
 |some c=>rw[ags hn hc];rfl
theorem ai6 (h:jy S k most b L):tA.f S=some L:=by
 unfold tA.f;rcases h.cr with⟨_,h2,h3⟩ |⟨c,C,h1,h2,h3,_⟩
 ·rw[h2,h3];rfl
 ·rw[h2]
  show(ph.f C).bind _=_
  rw[Mn h3];rfl
theorem aiR (h:jy S k most b L) (hb:0<=b/\b<=100000000000):qY.f S=some (cu S.nav):=by
 obtain⟨ord,hn⟩:=h.nav;unfold qY.f;rw[Px hn hb];rfl
theorem abv (l:List sL) {n:Int} (h:0<=n): ∃r,wm.f l n=some r:=by
 unfold wm.f
 by_cases z:n<(l.length:Int)
 ·simp only[af z];exact⟨n,by rw[af U]⟩
 ·simp only[ah z];exact⟨_,by rw[af U]⟩
end
section
variable {S : bT} {k most b : Int} {L : List aD}
theorem RY {g:bA} {M:dJ} (h:og g M):oz g M M.parts.length=[]:=by
 rw[List.eq_nil_iff_forall_not_mem];intro s hs;obtain⟨a,b,c⟩:=I'.1 hs;exact c (h.all s ⟨a,by have:=h.ms.len_;omega⟩)
theorem MH {ps:List (Int×Int)} {n n':bQ} (h:lB k ps n n') {c:dK} (hc:n.core=some c):(ps=[]/\n'=n)∨(ps≠[]/\ ∃c',n'.core=some c'/\c'.ay=c.ay/\og c.ay c'.fZ/\c'.fZ.count=c.fZ.count+(oz c.ay c.fZ c.fZ.parts.length).length/\n'.aV=n.aV/\n'.cz.count.bB=n.cz.count.bB):=by
 induction h with
 |nil n=>exact .inl ⟨J,J⟩
 |snoc h hn ji hg hs hf ih=>
  refine .inr ⟨by simp,?_⟩
  obtain⟨R,l,c',mc,_,_,_,_,_,_,g1,g2,g3,g4,g5,g6,g7,g8,g9,g10,g11,g12⟩:=hf.tV;have gr:=g11.eI.1;rcases ih hc with⟨_,e2⟩ |⟨_,c2,q1,q2,q3,q4,q5,q6⟩
  ·subst e2;rw[ji] at hc;simp only[Option.some.injEq] at hc;subst hc;exact⟨c',g1,g2,g4,g6,g12.1,gr⟩
  ·rw[ji] at q1;simp only[Option.some.injEq] at q1;subst q1;rw[q2] at g4 g6 g2;rw[RY q3] at g6;exact⟨c',g1,g2,g4,by rw[g6,q4];simp,by rw[g12.1,q5],by rw[<-q6];exact gr⟩
end
section
variable {g : bA} {more : Int} {goal : Int} {im : List (Int × Int)} {D D' : List Int}
theorem Pb (h:dn g more) (hR:yo g goal im D) (sI:yo g goal im D'): ∀(n:Nat) (c:Int),0<=c->c<D.length->rd D c≠dy->(rd D c).toNat<=n->rd D' c≠dy/\rd D' c<=rd D c:=by
 intro n
 induction n with
 |zero=>
  intro c c0 c1 hc hn;obtain⟨a1,a2,_,hp⟩:=hR.dv c c0 c1 hc;rcases hp with⟨p1,p2,p3⟩ |⟨b,e,p1,p2,p3,p4,p5⟩
  ·rw[<-p3];exact sI.sd c p1 p2
  ·have:=(FP h p1 p3).2.2.1;have hb:=sW h hR.len_ p1;have:=(hR.dv b hb.1 hb.2 p2).2.1;omega
 |succ n ih=>
  intro c c0 c1 hc hn;obtain⟨a1,a2,_,hp⟩:=hR.dv c c0 c1 hc;rcases hp with⟨p1,p2,p3⟩ |⟨b,e,p1,p2,p3,p4,p5⟩
  ·rw[<-p3];exact sI.sd c p1 p2
  ·have hk:=(FP h p1 p3).2.2.1;have hb:=sW h hR.len_ p1;have TL:=(hR.dv b hb.1 hb.2 p2).2.1;obtain⟨q1,q2⟩:=ih b hb.1 hb.2 p2 U;obtain⟨r1,r2⟩:=sI.rel b p1 q1 e p3;rw[p4] at r1 r2;exact⟨r1,by omega⟩
theorem ahQ (h:dn g more) (hR:yo g goal im D) (sI:yo g goal im D'):D=D':=by
 have e1:=hR.len_;have e2:=sI.len_;refine zp U λi i0 i1=>?_
 by_cases z:rd D i=dy
 ·by_cases y:rd D' i=dy
  ·rw[z,y]
  ·exact absurd z (Pb h sI hR _ i i0 U y (Nat.le_refl _)).1
 ·have a:=Pb h hR sI _ i i0 i1 z (Nat.le_refl _);have b:=Pb h sI hR _ i i0 U a.1 (Nat.le_refl _);omega
theorem WD (h:dn g more) {R R':gZ} (hR:ru g R) (sI:ru g R') (e:R.goal=R'.goal):R=R':=by
 obtain⟨e1,im,hw,hd⟩:=hR;obtain⟨e2,im',Uv,fp⟩:=sI;rw[<-e] at Uv fp;have ei:im=im':=by
  have a:=hw.1 default default;have b:=Uv.1 default default;rw[a] at b;exact Option.some.inj b
 subst ei;have:=ahQ h hd fp
 cases R;cases R';simp only at e e1 e2 this;rw[e,e1,e2,this]
theorem aa6 (h:dn g more) {u:aD} (hu:cF g.m u.Cell) {d d':Int} (h1:wF g u d) (h2:wF g u d'):d=d':=by
 obtain⟨R,l,f,a1,a2,a3,_,a5,a6⟩:=h1;obtain⟨R',l',f',b1,b2,b3,_,b5,b6⟩:=h2;have hs:=tu (nL h.ok hu);have eR:=WD h a1 b1 (by rw[a2,b2])
 subst eR;have el:l=l':=by have a:=a3.2;have b:=b3.2;rw[a] at b;exact Option.some.inj b
 subst el;rw[a6,b6,abz (KV h hs) a5 b5]
end
section
variable {S : bT} {k most b : Int} {L : List aD}
theorem RS {ps:List (Int×Int)} {n n':bQ} (h:lB k ps n n'):n'.cz.count.bk+n'.cz.count.bn=n.cz.count.bk+n.cz.count.bn+ps.length/\n.cz.count.bk<=n'.cz.count.bk/\n.cz.count.bn<=n'.cz.count.bn/\n.cz.count.bF<=n'.cz.count.bF/\n.cz.count.bE<=n'.cz.count.bE/\n'.aV=n.aV/\n'.cz.count.bw=n.cz.count.bw/\n'.cz.count.bB=n.cz.count.bB:=by
 induction h with
 |nil n=>simp
 |snoc h hn hc hg hs hf ih=>
  obtain⟨R,l,c',mc,_,_,_,_,_,_,_,_,_,_,_,_,_,_,_,_,g11,g12,_⟩:=hf.tV;obtain⟨c1,c2,c3,c4,c5,c6,c7,_,_⟩:=g11.eI;obtain⟨i1,i2,i3,i4,i5,i6,i7,i8⟩:=ih;simp only at c1 c2 c3 c4 c5 c6 c7;refine⟨?_,by omega,by omega,by omega,by omega,g12.trans i6,c2.trans i7,c1.trans i8⟩
  rw[List.length_append,List.length_singleton];omega
def rX (a:Nat×Option Int) (p:Int×Int):Nat×Option Int:=if a.2=some p.1 then a else(a.1+1,some p.1)
def runs (ps:List (Int×Int)):Nat×Option Int:=ps.foldl rX (0,none)
theorem ah0 (ps:List (Int×Int)) (p:Int×Int):runs (ps++[p])=rX (runs ps) p:=by unfold runs;rw[List.foldl_append];rfl
theorem abF {ps:List (Int×Int)} {n n':bQ} (h:lB k ps n n') {c:dK} (hc:n.core=some c):(ps=[]/\n'=n)∨ ∃c',n'.core=some c'/\c'.ay=c.ay/\c.gJ.count<=c'.gJ.count/\c'.gJ.count<=c.gJ.count+(runs ps).1/\ ∀g,(runs ps).2=some g->Od c.ay c'.gJ g:=by
 induction h with
 |nil n=>exact .inl ⟨J,J⟩
 |snoc h hn ji hg hs hf ih=>
  obtain⟨R,l,c',mc,g1,g2,_,_,_,_,g3,g4,g5,g6,g7,g8,g9,g10,g11,_⟩:=hf.tV
  right
  rw[ah0];rcases ih hc with⟨e1,e2⟩ |⟨c2,q1,q2,q3,q4,q5⟩
  ·subst e2;rw[ji] at hc;simp only[Option.some.injEq] at hc;subst hc;subst e1;refine⟨c',g3,g4,g9,?_,λg yP=>?_⟩
   ·show _<=_+((rX (0,none) _).1:Int)
    unfold rX;rw[ah bh];simp only;omega
   ·have yP:(some _:Option Int)=some g:=yP;simp only[Option.some.injEq] at yP;subst yP;exact⟨R,g5,g2,g1.1⟩
  ·rw[ji] at q1;simp only[Option.some.injEq] at q1;subst q1;rw[q2] at g11 g1;unfold rX;split
   ·rename_i w;have hk:=q5 _ w;have ef:=g11 hk;exact⟨c',g3,g4.trans q2,by rw[ef];exact q3,by rw[ef];exact q4,λg yP=>by rw[ef];exact q5 g yP⟩
   ·refine⟨c',g3,g4.trans q2,by omega,by simp only;omega,λg yP=>?_⟩
    simp only[Option.some.injEq] at yP;subst yP;exact⟨R,g5,g2,g1.1⟩
theorem L7 {g:Int}: ∀(l:List (Int×Int)) (a:Nat) (o:Option Int),(∀p∈l,p.1=g)->(l.foldl rX (a,o)).1<=a+1/\(o=some g->(l.foldl rX (a,o)).1=a)
 |[],a,o,_=>⟨by simp,λ_=>rfl⟩
 |p::r,a,o,h=>by
  have hp:=h p (List.mem_cons_self ..);have hr: ∀q∈r,q.1=g:=λq hq=>h q (List.mem_cons_of_mem _ hq);rw[List.foldl_cons]
  by_cases z:o=some g
  ·have e:rX (a,o) p=(a,o):=by unfold rX;rw[af (by rw[hp];exact z)]
   rw[e];exact L7 r a o hr
  ·have e:rX (a,o) p=(a+1,some g):=by unfold rX;rw[ah (by rw[hp];exact z),hp]
   rw[e];have:=(L7 r (a+1) (some g) hr).2 J;exact⟨by omega,λy=>absurd y z⟩
theorem RP {f:Int->List (Int×Int)} (hf: ∀g,∀p∈f g,p.1=g): ∀(G:List Int) (a:Nat) (o:Option Int),((G.flatMap f).foldl rX (a,o)).1<=a+G.length
 |[],a,o=>by simp
 |g::r,a,o=>by
  rw[List.flatMap_cons,List.foldl_append];have h1:=(L7 (f g) a o (hf g)).1;have h2:=RP hf r ((f g).foldl rX (a,o)).1 ((f g).foldl rX (a,o)).2;rw[List.length_cons];exact Nat.le_trans h2 U
theorem agZ {w h:Int} (hm:fv w h L):(runs ((fM w h L).map sN)).1<=(jF L).length:=by
 unfold runs fM;rw[List.map_flatMap];have:=RP (f:=λg=>(fY w h g L []).map sN) (λg p hp=>by
  obtain⟨q,hq,rfl⟩:=List.mem_map.1 hp;exact(zn hm g).goal q hq) (jF L) 0 none
 omega
theorem agY {w h:Int} (hm:fv w h L):((fM w h L).map sN).Nodup:=by
 unfold List.Nodup;rw[List.pairwise_map];refine(Ez hm).order.imp λ{x y} q e=>q.2 ?_
 unfold sN at e;simp only[Prod.mk.injEq] at e;exact e
def Dw (n:bQ) (g:bA) (p:Int×Int):Prop:= ∃R l,ru g R/\R.goal=p.1/\ik.f g R p.2=some l/\Mc n.cz p.1 p.2 (fB g p.2) l
theorem UM {n:bQ} {ord:List Int} {c:dK} {goal s:Int} {r:fQ×Er×bQ} (h:Bz n k b ord c goal s r):Dw r.2.2 c.ay (goal,s):=by
 obtain⟨R,l,c',mc,g1,g2,_,_,_,_,_,_,_,_,_,_,_,_,_,_,g11,_,g13⟩:=h.tV;exact⟨R,l,g1,g2,g13,g11.now⟩
theorem UN {n n':bQ} {g:bA} {ord A B:List Int} {x:Int} {p:Int×Int} (hn:iv n k b ord) (mB:z7 g n'.cz k (x::(A++B))) (hk: ∀d∈A++B,(rd n'.cz.keys.ak d).key=(rd n.cz.keys.ak d).key/\rd n'.cz.fields d=rd n.cz.fields d)
 (h:Dw n g p) (hd: ∀d,cI n.cz.keys.eP p=some d->d∈A++B):Dw n' g p:=by
 obtain⟨R,l,h1,h2,h3,d,d1,d2,d3⟩:=h;have hm:=hd d d1;obtain⟨e1,e2⟩:=hk d hm;obtain⟨_,_,a3⟩:=(hn.iN.sl _ _).1 d1;have hr:=(mB.iN.mem d).1 (List.mem_cons_of_mem _ hm);exact⟨R,l,h1,h2,h3,d,(mB.iN.sl _ _).2 ⟨hr.1,hr.2,by rw[e1];exact a3⟩,by rw[e2];exact d2,by rw[e2];exact d3⟩
theorem WT {s:List br}: ∀(A B:List Int) (p p':Int),oq s p A (-1)->oq s p' B (-1)->(∀c∈A,0<=c)->(∀c∈B,0<=c)->hd A (-1)=hd B (-1)->A=B
 |[],[],_,_,_,_,_,_,_=>rfl
 |[],b::r,_,_,_,_,_,hB,e=>by
  have:=hB b (List.mem_cons_self ..);have e:(-1:Int)=b:=e;omega
 |a::r,[],_,_,_,_,hA,_,e=>by
  have:=hA a (List.mem_cons_self ..);have e:a=(-1:Int):=e;omega
 |a::r,b::q,_,_,h1,h2,hA,hB,e=>by
  have e:a=b:=e;subst e;have e2:hd r (-1)=hd q (-1):=by rw[<-h1.2.1,<-h2.2.1]
  rw[WT r q a a h1.2.2 h2.2.2 (λc hc=>hA c (List.mem_cons_of_mem _ hc)) (λc hc=>hB c (List.mem_cons_of_mem _ hc)) e2]
theorem afK {l:fT} {k k':Int} {o o':List Int} (h:pR l k o) (h':pR l k' o'):o=o':=
 WT o o' _ _ h.uA h'.uA (λc hc=>((h.mem c).1 hc).1) (λc hc=>((h'.mem c).1 hc).1) (by rw[<-h.nw,<-h'.nw])
theorem abG {ps:List (Int×Int)} {n n':bQ} (h:lB k ps n n') {c:dK} (hc:n.core=some c) (pw:ps.Nodup) (hk:(ps.length:Int)<=k):
 ∃c',n'.core=some c'/\c'.ay=c.ay/\(∀p∈ps,Dw n' c.ay p)/\ ∀b ord,iv n' k b ord-> ∃P Q,ord=P++Q/\P.length=ps.length/\(∀d∈P,(rd n'.cz.keys.ak d).key∈ps)/\ ∀p∈ps,∃d∈P,(rd n'.cz.keys.ak d).key=p:=by
 induction h with
 |nil n=>exact⟨c,hc,J,λp hp=>by simp at hp,λb ord _=>⟨[],ord,J,J,λd hd=>by simp at hd,λp hp=>by simp at hp⟩⟩
 |snoc h hn ji hg hs hf ih=>
  rename_i ps n n1 b ord c1 goal s r;rw[List.length_append,List.length_singleton] at hk;obtain⟨aex,_,aey⟩:=List.nodup_append.1 pw;obtain⟨c2,q1,q2,q3,q4⟩:=ih hc aex U;rw[ji] at q1;simp only[Option.some.injEq] at q1;subst q1;have qH:=UM hf;obtain⟨R,l,c',mc,_,_,_,_,_,_,g3,g4,_,_,_,_,_,_,_,_,g11,_⟩:=hf.tV;obtain⟨x,A,B,mB,hx,vy,Ce,hold⟩:=g11.sh;simp only at mB hx Ce;obtain⟨P,Q,e1,e2,e3,e4⟩:=q4 b ord hn;have bI: ∀p∈ps,p≠(goal,s):=λp hp=>aey p hp (goal,s) bh;have hol:=agK hn.iN.nd hn.iN.mem;have aeE: ∃Q',A++B=P++Q':=by
   have gen: ∀Z:List Int,P++Q=A++Z->(∀z,Z=z->True)->(∀c',P=A++c'->c'=[])-> ∃Q',A++B=P++Q':=λZ hz _ ie=>by
    rcases List.append_eq_append_iff.1 hz with⟨a',z1,z2⟩ |⟨c',z1,z2⟩
    ·exact⟨a'++B,by rw[z1,List.append_assoc]⟩
    ·have:=ie c' z1;subst this;exact⟨B,by rw[z1];simp⟩
   rcases vy with w |w
   rotate_left
   ·exact⟨Q,by rw[<-w,e1]⟩
   rw[e1] at w;rcases hold with z |⟨z,y |⟨y1,y2⟩⟩
   ·obtain⟨_,_,z3⟩:=(hn.iN.sl _ _).1 z;refine gen _ w (λ_ _=>trivial) λc' ie=>?_
    cases c' with
    |nil=>rfl
    |cons a t=>
     exfalso;have w2:=w;rw[ie,List.append_assoc] at w2;have w3:=List.append_cancel_left w2;simp only[List.cons_append,List.cons.injEq] at w3;have hxP:x∈P:=by rw[ie,w3.1];simp
     have:=e3 x hxP;rw[z3] at this;exact bI _ this J
   ·exact⟨Q,by rw[<-y,e1]⟩
   ·subst y1;refine gen _ w (λ_ _=>trivial) λc' ie=>?_
    have l1:P.length+Q.length=A.length+1:=by have:=congrArg List.length w;simpa using this
    have l2:ord.length=P.length+Q.length:=by rw[e1];simp
    have l3:=congrArg List.length ie;rw[List.length_append] at l3;exact List.length_eq_zero_iff.1 U
  obtain⟨Q',hQ⟩:=aeE;have ck: ∀d∈P,d∈A++B:=λd hd=>by rw[hQ];exact List.mem_append_left _ hd
  refine⟨c',g3,g4.trans q2,λp hp=>?_,λb2 o2 h2=>?_⟩
  ·rcases List.mem_append.1 hp with hp |hp
   ·obtain⟨d,d1,d2⟩:=e4 p hp;rw[q2] at mB;exact UN hn mB Ce (q3 p hp) λd' fp=>by
     have hr:=(hn.iN.mem d).1 (by rw[e1];exact List.mem_append_left _ d1)
     have:=(hn.iN.sl p d).2 ⟨hr.1,hr.2,d2⟩;rw[this] at fp;rw[<-Option.some.inj fp];exact ck d d1
   ·simp only[List.mem_singleton] at hp;subst hp;rw[<-q2];exact qH
  ·have eo:=afK h2.iN mB.iN;refine⟨x::P,Q',by rw[eo,hQ];rfl,by simp[e2],λd hd=>?_,λp hp=>?_⟩
   ·rcases List.mem_cons.1 hd with rfl |hd
    ·rw[hx];simp
    ·rw[(Ce d (ck d hd)).1];exact List.mem_append_left _ (e3 d hd)
   ·rcases List.mem_append.1 hp with hp |hp
    ·obtain⟨d,d1,d2⟩:=e4 p hp;exact⟨d,List.mem_cons_of_mem _ d1,by rw[(Ce d (ck d d1)).1];exact d2⟩
    ·simp only[List.mem_singleton] at hp;subst hp;exact⟨x,List.mem_cons_self ..,hx⟩
theorem abD {al ps:List (Int×Int)} {n n':bQ} (h:lB k ps n n') {c:dK} (hc:n.core=some c) {more:Int} (hG:dn c.ay more) (yW: ∀p∈ps,p∈al) (SE: ∀p∈al,Dw n c.ay p):
 ∃c',n'.core=some c'/\c'.ay=c.ay/\(∀p∈al,Dw n' c.ay p)/\n'.cz.count.bk=n.cz.count.bk/\n'.cz.count.bn=n.cz.count.bn+ps.length:=by
 induction h with
 |nil n=>exact⟨c,hc,J,SE,J,by simp⟩
 |snoc h hn ji hg hs hf ih=>
  rename_i ps n n1 b ord c1 goal s r;obtain⟨c2,q1,q2,q3,q4,q5⟩:=ih hc (λp hp=>yW p (List.mem_append_left _ hp)) SE;rw[ji] at q1;simp only[Option.some.injEq] at q1;subst q1;have qH:=UM hf;obtain⟨R,l,c',mc,f1,f2,_,_,_,_,g3,g4,_,_,_,_,_,_,_,_,g11,_,f17⟩:=hf.tV;obtain⟨x,A,B,mB,hx,vy,Ce,hold⟩:=g11.sh;simp only at mB hx Ce;rw[q2] at f1 f17 mB qH;obtain⟨R',l',a1,a2,a3,a4⟩:=q3 (goal,s) (yW _ bh);have eR:=WD hG f1 a1 (by rw[f2,a2])
  subst eR;have el:l=l':=by rw[f17] at a3;exact Option.some.inj a3
  subst el;have NJ:=g11.hit (by rw[q2];exact a4)
  simp only at NJ;obtain⟨c0,k1,_⟩:=a4;have NX:cI n1.cz.keys.eP (goal,s)=some x:=by
   rcases hold with z |⟨z,_⟩
   ·exact z
   ·simp only at k1;rw[z] at k1;simp at k1
  obtain⟨_,_,hkx⟩:=(hn.iN.sl _ _).1 NX;refine⟨c',g3,g4.trans q2,λp hp=>?_,by rw[NJ];exact q4,by rw[NJ,List.length_append,List.length_singleton];simp only;omega⟩
  by_cases z:p=(goal,s)
  ·rw[z];exact qH
  ·refine UN hn mB Ce (q3 p hp) λd hd=>?_
   obtain⟨d1,d2,d3⟩:=(hn.iN.sl _ _).1 hd;have hdx:d≠x:=λy=>z (by rw[<-d3,y,hkx])
   have B_:=(hn.iN.mem d).2 ⟨d1,d2⟩;rcases vy with w |w<;>rw[w] at B_
   ·rcases List.mem_append.1 B_ with y |y
    ·exact List.mem_append_left _ y
    ·exact List.mem_append_right _ ((List.mem_cons.1 y).resolve_left hdx)
   ·exact B_
end
section
variable {S S' : bT} {k most b : Int} {L L' : List aD}
theorem ZU (x1 x2 x3 x4 x5 x6 y1 y2 y3 y4 y5 y6:Int) (h:x1<=y1/\x2<=y2/\x3<=y3/\x4<=y4/\x5<=y5/\x6<=y6): ∀(n q:Nat) (j:Int),(6-j).toNat<=n->n<q->0<=j->pP.l0 q x1 x2 x3 x4 x5 x6 y1 y2 y3 y4 y5 y6 j=some true:=by
 intro n
 induction n with
 |zero=>
  intro q j hn hq j0;obtain⟨q,rfl⟩:=bq hq;rw[pP.l0,ah U]
 |succ n ih=>
  intro q j hn hq j0;obtain⟨q,rfl⟩:=bq hq;rw[pP.l0]
  by_cases z:j<6
  ·have hle:rd [x1,x2,x3,x4,x5,x6] j<=rd [y1,y2,y3,y4,y5,y6] j:=by
    have:j=0∨j=1∨j=2∨j=3∨j=4∨j=5:=U;rcases this with rfl |rfl |rfl |rfl |rfl |rfl
    ·exact h.1
    ·exact h.2.1
    ·exact h.2.2.1
    ·exact h.2.2.2.1
    ·exact h.2.2.2.2.1
    ·exact h.2.2.2.2.2
   rw[af z,af ⟨j0,z⟩,af ⟨j0,z⟩,ah U,wi U U];exact ih q (j+1) U U U
  ·rw[ah z]
def zX (x y:fx):Prop:=x.bB<=y.bB/\x.bw<=y.bw/\x.bk<=y.bk/\x.bn<=y.bn/\x.bF<=y.bF/\x.bE<=y.bE
theorem ZT {x y:fx} (h:zX x y):pP.f x y=some true:=by
 unfold pP.f fF.f;simp only[aK];exact ZU _ _ _ _ _ _ _ _ _ _ _ _ (by exact h) 6 fuel 0 U (by rw[cO];omega) U
theorem RT {ps:List (Int×Int)} {n n':bQ} (h:lB k ps n n') {c:dK} (hc:n.core=some c):zX (cu n) (cu n')/\(cu n').bw<=(cu n).bw+(runs ps).1/\(cu n').bk+(cu n').bn=(cu n).bk+(cu n).bn+ps.length:=by
 obtain⟨d1,d2,d3,d4,d5,d6,d7,d8⟩:=RS h;have hm:=MH h hc;rcases abF h hc with⟨e1,e2⟩ |⟨c',q1,q2,q3,q4,_⟩
 ·subst e2;subst e1;exact⟨⟨Int.le_refl _,Int.le_refl _,Int.le_refl _,Int.le_refl _,Int.le_refl _,Int.le_refl _⟩,by simp[runs],by simp⟩
 ·rcases hm with⟨e1,e2⟩ |⟨_,c2,m1,m2,m3,m4,m5,m6⟩
  ·subst e2;subst e1;exact⟨⟨Int.le_refl _,Int.le_refl _,Int.le_refl _,Int.le_refl _,Int.le_refl _,Int.le_refl _⟩,by simp[runs],by simp⟩
  ·rw[q1] at m1;simp only[Option.some.injEq] at m1;subst m1;unfold zX cu;simp only[hc,q1,d6];rw[m4,d7,d8];exact⟨⟨by omega,by omega,by omega,by omega,by omega,by omega⟩,by omega,by omega⟩
theorem zX.rfl' (x:fx):zX x x:=⟨Int.le_refl _,Int.le_refl _,Int.le_refl _,Int.le_refl _,Int.le_refl _,Int.le_refl _⟩
theorem agQ (h:jy S k most b L): ∃ps,ir.f (xq S).W (xq S).H L=some ps/\ps.length<=L.length/\((S.nav.core=none/\ps=[])∨ ∃c,S.nav.core=some c/\fv c.ay.m.W c.ay.m.H L/\ps=fM c.ay.m.W c.ay.m.H L):=by
 have Uc:=h.mb;rcases h.cr with⟨h1,_,rfl⟩ |⟨c,C,h1,h2,h3,_⟩
 ·by_cases z:fv (xq S).W (xq S).H []
  ·exact⟨_,OS bh z,by simp[fM,jF,rF],.inl ⟨h1,by simp[fM,jF,rF]⟩⟩
  ·exact⟨_,agX bh z,by simp,.inl ⟨h1,J⟩⟩
 ·have hm:=h3.Ov;have Cc:=h3.kD;rw[afR h1];refine⟨_,OS U hm,?_,.inr ⟨c,h1,hm,J⟩⟩;have:=El _ (Ez hm).some_;rw[EA] at this;exact this
theorem WX (h:jy S k most b L):(L.length:Int)<=most:=by
 have Uc:=h.mb;rcases h.cr with⟨h1,_,rfl⟩ |⟨c,C,h1,h2,h3,_⟩
 ·simp;omega
 ·exact h3.kD
theorem agF (h:jy S k most b L) {o:cS} {a:iX} {ps:List b_} (kG:(S.nav.core=none/\ps=[])∨ ∃c,S.nav.core=some c/\fv c.ay.m.W c.ay.m.H L/\ps=fM c.ay.m.W c.ay.m.H L) (gV:a.Stats=cu S'.nav) (Ca:(a.Code=0/\E8 k S L o S' L' a)∨(a.Code≠0/\S'.nav=S.nav/\a.dQ=[]/\o.Kind≠8)) {pr gl:Nat} (h7:o.Kind=7->pr=ps.length/\gl=(jF L).length) (h6:o.Kind=6->pr=1/\gl=1):
 zX (cu S.nav) a.Stats/\a.Stats.bw<=(cu S.nav).bw+gl/\a.Stats.bk+a.Stats.bn<=(cu S.nav).bk+(cu S.nav).bn+pr:=by
 have same:cu S'.nav=cu S.nav->zX (cu S.nav) a.Stats/\a.Stats.bw<=(cu S.nav).bw+gl/\a.Stats.bk+a.Stats.bn<=(cu S.nav).bk+(cu S.nav).bn+pr:=λe=>by
  rw[gV,e];exact⟨zX.rfl' _,by omega,by omega⟩
 rcases Ca with⟨c0,y |y |y |y |y |y⟩ |⟨c0,y,_⟩
 ·exact same y.2.2.2.2.1
 ·exact same y.2.2.2.2.1
 ·exact same y.2.2.2.1
 ·exact same (by rw[y.2.2])
 ·obtain⟨k6,_,_,c,b',aj2,f,hc,g1,g2,g3,g4,_⟩:=y;have hG:=(g3.core c hc).1.gs;have hf:lB k ([]++[(o.A,aX c.ay.m.W c.ay.m.H o.B)]) S.nav S'.nav:=lB.snoc (lB.nil _) g3 hc g1 (tu (nL hG.ok g2)) g4;obtain⟨a1,a2,a3⟩:=RT hf hc;obtain⟨e1,e2⟩:=h6 k6;have er:(runs ([]++[(o.A,aX c.ay.m.W c.ay.m.H o.B)])).1=1:=rfl;rw[er] at a2;rw[gV,e1,e2];exact⟨a1,by omega,by simp at a3;omega⟩
 ·obtain⟨k7,c,aF,hc,hm,hf,_⟩:=y;obtain⟨a1,a2,a3⟩:=RT hf hc;obtain⟨e1,e2⟩:=h7 k7;have hr:=agZ (L:=L) hm;rcases kG with⟨n1,_⟩ |⟨c2,n1,_,n2⟩
  ·rw[hc] at n1;simp at n1
  ·rw[hc] at n1;simp only[Option.some.injEq] at n1;subst n1;rw[gV,e1,e2,n2];rw[List.length_map] at a3;exact⟨a1,by omega,by omega⟩
 ·exact same (by rw[y])
theorem P5 (h:jy S k most b L) (hb:0<=b/\b<=60000000000) {o:cS} (ho:oS o) (hk:o.Kind=7) {c:dK} (hc:S.nav.core=some c):
 Ok (jv.f S o) (λr=> ∃L',jy r.2 k most (b+500000) L'/\r.1.Stats=cu r.2.nav/\r.1.Code=0/\E8 k S L o r.2 L' r.1):=by
 rcases h.cr with⟨n1,_⟩ |⟨c1,C,h1,h2,h3,h4,h5⟩
 ·rw[hc] at n1;simp at n1
 obtain⟨r,er,L',e1,e2,e3,e4⟩:=Xa h ⟨hb.1,by omega⟩ hk h1 h2 h3 h4 h5
 have hn: ∀j:Int,j≠7-> ¬(o.Kind==j)=true:=λj hj=>by simp;omega
 have ec:rY.f S o=some Er.nil:=by
  unfold rY.f;rw[ah (hn 3 U),ah (hn 2 U)]
 have ed:uC.f S o a0=some (r.1,r.2.1,r.2.2):=by
  unfold uC.f;have eo:(du (some C) (if(o.Kind !=1)=true then(some (o.Kind !=8)) else(some false)) (λx6=>some false))=some false:=rfl
  rw[ah (hn 0 U),Vv ho U,aK,aK,ah bh,h2,eo,aK,ah bh,ec,aK,ah (by simp[Er.isNil]),ah (hn 1 U),ah (hn 8 U),ah (hn 2 U),ah (hn 3 U),ah (hn 4 U),ah (hn 5 U),ah (hn 6 U),af (by simp[hk]),er];rfl
 obtain⟨ord,hnv⟩:=e1.nav;have gV:qY.f r.2.1=some (cu r.2.1.nav):=by
  unfold qY.f;rw[Px hnv ⟨by omega,by omega⟩];rfl
 unfold jv.f;have ea:iX.mk 0 0 5 (-1) ([]:List ff) ([]:List Int) (fx.mk 0 0 0 0 0 0)=a0:=rfl;rw[ea,ed,aK,e2];exact Ok.neg (by simp[Er.isNil]) (Ok.eq gV (Ok.pure ⟨L',e1,J,e3,e4⟩))
theorem RV {w h:Int} {l:List aD} {aF:List Int}: ∀n:Nat,(dE w h l aF n).2.1=[]->(dE w h l aF n).1=l
 |0,_=>rfl
 |n+1,e=>by
  simp only[dE,kE] at e⊢;split at e
  ·simp at e
  ·rename_i z;rw[ah z];exact RV n e
theorem ab5 {w h:Int} {l:List aD} {aF:List Int} (hl: ∀x∈l,0<=x.Cell) (e:(e_ w h l aF).2.1=[]):(e_ w h l aF).1=l:=by
 have:=RV (w:=w) (h:=h) (l:=l) (aF:=aF) l.length e;unfold e_;simp only;rw[this,List.filter_eq_self];intro x hx;exact decide_eq_true (hl x hx)
theorem again (h:jy S 50 6 b L) (hb:0<=b/\b<=50000000000) {o:cS} (ho:oS o) (hk:o.Kind=7) (hL:L≠[]) {ps:List b_} (kG:(S.nav.core=none/\ps=[])∨ ∃c,S.nav.core=some c/\fv c.ay.m.W c.ay.m.H L/\ps=fM c.ay.m.W c.ay.m.H L) {a:iX} (e:jv.f S o=some (a,S')) (hmv:a.dQ=[]):
 ∃d S2 L2,jv.f S' ⟨7,0,0,[]⟩=some (d,S2)/\jy S2 50 6 (b+1000000) L2/\d.Stats.bk=a.Stats.bk/\d.Stats.bB=a.Stats.bB/\d.Stats.bn=a.Stats.bn+ps.length/\d.dQ=[]:=by
 obtain⟨c,hc⟩: ∃c,S.nav.core=some c:=by
  rcases h.cr with⟨_,_,z⟩ |⟨c,_,z,_⟩
  ·exact absurd z hL
  ·exact⟨c,z⟩
 obtain⟨r,er,L',h1,gV,c0,Ca⟩:=P5 h ⟨hb.1,by omega⟩ ho hk hc
 rw[e] at er;simp only[Option.some.injEq] at er;subst er;simp only at h1 gV c0 Ca;have Cc:=WX h;obtain⟨ord,hn⟩:=h.nav;have hG:=(hn.core c hc).1.gs;obtain⟨c1,aF,ji,hm,hf,d1,d2,d3,d4,d5⟩: ∃c aF,S.nav.core=some c/\fv c.ay.m.W c.ay.m.H L/\lB 50 ((fM c.ay.m.W c.ay.m.H L).map sN) S.nav S'.nav/\aF.length=L.length/\(∀j:Int,0<=j->j<L.length->wF c.ay (rd L j) (rd aF j))/\L'=(e_ c.ay.m.W c.ay.m.H L aF).1/\a.dQ=(e_ c.ay.m.W c.ay.m.H L aF).2.1/\a.gR=(e_ c.ay.m.W c.ay.m.H L aF).2.2:=by
  rcases Ca with y |y |y |y |y |y
  ·have:=y.1;omega
  ·have:=y.1;omega
  ·have:=y.1;omega
  ·have:=y.1;omega
  ·have:=y.1;omega
  ·exact y.2
 rw[hc] at ji;simp only[Option.some.injEq] at ji;subst ji;have Mx:ps=fM c.ay.m.W c.ay.m.H L:=by
  rcases kG with⟨n1,_⟩ |⟨c2,n1,_,n2⟩
  ·rw[hc] at n1;simp at n1
  ·rw[hc] at n1;simp only[Option.some.injEq] at n1;subst n1;exact n2
 have dW: ∀x∈L,cF c.ay.m x.Cell:=λx hx=>by
  rcases h.cr with⟨n1,_⟩ |⟨c2,C,n1,_,n3,_⟩
  ·rw[hc] at n1;simp at n1
  ·rw[hc] at n1;simp only[Option.some.injEq] at n1;subst n1;exact(n3.ok x hx).1.2
 have Ue:(e_ c.ay.m.W c.ay.m.H L aF).2.1=[]:=by rw[<-d4];exact hmv
 have eL:L'=L:=by rw[d3];exact ab5 (λx hx=>(dW x hx).1) Ue
 subst eL;have hlen:(fM c.ay.m.W c.ay.m.H L').length<=L'.length:=by
  have:=El _ (Ez hm).some_;rw[EA] at this;exact this
 obtain⟨c',k1,k2,k3,_⟩:=abG hf hc (agY hm) (by rw[List.length_map];omega)
 have ho':oS ⟨7,0,0,[]⟩:=⟨by simp,by simp,by simp,λ_=>rfl,by simp,by simp,λ_=>⟨J,J⟩,by simp⟩
 obtain⟨⟨d,S2⟩,ed,L2,h2,J1,c02,TT⟩:=P5 h1 ⟨by omega,by omega⟩ ho' J k1
 simp only at h2 J1 c02 TT;obtain⟨c2,aa7,D4,NP,D_,g1,g2,g3,g4,g5⟩: ∃c aF,S'.nav.core=some c/\fv c.ay.m.W c.ay.m.H L'/\lB 50 ((fM c.ay.m.W c.ay.m.H L').map sN) S'.nav S2.nav/\aF.length=L'.length/\(∀j:Int,0<=j->j<L'.length->wF c.ay (rd L' j) (rd aF j))/\L2=(e_ c.ay.m.W c.ay.m.H L' aF).1/\d.dQ=(e_ c.ay.m.W c.ay.m.H L' aF).2.1/\d.gR=(e_ c.ay.m.W c.ay.m.H L' aF).2.2:=by
  rcases TT with y |y |y |y |y |y
  ·have:=y.1;simp at this
  ·have:=y.1;simp at this
  ·have:=y.1;simp at this
  ·have:=y.1;simp at this
  ·have:=y.1;simp at this
  ·exact y.2
 rw[k1] at D4;simp only[Option.some.injEq] at D4;subst D4;rw[k2] at NP D_ g2 g3 g4;have abj:aF=aa7:=zp (by rw[d1,g1]) λi i0 i1=>by
  rw[d1] at i1;exact aa6 hG (dW _ (dZ i0 i1)) (d2 i i0 i1) (g2 i i0 i1)
 subst abj;obtain⟨c3,q1,q2,_,q4,q5⟩:=abD D_ k1 (by rw[k2];exact hG) (al:=(fM c.ay.m.W c.ay.m.H L').map sN) (λp hp=>hp) (λp hp=>by rw[k2];exact k3 p hp)
 have jI:=RS D_;have aeG:(cu S2.nav).bB=(cu S'.nav).bB:=by
  rcases MH D_ k1 with⟨_,z⟩ |⟨_,c4,m1,m2,m3,m4,m5,m6⟩
  ·rw[z]
  ·have Cd:og c'.ay c'.fZ:=by
    rcases MH hf hc with⟨z,_⟩ |⟨_,c5,p1,p2,p3,_⟩
    ·exfalso;obtain⟨u,hu⟩:=List.exists_mem_of_ne_nil _ hL;obtain⟨q,hq,_⟩:=VO (w:=c.ay.m.W) (h:=c.ay.m.H) hu;rw[List.map_eq_nil_iff] at z;rw[z] at hq;simp at hq
    ·rw[k1] at p1;simp only[Option.some.injEq] at p1;subst p1;rw[k2];exact p3
   rw[RY Cd] at m4;unfold cu;simp only[k1,m1];rw[m4,m5,m6];simp
 refine⟨d,S2,L2,ed,h2.mono U,?_,by rw[gV,J1];exact aeG,?_,by rw[g4];exact Ue⟩
 ·rw[gV,J1];unfold cu;simp only;rw[q4,jI.2.2.2.2.2.1]
 ·rw[gV,J1,Mx];unfold cu;simp only;rw[q5,jI.2.2.2.2.2.1,List.length_map];omega
theorem abw {x:List cS} (hx: ∀o∈x,oS o) (hl:x.length<=61): ∀(n q:Nat) (S:bT) (i:Int) (L:List aD),(x.length-i).toNat<=n->n<q->0<=i->i<=x.length->jy S 50 6 (1000000*i) L->ni.l0 q x S i=some true:=by
 have fin: ∀(q:Nat) (S:bT) (i:Int),¬i<x.length->ni.l0 (q+1) x S i=some true:=λq S i hi=>by
  rw[ni.l0,ah hi,ZJ];rfl
 intro n
 induction n with
 |zero=>
  intro q S i L hn hq h0 hi h;obtain⟨q,rfl⟩:=bq hq;exact fin q S i U
 |succ n ih=>
  intro q S i L hn hq h0 hi h;obtain⟨q,rfl⟩:=bq hq
  by_cases z:i<x.length
  ·have ho:=hx _ (dZ h0 z);obtain⟨⟨a,S'⟩,e,L',h',gV,Ca⟩:=XI h ⟨by omega,by omega⟩ ho
   simp only at h' gV Ca;obtain⟨ord,hN⟩:=h.nav;obtain⟨mc,hN'⟩:=h'.nav;have aeJ:=hN.jP;have aeK:=hN'.jP;have Cc:=WX h;have mv:=MN L;obtain⟨ps,Mx,mz,kG⟩:=agQ h;have egl:=VN (l:=L) U;obtain⟨pr,gl,ep,h7,h6⟩: ∃pr gl:Nat,(if(0<=i/\i<(List.length x:Int)) then(if((rd x i).Kind==7)=true then((ir.f (xq S).W (xq S).H L).bind λcD=>(lN.f L).bind λdG=>some ((cY (List.length cD:Int)),(cY (List.length dG:Int)))) else(if((rd x i).Kind==6)=true then(some ((1:Int),(1:Int))) else(some ((0:Int),(0:Int))))) else none)=some ((pr:Int),(gl:Int))/\((rd x i).Kind=7->pr=ps.length/\gl=(jF L).length)/\((rd x i).Kind=6->pr=1/\gl=1):=by
    rw[af ⟨h0,z⟩]
    by_cases k7:(rd x i).Kind=7
    ·rw[af (by simpa using k7),Mx,aK,egl,aK,yd U U,yd U U]
     exact⟨_,_,J,λ_=>⟨J,J⟩,λw=>by omega⟩
    ·rw[ah (by simpa using k7)]
     by_cases k6:(rd x i).Kind=6
     ·rw[af (by simpa using k6)];exact⟨1,1,J,λw=>by omega,λ_=>⟨J,J⟩⟩
     ·rw[ah (by simpa using k6)];exact⟨0,0,J,λw=>by omega,λw=>by omega⟩
   obtain⟨c1,c2,c3⟩:=agF h kG gV Ca h7 h6;have hle:pr<=10/\gl<=10∨ ¬((rd x i).Kind=7∨(rd x i).Kind=6):=by
    by_cases k7:(rd x i).Kind=7
    ·have:=h7 k7;left;omega
    ·by_cases k6:(rd x i).Kind=6
     ·have:=h6 k6;left;omega
     ·right;omega
   have hpg:pr<=10/\gl<=10:=by
    rcases hle with w |w
    ·exact w
    ·rw[af ⟨h0,z⟩,ah bp,ah bp] at ep;simp only[Option.some.injEq,Prod.mk.injEq] at ep;omega
   have c4:=c1;obtain⟨b1,b2,b3,b4,b5,b6⟩:=c4;obtain⟨t1,t2,t3,t4,t5,t6⟩:=aeJ;obtain⟨u1,u2,u3,u4,u5,u6⟩:=aeK;rw[<-gV] at u1 u2 u3 u4 u5 u6;have cond:(if a.Stats.bw>(cY ((cu S.nav).bw+(gl:Int))) then(some true) else(if a.Stats.bk>(cY ((cu S.nav).bk+(pr:Int))) then(some true) else(if(cY (a.Stats.bk+a.Stats.bn))>(cY ((cY ((cu S.nav).bk+(cu S.nav).bn))+(pr:Int))) then(some true) else((pP.f (cu S.nav) a.Stats).bind λv20=>some (!v20)))))=some false:=by
    rw[yd (x:=(cu S.nav).bw+(gl:Int)) U U,ah U,yd (x:=(cu S.nav).bk+(pr:Int)) U U,ah U,yd (x:=a.Stats.bk+a.Stats.bn) U U,yd (x:=(cu S.nav).bk+(cu S.nav).bn) U U,yd U U,ah U,ZT c1];rfl
   rw[ni.l0,af z,aiB h,aK,ai6 h,aK,aiR h ⟨by omega,by omega⟩,aK,ep,aK]
   simp only;rw[af (c:=0<=i/\i<(List.length x:Int)) ⟨h0,z⟩,e,aK];simp only;rw[cond,aK,ah bh,af (c:=0<=i/\i<(List.length x:Int)) ⟨h0,z⟩];have next:ni.l0 q x S' (aa (i+1))=some true:=by
    rw[wi U U];exact ih q S' (i+1) L' U U U U (h'.mono U)
   by_cases k7:(rd x i).Kind=7
   ·rw[ah (by simp[k7]),aK]
    by_cases w:(a.dQ=[]/\L≠[])
    ·obtain⟨w1,w2⟩:=w;have hw: ¬((((List.length a.dQ:Int)!=0)||((List.length L:Int)==0))=true):=by
      have:=List.length_pos_iff.2 w2;rw[w1];simp;exact w2
     rw[ah hw];obtain⟨d,S2,L2,f1,f2,f3,f4,f5,f6⟩:=again h ⟨by omega,by omega⟩ ho k7 w2 kG e w1
     rw[f1,aK];simp only;rw[ah (by simp[f3]),ah (by simp[f4]),ah (by rw[f5,(h7 k7).1,yd U U];simp),f6,aK,ah bh,wi U U]
     exact ih q S2 (i+1) L2 U U U U (by rw[show 1000000*(i+1)=1000000*i+1000000 by omega];exact f2)
    ·have hw:(((List.length a.dQ:Int)!=0)||((List.length L:Int)==0))=true:=by
      by_cases y:a.dQ=[]
      ·have:L=[]:=Classical.byContradiction λv=>w ⟨y,v⟩
       simp[this]
      ·have:=List.length_pos_iff.2 y;simp[y]
     rw[af hw];exact next
   ·rw[af (by simpa using k7),aK,af J];exact next
  ·exact fin q S i z
theorem Yc:ni.Pure:=by
 intro w h p3 l _ _ hp3 _ _ _;unfold ni.f;obtain⟨r,er⟩:=abv l (n:=40) U;obtain⟨x,ex,uf,yY,vD⟩:=ah_ w h hp3 (aB l 0 r);rw[er,aK,ex,aK];obtain⟨S,eS,hS,_⟩:=aiD (k:=50) (most:=6) U U U U;rw[eS,aK];exact abw vD yY 61 fuel S 0 [] U (by rw[cO];omega) U U hS
end
end Go.Proofs.YthodkonhneebbaaGreatDoor
