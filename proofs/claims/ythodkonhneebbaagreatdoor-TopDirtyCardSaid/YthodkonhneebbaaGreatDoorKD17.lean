/- What the functions do, in plain Lean, on the objects that are kept in order. -/
import Derived.Laws.Strings
import Derived.Test.YthodkonhneebbaaGreatDoorKD14
import Derived.Test.YthodkonhneebbaaGreatDoorKD5
import Derived.Test.YthodkonhneebbaaGreatDoorKD6
import Derived.Test.YthodkonhneebbaaGreatDoorKD15
import Derived.Test.YthodkonhneebbaaGreatDoorKD12
import Derived.Test.YthodkonhneebbaaGreatDoorKD7
import Derived.Test.YthodkonhneebbaaGreatDoorKD16
namespace Go.Proofs.YthodkonhneebbaaGreatDoor
open Go.Hx
set_option linter.unusedVariables false
set_option linter.unusedSimpArgs false
theorem ae6 {c:List Int} (hc:c.length<=100000) {a:Int} (a0:0<=a) (a1:a<c.length): ∀(n k:Nat) (x:Int),a+x+n=c.length->1<=x->n<k->(∀j:Int,a<=j->j<a+x->rd c j=rd c a)->
 ∃e,iw.l1 k c a x=some e/\x<=e/\a+e<=c.length/\(∀j:Int,a<=j->j<a+e->rd c j=rd c a)/\(a+e=c.length∨rd c (a+e)≠rd c a):=by
 intro n
 induction n with
 |zero=>
  intro k x hx x1 hk hr;obtain⟨k,rfl⟩:=bl hk;refine⟨x,?_,by omega,by omega,hr,.inl U⟩
  rw[iw.l1,bm U U,ah (c:=a+x<_) U,aG,ah bj]
 |succ n ih=>
  intro k x hx x1 hk hr;obtain⟨k,rfl⟩:=bl hk;rw[iw.l1,bm (x:=a+x) U U,af U,af U,af U,aG]
  by_cases hq:rd c (a+x)=rd c a
  ·rw[af (by simpa using hq),bm U U]
   obtain⟨e,h1,h2,h3,h4,h5⟩:=ih k (x+1) U U U (λj j0 j1=>by
    by_cases hj:j=a+x
    ·rw[hj,hq]
    ·exact hr j j0 U)
   exact⟨e,h1,by omega,h3,h4,h5⟩
  ·rw[ah (by simpa using hq)]
   exact⟨x,J,by omega,by omega,hr,.inr hq⟩
inductive Dp (c:List Int):Int->List Int->Prop
 |done:Dp c c.length []
 |run {a e:Int} {L:List Int} (a0:0<=a) (e1:1<=e) (he:a+e<=c.length) (same: ∀j:Int,a<=j->j<a+e->rd c j=rd c a) (stop:a+e=c.length∨rd c (a+e)≠rd c a) (rest:Dp c (a+e) L):Dp c a ((e-1)::rd c a::L)
theorem ahO {c:List Int} (hc:c.length<=256): ∀(n k:Nat) (a:Int) (x:List Int),a+n=c.length->0<=a->n<k->x.length<=1+2*a.toNat->
 ∃L,iw.l0 k c x a=some (x++L)/\(n=0->L=[])/\L.length<=2*n/\(∃q,L.length=2*q)/\(0<n->2<=L.length/\(L.length=2↔ ∀j:Int,a<=j->j<c.length->rd c j=rd c a))/\Dp c a L:=by
 intro n
 induction n using Nat.strongRecOn with
 |_ n ih=>
  intro k a x ha a0 hk hx;obtain⟨k,rfl⟩:=bl hk
  by_cases hn:n=0
  ·subst hn;have:a=c.length:=U;refine⟨[],by rw[iw.l0,ah U];simp,λ_=>rfl,by simp,⟨0,J⟩,λq=>by omega,by rw[this];exact .done⟩
  ·have a1:a<(c.length:Int):=U;obtain⟨e,h1,h2,h3,h4,h5⟩:=ae6 (c:=c) U a0 a1 (n-1) fuel 1 U U (by rw[tZ];omega) (λj j0 j1=>by rw[show j=a by omega])
   have ewu:bS (aa (e-1))=e-1:=by rw[bm U U,ET U U]
   obtain⟨L,e1,e2,e3,⟨q,e4⟩,e5,e6⟩:=ih (n-e.toNat) U k (a+e) (x++[e-1,rd c a]) U U U bk;refine⟨(e-1)::rd c a::L,?_,λq=>by omega,by simp;omega,⟨q+1,by simp;omega⟩,λ_=>⟨by simp,?_⟩,.run a0 h2 h3 h4 h5 e6⟩
   ·rw[iw.l0,af a1,h1,aG,af ⟨a0,a1⟩,af U,bm (x:=a+e) U U,ewu];simp only[aG];rw[e1];simp
   ·constructor
    ·intro hl;have qC:L.length=0:=by simp at hl;simp[hl]
     have D1:a+e=c.length:=by
      by_cases hz:n-e.toNat=0
      ·omega
      ·have:=(e5 U).1;omega
     intro j j0 j1;exact h4 j j0 U
    ·intro ub;have D1:a+e=c.length:=by
      rcases h5 with h5 |h5
      ·exact h5
      ·by_cases hz:a+e=c.length
       ·exact hz
       ·exact absurd (ub (a+e) U U) h5
     have:=e2 U;rw[this];rfl
theorem agS (t:aL): ∀(k:Nat) (a x:Int),ji.l1 k t a x=iw.l1 k t.C a x:=by
 intro k
 induction k with
 |zero=>intro a x;rfl
 |succ k ih=>intro a x;simp only[ji.l1,iw.l1,ih]
theorem agR (t:aL): ∀(k:Nat) (x:List Int) (a:Int),ji.l0 k t x a=iw.l0 k t.C x a:=by
 intro k
 induction k with
 |zero=>intro x a;rfl
 |succ k ih=>intro x a;simp only[ji.l0,iw.l0,ih,agS]
def wx (c:List Int):Prop:= ∀j:Int,0<=j->j<c.length->rd c j=rd c 0
theorem contains_diff (t:aL) (h1:1<=t.C.length) (hb:t.C.length<=100000): ∃b,C9.f t.C t=some b/\(b=false↔wx t.C):=by
 unfold C9.f qT.f;have key: ∀(n k:Nat) (i:Int),i+n=t.C.length->0<=i->n<k-> ∃r,qT.l0 k t.C t i=some r/\(r<0↔ ∀j:Int,i<=j->j<t.C.length->rd t.C j=rd t.C 0):=by
  intro n
  induction n with
  |zero=>
   intro k i hi h0 hk;obtain⟨k,rfl⟩:=bl hk;exact⟨-1,by rw[qT.l0,ah U],⟨λ_ j j0 j1=>by omega,λ_=>by omega⟩⟩
  |succ n ih=>
   intro k i hi h0 hk;obtain⟨k,rfl⟩:=bl hk;have e:CN.f (rd t.C i) t=some (rd t.C i !=rd t.C 0):=by unfold CN.f;rw[af U]
   rw[qT.l0,af U,af U,e,aG]
   by_cases hq:rd t.C i=rd t.C 0
   ·rw[ah (by simpa using hq),bm U U]
    obtain⟨r,r1,r2⟩:=ih k (i+1) U U U;refine⟨r,r1,?_⟩;rw[r2];constructor
    ·intro h j j0 j1
     by_cases hj:j=i
     ·rw[hj,hq]
     ·exact h j U j1
    ·intro h j j0 j1;exact h j U j1
   ·rw[af (by simpa using hq)]
    exact⟨i,J,⟨λh=>by omega,λh=>absurd (h i U U) hq⟩⟩
 obtain⟨r,r1,r2⟩:=key t.C.length fuel 0 U U (by rw[tZ];omega)
 rw[r1,aG];refine⟨_,J,?_⟩;unfold wx;rw[<-r2];simp
structure Du (t:aL) (L:List Int) (f:Int) (out:List Int):Prop where
 runs:iw.f t.C=some (2::L)
 two:L.length=2↔wx t.C
 even: ∃q,L.length=2*q
 enc:Dp t.C 0 L
 ge:2<=L.length
 le:L.length<=512
 PK:wx t.C->f=0/\out=[0,rd t.C 0]
 Ou: ¬wx t.C-> ¬L.length<t.C.length->f=1/\out=1::t.C
 short: ¬wx t.C->L.length<t.C.length->f=2/\out=2::L
theorem afz (t:aL) (h1:1<=t.C.length) (hb:t.C.length<=256): ∃L f out,kY.f t=some (f,out)/\Du t L f out:=by
 obtain⟨L,e1,_,e3,e4,e5,e8⟩:=ahO (c:=t.C) U t.C.length fuel 0 [2] U U (by rw[tZ];omega) bj
 have e5:=e5 U;have e6:L.length=2↔wx t.C:=e5.2;obtain⟨b,c1,c2⟩:=contains_diff t h1 U;obtain⟨k,hk⟩: ∃k,fuel=k+4:=⟨fuel-4,by rw[tZ]⟩
 have p0:ji.f t 0=some (if b=true then[] else[0,rd t.C 0]):=by
  unfold ji.f;have:bS 0=0:=ET U U;rw[af (by rfl),c1,aG,this]
  cases b
  ·rw[ah bj,af U,af bj];rfl
  ·rfl
 have p1:ji.f t 1=some (1::t.C):=by
  unfold ji.f;have:bS 1=1:=ET U U;rw[ah bj,af (by rfl),this,af bk];rfl
 have p2:ji.f t 2=some (2::L):=by
  unfold ji.f;have:bS 2=2:=ET U U;rw[ah bj,ah bj,this,agR,e1];rfl
 have n1:aa (0+1)=1:=bm U U;have n2:aa (1+1)=2:=bm U U;have n3:aa (2+1)=3:=bm U U;have nz:iw.f t.C=some (2::L):=by unfold iw.f;rw[e1];rfl
 unfold kY.f;rw[hk,kY.l0,af U,p0,aG,n1]
 by_cases hu:wx t.C
 ·have hbf:b=false:=c2.mpr hu;subst hbf;rw[ah (c:=false=true) bj];simp only[List.isEmpty_cons,List.isEmpty_nil,Bool.not_false,if_true,aG];rw[kY.l0,af U,p1,aG,n2];simp only[List.isEmpty_cons,Bool.not_false,if_true,Bool.false_eq_true,if_false,aG];rw[ah bk,kY.l0,af U,p2,aG,n3];simp only[List.isEmpty_cons,Bool.not_false,if_true,Bool.false_eq_true,if_false,aG];rw[ah bk,kY.l0,ah U];exact⟨L,0,[0,rd t.C 0],J,⟨nz,e6,e4,e8,e5.1,by omega,λ_=>⟨J,J⟩,λq=>absurd hu q,λq=>absurd hu q⟩⟩
 ·have hbt:b=true:=by
   cases hb:b
   ·exact absurd (c2.mp hb) hu
   ·rfl
  subst hbt;simp only[if_true,List.isEmpty_nil,Bool.not_true,Bool.false_eq_true,if_false,aG];rw[kY.l0,af U,p1,aG,n2];simp only[List.isEmpty_cons,List.isEmpty_nil,Bool.not_false,if_true,aG];rw[kY.l0,af U,p2,aG,n3];simp only[List.isEmpty_cons,Bool.not_false,if_true,Bool.false_eq_true,if_false,aG]
  by_cases hs:L.length<t.C.length
  ·rw[af bk,kY.l0,ah U];exact⟨L,2,2::L,J,⟨nz,e6,e4,e8,e5.1,by omega,λq=>absurd q hu,λ_ q=>absurd hs q,λ_ _=>⟨J,J⟩⟩⟩
  ·rw[ah bk,kY.l0,ah U];exact⟨L,1,1::t.C,J,⟨nz,e6,e4,e8,e5.1,by omega,λq=>absurd q hu,λ_ _=>⟨J,J⟩,λ_ q=>absurd q hs⟩⟩
theorem VU {t:aL} (h:si t): ∃L f out,sU.f t=some (out,0)/\Du t L f out:=by
 have hl:=oH h;obtain⟨L,f,out,e,hL⟩:=afz t hl.1 hl.2;refine⟨L,f,out,?_,hL⟩;unfold sU.f;rw[K9 t U,decide_eq_true h,aG,ah bj,e];rfl
theorem Qn {x:Int} (h0:0<=x) (h1:x<=4294967295):(((BitVec.ofInt (IntKind.bits .u64) x&&&BitVec.ofInt (IntKind.bits .u64) 4294967295).toNat:Nat):Int)=x:=by
 rw[BitVec.toNat_and];have e1:(BitVec.ofInt (IntKind.bits .u64) 4294967295).toNat=2^32-1:=by decide
 have e2:(BitVec.ofInt (IntKind.bits .u64) x).toNat=x.toNat:=by
  rw[BitVec.toNat_ofInt]
  show(x%((2^64:Nat):Int)).toNat=x.toNat
  rw[Int.emod_eq_of_lt h0 U]
 rw[e1,e2,Nat.and_two_pow_sub_one_eq_mod,Nat.mod_eq_of_lt U];omega
theorem MI {x:Int} (h0:0<=x) (h1:x<=4294967295):Int.fdiv x (2^32)=0:=by
 rw[Int.fdiv_eq_ediv_of_nonneg _ U];exact Int.ediv_eq_zero_of_lt h0 U
theorem QY {x y:Int} (hx:0<=x/\x<=1) (hy:0<=y/\y<=65536):sN.f x y=some (0,x*y):=by
 have Gz:0<=x*y/\x*y<=65536:=by
  have:x=0∨x=1:=U;rcases this with rfl |rfl<;>omega
 unfold sN.f Cw.f;simp only[aG];rw[MI hx.1 U,MI hy.1 U];simp only[Int.zero_mul,Int.mul_zero];rw[Qn hx.1 U,Qn hy.1 U,q_ hx.1 U,q_ hy.1 U,q_ Gz.1 U,MI Gz.1 U];have z:dU 0=0:=q_ U U;simp only[Int.add_zero,z];have f0:Int.fdiv 0 (2^32)=0:=by decide
 rw[f0];have a0:(((BitVec.ofInt (IntKind.bits .u64) 0&&&BitVec.ofInt (IntKind.bits .u64) 4294967295).toNat:Nat):Int)=0:=by decide
 simp only[a0,z,Int.add_zero,f0]
theorem aab {c m:Int} {v1:Int×Int} (hv:aa v1.2=m) (hm:1<=m/\m<=8192): ∀(n k:Nat) (x:List Int) (p:Int),p+n=m->1<=p->n<k->(x.length:Int)=m->(∀j:Int,0<=j->j<p->rd x j=c)->
 lC.l0 k v1 m x p=some (List.replicate m.toNat c):=by
 intro n
 induction n using Nat.strongRecOn with
 |_ n ih=>
  intro k x p hp p1 hk hx hc;obtain⟨k,rfl⟩:=bl hk;rw[lC.l0,hv]
  by_cases hn:n=0
  ·rw[ah U]
   congr 1
   refine AY bk (λj j0 j1=>?_);rw[hc j j0 U,uB j0 U]
  ·have abp:(if m<p then m else p)=p:=by rw[ah U]
   rw[af U,abp,af U,af U];have yW:(aA x 0 p).length=p.toNat:=by simp[aA];omega
   have qC:(aA x p (x.length:Int)).length=(m-p).toNat:=by simp[aA];omega
   have lG:(ck x p.toNat (min (aA x 0 p).length (aA x p (x.length:Int)).length) (aA x 0 p)).length=x.length:=Ah U U;rw[yW,qC] at lG⊢;rw[bm U U];refine ih (n-(min p.toNat (m-p).toNat)) U k _ _ U U U U (λj j0 j1=>?_);have D7:rd (ck x p.toNat (min p.toNat (m-p).toNat) (aA x 0 p)) j=if j<p then rd x j else rd x (j-p):=by
    unfold ck
    by_cases hj:j<p
    ·rw[af hj,zp j0 bk];unfold rd;rw[List.getD_eq_getElem?_getD,List.getD_eq_getElem?_getD,List.getElem?_take_of_lt U]
    ·rw[ah hj,mT bk,zp bk (by simp[aA];omega)]
     have e:j-((List.take p.toNat x).length:Int)=j-p:=by simp;omega
     rw[e];unfold rd aA;rw[List.getD_eq_getElem?_getD,List.getD_eq_getElem?_getD,List.getElem?_take_of_lt U,List.getElem?_take_of_lt U];simp
   rw[D7]
   by_cases hj:j<p
   ·rw[af hj];exact hc j j0 hj
   ·rw[ah hj];exact hc (j-p) U U
theorem O7 {c m:Int} (hm:1<=m/\m<=8192):lC.f [c] m=some (List.replicate m.toNat c):=by
 unfold lC.f;have e1:dU ((List.length [c]:Nat):Int)=1:=q_ bj bj;have e2:dU m=m:=q_ U U;rw[ah bk,ah U,e1,e2,QY U U,aG,Int.one_mul];have e3:aa m=m:=bm U U;have hb:((decide ((0:Int)>0))||(decide (m>9223372036854775807)))=false:=by
  rw[decide_eq_false U,decide_eq_false U];rfl
 simp only[hb,e3];rw[ah bj,ah bj,ah U,aG,af U];refine YC (agu m) (λx hx=>?_);obtain⟨hl,_⟩:=hx;rw[af U];have NX:min (List.length [c]) x.length=1:=by simp;omega
 rw[NX];have:=aab (c:=c) (v1:=(0,m)) (m:=m) e3 hm (m-1).toNat fuel (ck x 0 1 [c]) 1 U U (by rw[tZ];omega) (by rw[Ah U bj];omega) (λj j0 j1=>by
  have:j=0:=U;subst this;simp[ck];rfl)
 rw[show(((1:Nat):Int))=1 by rfl,this,aG]
theorem ahv {m:Int} (hm:1<=m/\m<=8192):lC.f [] m=some []:=by
 unfold lC.f;have e1:dU ((List.length ([]:List Int):Nat):Int)=0:=q_ bj bj;have e2:dU m=m:=q_ U U;rw[ah bk,ah U,e1,e2,QY U U,aG,Int.zero_mul];simp
theorem ahn {L:List Int} {lo hi j:Int} (h0:0<=lo) (j0:0<=j) (j1:lo+j<hi):rd (aA L lo hi) j=rd L (lo+j):=by
 unfold rd aA;rw[List.getD_eq_getElem?_getD,List.getD_eq_getElem?_getD,List.getElem?_take_of_lt U,List.getElem?_drop,show(lo+j).toNat=lo.toNat+j.toNat by omega]
theorem Bh {L:List Int} {lo hi:Int} (h0:0<=lo) (h1:lo<=hi) (h2:hi<=L.length):((aA L lo hi).length:Int)=hi-lo:=by rw[iN ⟨h0,h1,h2⟩];omega
theorem HR {L:List Int} {lo hi:Int} {P:Int->Prop} (h: ∀y∈L,P y): ∀y∈aA L lo hi,P y:=λy hy=>h y (List.mem_of_mem_drop (List.mem_of_mem_take hy))
theorem Xo {b:List Int} {a n:Int} (hb:b.length<=100000) (a0:0<=a) (a1:a<=b.length) (h:b.length<a+n):mS.f ⟨b,a⟩ n=some ([],.eh 6,⟨b,a⟩):=by
 unfold mS.f;simp only;rw[bm (x:=_-a) U U,af U]
theorem Xn {b:List Int} {a n:Int} (hb:b.length<=100000) (a0:0<=a) (n0:0<=n) (h:a+n<=b.length):mS.f ⟨b,a⟩ n=some (aA b a (a+n),.nil,⟨b,a+n⟩):=by
 unfold mS.f;simp only;rw[bm (x:=_-a) U U,ah U,bm (x:=a+n) U U,bm (x:=a+n-n) U U,af U,show a+n-n=a by omega]
inductive nf where
 |short:nf
 |form:nf
 |ok:List Int->Int->nf
theorem u8 {b:List Int} (hb: ∀y∈b,eP y) {i:Int} (h0:0<=i) (h1:i<b.length):0<=rd b i/\rd b i<=255:=by
 have:=hb _ (uA h0 h1);unfold eP at this;omega
theorem aaT {b:List Int} {a n:Int} (hb:b.length<=100000) (a0:0<=a) (a1:a<=b.length) (h:b.length<a+n):p8.f ⟨b,a⟩ n=some ([],.eh 6,⟨b,a⟩):=by
 unfold p8.f;rw[Xo hb a0 a1 h];rfl
theorem aaS {b:List Int} {a n:Int} (hb:b.length<=100000) (a0:0<=a) (n0:0<=n) (h:a+n<=b.length):p8.f ⟨b,a⟩ n=some (aA b a (a+n),if 0∈aA b a (a+n) then .eh 5 else .nil,⟨b,a+n⟩):=by
 unfold p8.f;have hl:=Bh a0 (show a<=a+n by omega) h
 rw[Xn hb a0 n0 h,aG];simp only[Er.isNil,if_true];rw[Mp _ _ U];simp only[aG]
 by_cases hz:0∈aA b a (a+n)
 ·rw[af hz,af (by simpa using hz)]
 ·rw[ah hz,ah (by simpa using hz)]
theorem ahr {t:aL} {L:List Int} {f:Int} {out:List Int} (h1:1<=t.C.length) (hb:t.C.length<=256) (h:Du t L f out):xI.f t=some (f,out):=by
 unfold xI.f;rw[h.runs,aG];have hge:=h.ge;have hle:=h.le;have hlen:(((2::L:List Int).length:Nat):Int)=L.length+1:=by simp
 rw[hlen]
 by_cases hu:wx t.C
 ·have:=h.two.mpr hu;obtain⟨e1,e2⟩:=h.PK hu;rw[af bk,af U,e1,e2]
 ·have bM: ¬L.length=2:=λq=>hu (h.two.mp q);rw[ah bk,bm U U]
  by_cases hs:L.length<t.C.length
  ·obtain⟨e1,e2⟩:=h.short hu hs;rw[af U,e1,e2]
  ·obtain⟨e1,e2⟩:=h.Ou hu hs;rw[ah U,af bk,e1,e2];rfl
theorem ab0 {b:List Int} {w h n:Int} (hw:1<=w/\w<=16) (hh:1<=h/\h<=16) (hn:aa (w*h)=n) {x:List Int} {q:Int} (hx:x.length<=100000) (hr:sV.f ⟨b,0⟩ n=some (x,.eh 6,⟨b,q⟩)):qM.f b w h=some (⟨0,0,[]⟩,0,2):=by
 unfold qM.f vT.f nQ.f;have e:(((decide (w<1)||decide (w>16))||decide (h<1))||decide (h>16))=false:=by simp;omega
 rw[hn,hr];simp only[e,Bool.false_eq_true,if_false,aG,Er.isNil];rw[af bk]
 rfl
theorem abY {b:List Int} {w h n:Int} (hw:1<=w/\w<=16) (hh:1<=h/\h<=16) (hn:aa (w*h)=n) {x:List Int} {q:Int} (hx:x.length<=100000) (hr:sV.f ⟨b,0⟩ n=some (x,.eh 5,⟨b,q⟩)):qM.f b w h=some (⟨0,0,[]⟩,0,3):=by
 unfold qM.f vT.f nQ.f;have e:(((decide (w<1)||decide (w>16))||decide (h<1))||decide (h>16))=false:=by simp;omega
 rw[hn,hr];simp only[e,Bool.false_eq_true,if_false,aG,Er.isNil];rw[af bk]
 rfl
theorem abZ {b:List Int} {w h n:Int} (hw:1<=w/\w<=16) (hh:1<=h/\h<=16) (hn:aa (w*h)=n) {x:List Int} {p:Int} (hx:x.length<=100000) (hp:0<=p/\p<=b.length) (hr:sV.f ⟨b,0⟩ n=some (x,.nil,⟨b,p⟩)) {out:List Int} {f:Int} (aeD:sU.f ⟨w,h,x⟩=some (out,f)):
 qM.f b w h=some (if HP out (aA b 0 p)=true then(⟨w,h,x⟩,p,0) else(⟨0,0,[]⟩,0,3)):=by
 unfold qM.f vT.f nQ.f DF.f;have e:(((decide (w<1)||decide (w>16))||decide (h<1))||decide (h>16))=false:=by simp;omega
 rw[hn,hr];simp only[e,Bool.false_eq_true,if_false,aG,Er.isNil,if_true,List.nil_append];rw[af bk];simp only[aG,Er.isNil,if_true];rw[aeD];simp only[aG];rw[af U]
 cases hs:HP out (aA b 0 p)
 ·rfl
 ·rfl
abbrev HB (w h s:Int):Nat:=((ax w h s).1*(ax w h s).2).toNat
theorem WW {w h s:Int} (hs:bJ w h s):1<=HB w h s/\HB w h s<=256/\((HB w h s:Nat):Int)=(ax w h s).1*(ax w h s).2:=by
 obtain⟨z1,z2,z3,z4⟩:=qf hs;have h1:(ax w h s).1*(ax w h s).2<=16*16:=ky U U z2 z4;have h2:1*1<=(ax w h s).1*(ax w h s).2:=ky U U z1 z3;unfold HB;omega
theorem ahH {m:aL} (hm:tK m) (s:Int):nK.f m s=some (fD m s):=ai4 hm s
def qG (w h s c:Int):Prop:=16*(s%(bq w h).1)<=c%w/\c%w<16*(s%(bq w h).1)+(ax w h s).1/\16*(s/(bq w h).1)<=c/w/\c/w<16*(s/(bq w h).1)+(ax w h s).2
instance (w h s c:Int):Decidable (qG w h s c):=by unfold qG;infer_instance
def loc (w h s c:Int):Int:=(c/w-16*(s/(bq w h).1))*(ax w h s).1+(c%w-16*(s%(bq w h).1))
theorem ahC {w h s:Int} (hs:bJ w h s):16*(s%(bq w h).1)+(ax w h s).1<=w/\16*(s/(bq w h).1)+(ax w h s).2<=h:=by
 unfold ax;rw[af hs];simp only;omega
theorem afE {w h s c:Int} (hs:bJ w h s) (hi:qG w h s c):0<=loc w h s c/\loc w h s c<(ax w h s).1*(ax w h s).2:=by
 obtain⟨i1,i2,i3,i4⟩:=hi;unfold loc;exact sw U U U U
theorem ah7 {w h c:Int} (hc:bV w h c): ∃s,bJ w h s/\qG w h s c:=by
 have hs:=ED hc;obtain⟨a,b,d,e⟩:=EC hc;have hn:=qK (a:=(bq w h).1) (x:=c%w/16) (y:=c/w/16) a b;have hp:=vU hc;refine⟨_,hs,?_⟩;unfold qG ax;rw[af hs,hn.1,hn.2];simp only;generalize c%w=x at*;generalize c/w=y at*;omega
theorem ahE {w a X tw c:Int} (hw:0<w) (X0:0<=X) (ht:X+tw<=w):(a*w+X<=c/\c<a*w+X+tw)↔(c/w=a/\X<=c%w/\c%w<X+tw):=by
 constructor
 ·rintro⟨h1,h2⟩;have:=qK (a:=w) (x:=c-a*w) (y:=a) U U;rw[show a*w+(c-a*w)=c by omega] at this
  obtain⟨e1,e2⟩:=this;rw[e1,e2];exact⟨J,by omega,by omega⟩
 ·rintro⟨rfl,h2,h3⟩;have:=Int.mul_ediv_add_emod c w;rw[Int.mul_comm] at this;omega
theorem ahm {x S:List Int} {p n c:Int} (p0:0<=p) (n0:0<=n) (hx:p+n<=x.length) (hS:n<=S.length) (c0:0<=c):rd (ck x p.toNat n.toNat S) c=if p<=c/\c<p+n then rd S (c-p) else rd x c:=by
 unfold ck
 by_cases h1:c<p
 ·rw[ah U,zp c0 bk];unfold rd;rw[List.getD_eq_getElem?_getD,List.getD_eq_getElem?_getD,List.getElem?_take_of_lt U]
 ·have e:c-((List.take p.toNat x).length:Int)=c-p:=by simp;omega
  rw[mT bk,e]
  by_cases h2:c<p+n
  ·rw[af ⟨by omega,h2⟩,zp U bk]
   unfold rd;rw[List.getD_eq_getElem?_getD,List.getD_eq_getElem?_getD,List.getElem?_take_of_lt U]
  ·rw[ah U,mT bk];have e2:c-p-((List.take n.toNat S).length:Int)=c-p-n:=by simp;omega
   rw[e2];unfold rd;rw[List.getD_eq_getElem?_getD,List.getD_eq_getElem?_getD,List.getElem?_drop,show p.toNat+n.toNat+(c-p-n).toNat=c.toNat by omega]
theorem afs {w h s:Int} (hs:bJ w h s) {t:aL} (hW:t.W=(ax w h s).1) (hH:t.H=(ax w h s).2) (hC:(t.C.length:Int)=(ax w h s).1*(ax w h s).2) {x:List Int} (hx:(x.length:Int)=w*h):
 ∃x',og.f ⟨w,h,x⟩ s t=some x'/\(x'.length:Int)=w*h/\ ∀c,0<=c->c<w*h->rd x' c=if qG w h s c then rd t.C (loc w h s c) else rd x c:=by
 have hz:=qf hs;have NU:=tl hs;have hmp:=xv NU;obtain⟨r1,r2⟩:=ahC hs;obtain⟨p1,p2,p3,p4⟩:=uG hs;obtain⟨sn1,sn2,sn3⟩:=WW hs;unfold og.f;simp only;rw[Jq,aG];have hg:c_ w h s 0=16*(s/(bq w h).1)*w+16*(s%(bq w h).1):=by
  unfold c_;rw[af ⟨hs,by omega,by omega⟩,Int.zero_ediv,Int.zero_emod,Int.add_zero,Int.add_zero]
 rw[hg];generalize hX:16*(s%(bq w h).1)=X at*;generalize hY:16*(s/(bq w h).1)=Y at*;generalize N7:(ax w h s).1=tw at*;generalize Uq:(ax w h s).2=th at*;have key: ∀(n k:Nat) (y:Int) (z:List Int),y+n=th->0<=y->n<k->(z.length:Int)=w*h->(∀c,0<=c->c<w*h->rd z c=if qG w h s c/\c/w<Y+y then rd t.C (loc w h s c) else rd x c)->
  ∃x',og.l0 k ⟨w,h,x⟩ t (Y*w+X) z y=some x'/\(x'.length:Int)=w*h/\ ∀c,0<=c->c<w*h->rd x' c=if qG w h s c then rd t.C (loc w h s c) else rd x c:=by
  intro n
  induction n with
  |zero=>
   intro k y z hy y0 hk UC Ob;obtain⟨k,rfl⟩:=bl hk;refine⟨z,by rw[og.l0,ah U],UC,λc c0 c1=>?_⟩
   rw[Ob c c0 c1]
   by_cases hi:qG w h s c
   ·have:c/w<Y+y:=by
     have⟨_,_,_,i4⟩:=hi;rw[hY,Uq] at i4;omega
    rw[af ⟨hi,this⟩,af hi]
   ·rw[ah (λq=>hi q.1),ah hi]
  |succ n ih=>
   intro k y z hy y0 hk UC Ob;obtain⟨k,rfl⟩:=bl hk;have e1:(Y+y)*w=Y*w+y*w:=Int.add_mul _ _ _;have e2:(y+1)*tw=y*tw+tw:=by rw[Int.add_mul,Int.one_mul]
   have e3:(Y+y+1)*w=(Y+y)*w+w:=by rw[Int.add_mul,Int.one_mul]
   have b1:(Y+y+1)*w<=h*w:=Int.mul_le_mul_of_nonneg_right U U;have b2:h*w=w*h:=Int.mul_comm _ _;have b3:(y+1)*tw<=th*tw:=Int.mul_le_mul_of_nonneg_right U U;have b4:th*tw=tw*th:=Int.mul_comm _ _;have b5:0<=y*tw:=nG y0 U;have b6:0<=y*w:=nG y0 U;have b7:0<=Y*w:=nG U U;rw[og.l0,hH,af U];simp only;rw[hW,bm (x:=y*w) U U,bm (x:=Y*w+X+y*w) U U,bm (x:=y*tw) U U,bm (x:=y+1) U U,bm (x:=(y+1)*tw) U U];have hpe:Y*w+X+y*w=(Y+y)*w+X:=U;rw[hpe,af U,af U];have l1:=Bh (L:=t.C) (lo:=y*tw) (hi:=(y+1)*tw) b5 U U;have l2:=Bh (L:=z) (lo:=(Y+y)*w+X) (hi:=(z.length:Int)) U U U;have NX:min (aA t.C (y*tw) ((y+1)*tw)).length (aA z ((Y+y)*w+X) (z.length:Int)).length=tw.toNat:=U;rw[NX];have lG:(ck z ((Y+y)*w+X).toNat tw.toNat (aA t.C (y*tw) ((y+1)*tw))).length=z.length:=Ah U U;refine ih k (y+1) _ U U U U (λc c0 c1=>?_);rw[ahm U U U U c0];have Ul:=ahE (w:=w) (a:=Y+y) (X:=X) (tw:=tw) (c:=c) U U r1
   by_cases xk:(Y+y)*w+X<=c/\c<(Y+y)*w+X+tw
   ·obtain⟨q1,q2,q3⟩:=Ul.mp xk;have cn:qG w h s c:=by unfold qG;rw[hX,hY,N7,Uq];exact⟨q2,q3,by omega,by omega⟩
    rw[af xk,af ⟨cn,by omega⟩,ahn b5 U U]
    congr 1
    unfold loc;rw[hX,hY,N7,q1];have e4:(Y+y-Y)*tw=y*tw:=by rw[show Y+y-Y=y by omega]
    have:=Int.mul_ediv_add_emod c w;rw[Int.mul_comm,q1] at this;omega
   ·rw[ah xk,Ob c c0 c1]
    by_cases cn:qG w h s c
    ·have⟨i1,i2,i3,i4⟩:=cn;rw[hX] at i1;rw[hX,N7] at i2;have bM:c/w≠Y+y:=λq=>xk (Ul.mpr ⟨q,i1,i2⟩)
     by_cases aQ:c/w<Y+y
     ·rw[af ⟨cn,aQ⟩,af ⟨cn,by omega⟩]
     ·rw[ah (λq=>aQ q.2),ah (λq=>by have:=q.2;omega)]
    ·rw[ah (λq=>cn q.1),ah (λq=>cn q.1)]
 exact key th.toNat fuel 0 x U U (by rw[tZ];omega) hx (λc c0 c1=>by
  by_cases hi:qG w h s c
  ·have⟨_,_,i3,_⟩:=hi;rw[hY] at i3;rw[ah (λq=>by have:=q.2;omega)]
  ·rw[ah (λq=>hi q.1)])
theorem agC {x y:Nat} (hx:x<256):x|||(y*256)=x+256*y:=by
 have:=Nat.shiftLeft_add_eq_or_of_lt (b:=x) (i:=8) U y;rw[Nat.shiftLeft_eq] at this;have e8:(2:Nat)^8=256:=by decide
 rw[e8] at this;rw[Nat.or_comm,<-this];omega
theorem DX {x y:Int} (hx:eP x) (hy:eP y):aa (BitVec.toNat (BitVec.ofInt (IntKind.bits .i64) (aa x)|||BitVec.ofInt (IntKind.bits .i64) (aa ((aa y)*2^8))))=x+256*y:=by
 unfold eP at hx hy;rw[bm (x:=x) U U,bm (x:=y) U U,bm (x:=y*2^8) U U,BitVec.toNat_or];have e: ∀z:Int,0<=z->z<=1000000->(BitVec.ofInt (IntKind.bits .i64) z).toNat=z.toNat:=by
  intro z z0 z1;rw[BitVec.toNat_ofInt]
  show(z%((2^64:Nat):Int)).toNat=z.toNat
  rw[Int.emod_eq_of_lt z0 U]
 rw[e x U U,e (y*2^8) U U];have e2:(y*2^8).toNat=y.toNat*256:=U;rw[e2,agC U,bm U U];omega
theorem PW {x:Int}:bS x=x%256:=by
 unfold bS IntKind.wrap IntKind.signed IntKind.bits;simp
structure wM (m:aL):Prop where
 ok:tK m
 su: ∀y∈m.C,1<=y/\y<=255
theorem Pk {m:aL} (hm:wM m) {s:Int} (hs:bJ m.W m.H s):si (fD m s)/\ ∀y∈(fD m s).C,1<=y/\y<=255:=by
 have hz:=qf hs;obtain⟨n1,n2,n3⟩:=WW hs;have hb: ∀y∈(fD m s).C,1<=y/\y<=255:=by
  intro y hy;unfold fD kF at hy;simp only[List.mem_map,List.mem_range] at hy;obtain⟨l,hl,rfl⟩:=hy;have hg:=Ak (l:=(l:Int)) hs U U;exact hm.su _ (uA hg.1 (by rw[hm.ok.2.1];exact hg.2))
 refine⟨⟨hz.1,hz.2.1,hz.2.2.1,hz.2.2.2,?_,λq=>by have:=hb 0 q;omega⟩,hb⟩
 show((kF m s (HB m.W m.H s)).length:Int)=_
 rw[Dh,n3]
def Ha (m:aL) (s:Int):List Int:=((sU.f (fD m s)).getD ([],0)).1
theorem VC {m:aL} (hm:wM m) {s:Int} (hs:bJ m.W m.H s): ∃L f,sU.f (fD m s)=some (Ha m s,0)/\Du (fD m s) L f (Ha m s):=by
 obtain⟨L,f,out,e,hL⟩:=VU (Pk hm hs).1;have:Ha m s=out:=by unfold Ha;rw[e];rfl
 exact⟨L,f,by rw[this];exact e,by rw[this];exact hL⟩
theorem VB {t:aL} (h:si t) {L:List Int} {f:Int} {out:List Int} (hL:Du t L f out):2<=out.length/\out.length<=1+t.C.length:=by
 have hl:=oH h;have h2:=hL.ge
 by_cases hu:wx t.C
 ·rw[(hL.PK hu).2];simp;omega
 ·by_cases hs:L.length<t.C.length
  ·rw[(hL.short hu hs).2];simp;omega
  ·rw[(hL.Ou hu hs).2];simp;omega
theorem abq {t:aL} (h:si t) (hu: ∀y∈t.C,1<=y/\y<=255) {i:Int} {L:List Int} (he:Dp t.C i L): ∀y∈L,eP y:=by
 have hl:=oH h
 induction he with
 |done=>intro y hy;simp at hy
 | @run i e L i0 e1 hie same stop rest ih=>
  intro y hy;simp only[List.mem_cons] at hy;have hm:=hu _ (uA i0 (show i<(t.C.length:Int) by omega))
  rcases hy with q |q |q
  ·rw[q];exact⟨by omega,by omega⟩
  ·rw[q];exact⟨by omega,by omega⟩
  ·exact ih y q
theorem agG {v:aL} (hv:si v) (hu: ∀y∈v.C,1<=y/\y<=255) {L:List Int} {f:Int} {out:List Int} (hL:Du v L f out): ∀y∈out,eP y:=by
 have hC: ∀y∈v.C,eP y:=λy hy=>by have:=hu y hy;exact⟨by omega,by omega⟩
 have Uw:=oH hv
 by_cases hn:wx v.C
 ·rw[(hL.PK hn).2];intro y hy;simp only[List.mem_cons,List.not_mem_nil,or_false] at hy;rcases hy with q |q
  ·rw[q];exact⟨by omega,by omega⟩
  ·rw[q];exact hC _ (uA U U)
 ·by_cases hs:L.length<v.C.length
  ·rw[(hL.short hn hs).2];intro y hy;simp only[List.mem_cons] at hy;rcases hy with q |q
   ·rw[q];exact⟨by omega,by omega⟩
   ·exact abq hv hu hL.enc y q
  ·rw[(hL.Ou hn hs).2];intro y hy;simp only[List.mem_cons] at hy;rcases hy with q |q
   ·rw[q];exact⟨by omega,by omega⟩
   ·exact hC y q
def outs (m:aL):Nat->Int->List Int
 |0,_=>[]
 |n+1,s=>Ha m s++outs m n (s+1)
theorem VD {m:aL} (hm:wM m): ∀(n:Nat) (i:Int),i+n=dO m.W m.H->0<=i->(2*n<=(outs m n i).length/\(outs m n i).length<=257*n)/\ ∀y∈outs m n i,eP y:=by
 intro n
 induction n with
 |zero=>intro i _ _;exact⟨by simp[outs],by simp[outs]⟩
 |succ n ih=>
  intro i hi i0;have hs:bJ m.W m.H i:=⟨i0,by omega⟩
  obtain⟨L,f,e,hL⟩:=VC hm hs;obtain⟨t1,t2⟩:=Pk hm hs;have hl:=VB t1 hL;have hc:=oH t1;obtain⟨h1,h2⟩:=ih (i+1) U U;refine⟨by simp only[outs,List.length_append];omega,λy hy=>?_⟩
  simp only[outs,List.mem_append] at hy;rcases hy with q |q
  ·exact agG t1 t2 hL y q
  ·exact h2 y q
def Au (m:aL):List Int:=[bS m.W,bS (Int.fdiv m.W (2^8)),bS m.H,bS (Int.fdiv m.H (2^8))]
def bytesOf (m:aL):List Int:=Au m++outs m (dO m.W m.H).toNat 0
theorem ahG {m:aL} (hm:wM m): ∀(n k:Nat) (i:Int) (x:List Int),i+n=dO m.W m.H->0<=i->n<k->x.length<=10+257*i.toNat->lb.l0 k m x i=some (x++outs m n i):=by
 have kq:=oq m.W m.H;intro n
 induction n with
 |zero=>
  intro k i x hi i0 hk hx;obtain⟨k,rfl⟩:=bl hk;rw[lb.l0,KS,aG,ah U];simp[outs]
 |succ n ih=>
  intro k i x hi i0 hk hx;obtain⟨k,rfl⟩:=bl hk;have hs:bJ m.W m.H i:=⟨i0,by omega⟩
  obtain⟨L,f,e,hL⟩:=VC hm hs;obtain⟨t1,t2⟩:=Pk hm hs;have hl:=VB t1 hL;have hc:=oH t1;rw[lb.l0,KS,aG,af U,ahH hm.ok,aG,ahr hc.1 hc.2 hL,aG];simp only;rw[af U,bm U U,ih k (i+1) _ U U U (by simp only[List.length_append];omega)]
  simp[outs]
theorem WL {m:aL} (hm:wM m):lb.f m=some (bytesOf m):=by
 have hc:=oq m.W m.H;unfold lb.f;exact ahG hm (dO m.W m.H).toNat fuel 0 (Au m) U U (by rw[tZ];omega) (by simp[Au])
theorem ael (m:aL): ∀y∈Au m,eP y:=by
 intro y hy;unfold Au at hy;simp only[List.mem_cons,List.not_mem_nil,or_false,PW] at hy;unfold eP;rcases hy with q |q |q |q<;>omega
theorem aaf {m:aL} (hm:wM m): ∀y∈bytesOf m,eP y:=by
 intro y hy;have hc:=oq m.W m.H;unfold bytesOf at hy;rw[List.mem_append] at hy;rcases hy with q |q
 ·exact ael m y q
 ·exact(VD hm (dO m.W m.H).toNat 0 U U).2 y q
theorem aae {m:aL} (hm:wM m):6<=(bytesOf m).length/\(bytesOf m).length<=4+257*(dO m.W m.H).toNat:=by
 have hc:=oq m.W m.H;have hp:=aaU hm.ok.1;have:=(VD hm (dO m.W m.H).toNat 0 U U).1;unfold bytesOf;rw[List.length_append];have:(Au m).length=4:=rfl;omega
theorem aby {x:Int} (h0:0<=x):Int.fdiv x (2^8)=x/256:=by
 rw[Int.fdiv_eq_ediv_of_nonneg _ U];rfl
theorem TV {w:Int} (h0:0<=w) (h1:w<=65535):bS w+256*bS (Int.fdiv w (2^8))=w:=by
 rw[aby h0,PW,PW];omega
def Lr (b:List Int) (n:Int) (r:List Int×Er×eQ):Prop:=
 r.2.2.b=b/\0<=r.2.2.ba/\r.2.2.ba<=b.length/\r.1.length<=1000/\(r.2.1= .eh 5∨r.2.1= .eh 6∨(r.2.1= .nil/\(r.1.length:Int)=n/\ ∀y∈r.1,1<=y/\y<=255))
section
variable {b : List Int} {n : Int}
theorem PD (hl:b.length<=100000) {a m:Int} (a0:0<=a) (a1:a<=b.length) (m0:0<=m):(b.length<a+m/\mS.f ⟨b,a⟩ m=some ([],.eh 6,⟨b,a⟩))∨(a+m<=b.length/\mS.f ⟨b,a⟩ m=some (aA b a (a+m),.nil,⟨b,a+m⟩)):=by
 by_cases z:b.length<a+m
 ·exact .inl ⟨z,Xo hl a0 a1 z⟩
 ·exact .inr ⟨by omega,Xn hl a0 m0 U⟩
theorem Rm (hb: ∀y∈b,eP y) (hl:b.length<=100000) {a m:Int} (a0:0<=a) (a1:a<=b.length) (m0:0<=m) (m1:m<=256):Ok (p8.f ⟨b,a⟩ m) (λr=>Lr b m r/\(r.1.length:Int)<=m):=by
 by_cases z:b.length<a+m
 ·exact Ok.of (aaT hl a0 a1 z) ⟨⟨J,a0,a1,by simp,.inr (.inl J)⟩,by simpa using m0⟩
 ·have hs:=Bh a0 (show a<=a+m by omega) (show a+m<=b.length by omega)
  refine Ok.of (aaS hl a0 m0 U) ⟨⟨J,by simp only;omega,by simp only;omega,by simp only;omega,?_⟩,by simp only;omega⟩
  simp only
  by_cases y:0∈aA b a (a+m)
  ·rw[af y];exact .inl J
  ·rw[ah y];refine .inr (.inr ⟨J,by omega,λx hx=>?_⟩)
   have h8:=HR (P:=eP) hb x hx;unfold eP at h8;have:x≠0:=λq=>y (by rw[<-q];exact hx)
   omega
theorem ahP (hb: ∀y∈b,eP y) (hl:b.length<=100000) (n1:1<=n/\n<=256) (q:Int): ∀(m k:Nat) (a:Int) (x:List Int),(b.length-a).toNat<=m->m<k->0<=a->a<=b.length->(x.length:Int)<=n->(∀y∈x,1<=y/\y<=255)->
 Ok (pA.l0 k ⟨b,q⟩ n a x) (λz=>(∃e p,z= .inl ([],e,⟨b,p⟩)/\0<=p/\p<=b.length/\(e= .eh 5∨e= .eh 6))∨ ∃x' p,z= .inr (x',p)/\(x'.length:Int)=n/\0<=p/\p<=b.length/\ ∀y∈x',1<=y/\y<=255):=by
 intro m
 induction m with
 |zero=>
  intro k a x hm hk a0 a1 hx hy;obtain⟨k,rfl⟩:=bl hk;rw[pA.l0];refine Ok.ite (λz=>?_) λz=>Ok.pure (.inr ⟨x,a,J,by omega,a0,a1,hy⟩)
  rcases PD hl a0 a1 (show(0:Int)<=2 by omega) with⟨_,e⟩ |⟨t,e⟩
  ·exact Ok.eq e (Ok.pos J (Ok.pure (.inl ⟨_,_,J,a0,a1,.inr J⟩)))
  ·omega
 |succ m ih=>
  intro k a x hm hk a0 a1 hx hy;obtain⟨k,rfl⟩:=bl hk;rw[pA.l0];refine Ok.ite (λz=>?_) λz=>Ok.pure (.inr ⟨x,a,J,by omega,a0,a1,hy⟩)
  rcases PD hl a0 a1 (show(0:Int)<=2 by omega) with⟨_,e⟩ |⟨t,e⟩
  ·exact Ok.eq e (Ok.pos J (Ok.pure (.inl ⟨_,_,J,a0,a1,.inr J⟩)))
  ·refine Ok.eq e (Ok.neg (by simp[Er.isNil]) ?_)
   have hs:=Bh a0 (show a<=a+2 by omega) t
   have r0:=ek (a:=aA b a (a+2)) (i:=0) U U;have r1:=ek (a:=aA b a (a+2)) (i:=1) U U;have u0:=HR (P:=eP) hb _ r0;have u1:=HR (P:=eP) hb _ r1;unfold eP at u0 u1;simp only;generalize rd (aA b a (a+2)) 0=c at*;generalize rd (aA b a (a+2)) 1=v at*;rw[wi (x:=c) U U,wi (x:=c+1) U U,wi (x:=n-(x.length:Int)) U U,wi (x:=(x.length:Int)-1) U U];refine Ok.cx U (Ok.cx U ?_);refine Ok.bind (P:=λy:Bool=>y=false->v≠0/\c+1<=n-x.length) (Ok.ite (λy=>Ok.pure bj) λy=>?_) λy Ea=>?_
   ·have y: ¬(v=0∨c+1>n-x.length):=by simpa using y
    refine Ok.ite (λw=>Ok.cx U (Ok.pure λ_=>by omega)) λw=>Ok.pure λ_=>by omega
   ·refine Ok.ite (λw=>Ok.pure (.inl ⟨_,_,J,by omega,by omega,.inl J⟩)) λw=>?_
    obtain⟨v0,c1⟩:=Ea (by simpa using w)
    refine Ok.eq (O7 U) (Ok.cx bk (ih k (a+2) _ U U U U bk λy aeI=>?_));rcases List.mem_append.1 aeI with w |w
    ·exact hy y w
    ·have:=List.eq_of_mem_replicate w;omega
theorem Z' (hb: ∀y∈b,eP y) (hl:b.length<=100000) (n1:1<=n/\n<=256):Ok (sV.f ⟨b,0⟩ n) (Lr b n):=by
 unfold sV.f;rcases PD (b:=b) hl (Int.le_refl 0) U (show(0:Int)<=1 by omega) with⟨_,e⟩ |⟨t,e⟩
 ·exact Ok.eq e (Ok.pos J (Ok.pure ⟨J,Int.le_refl _,by simp only;omega,by simp,.inr (.inl J)⟩))
 refine Ok.eq e (Ok.neg (by simp[Er.isNil]) ?_)
 have hs:=Bh (L:=b) (Int.le_refl 0) (show(0:Int)<=0+1 by omega) t
 refine Ok.cx (by simp only;omega) (Ok.ite (λz=>?_) λz=>Ok.ite (λz=>?_) λz=>Ok.ite (λz=>?_) λz=>Ok.pure ⟨J,by simp only;omega,by simp only;omega,by simp,.inl J⟩)
 ·refine(Rm hb hl (a:=0+1) (m:=1) U U U U).bind λr hr=>?_
  obtain⟨⟨h1,h2,h3,h4,h5⟩,h9⟩:=hr;rcases h5 with h5 |h5 |⟨h5,h6,h7⟩
  rotate_left 2
  ·obtain⟨y,hy⟩: ∃y,r.1=[y]:=List.length_eq_one_iff.1 U;have:=h7 y (by rw[hy];exact List.mem_cons_self ..)
   rw[hy];refine Ok.eq (O7 U) (Ok.pure ⟨J,h2,h3,by simp;omega,.inr (.inr ⟨h5,by simp;omega,λx hx=>?_⟩)⟩)
   have:=List.eq_of_mem_replicate hx;omega
  all_goals
   obtain⟨x,ex,lx⟩: ∃x,lC.f r.1 n=some x/\x.length<=1000:=by
    cases yW:r.1 with
    |nil=>exact⟨_,ahv U,by simp⟩
    |cons c l=>
     rw[yW] at h9;have:l=[]:=List.length_eq_zero_iff.1 (by simp at h9;omega)
     subst this;exact⟨_,O7 U,by simp;omega⟩
   exact Ok.eq ex (Ok.pure ⟨J,h2,h3,lx,by simp[h5]⟩)
 ·refine(Rm hb hl (a:=0+1) (m:=n) U U U U).bind λr hr=>Ok.pure ?_
  obtain⟨⟨h1,h2,h3,h4,h5⟩,_⟩:=hr;exact⟨J,h2,h3,h4,h5⟩
 ·unfold pA.f;refine Ok.bind (P:=Lr b n) ?_ λr hr=>Ok.pure ⟨J,hr.2.1,hr.2.2.1,hr.2.2.2.1,hr.2.2.2.2⟩
  refine(ahP hb hl n1 (0+1) 100000 fuel (0+1) [] U (by rw[cD];omega) U U bk bj).bind λz hz=>?_
  rcases hz with⟨e',p,rfl,p0,p1,he⟩ |⟨x',p,rfl,hx,p0,p1,hy⟩
  ·exact Ok.pure ⟨J,p0,p1,by simp,he.imp id .inl⟩
  ·exact Ok.pure ⟨J,p0,p1,by simp only;omega,.inr (.inr ⟨J,hx,hy⟩)⟩
end
theorem O0 {x:Int} (h0:0<=x) (h1:x<=255): ∃v,vW.f x=some v/\1<=v/\v<=255:=by
 unfold vW.f;rw[mX h0,mX h0]
 by_cases h7:x%8=7
 ·rw[af (by simpa using h7)];exact⟨_,J,by omega,by omega⟩
 ·rw[ah (by simpa using h7)]
  by_cases h2:x<160
  ·rw[af h2,ET U U];exact⟨_,J,by omega,by omega⟩
  ·rw[ah h2];exact⟨_,J,by omega,by omega⟩
theorem afH {c:List Int} (hc: ∀y∈c,0<=y/\y<=255) {w h:Int} (hw:1<=w/\w<=40) (hh:1<=h/\h<=40): ∀(n k:Nat) (x:List Int) (i:Int),i+n=w*h->i=x.length->n<k->(∀y∈x,1<=y/\y<=255)->
 ∃m,kZ.l0 k c w h x i=some m/\m.W=w/\m.H=h/\(m.C.length:Int)=w*h/\ ∀y∈m.C,1<=y/\y<=255:=by
 have NT:w*h<=40*40:=ky U U hw.2 hh.2;have Cd:0<=w*h:=nG U U;intro n
 induction n with
 |zero=>
  intro k x i hi hx hk ha;obtain⟨k,rfl⟩: ∃q,k=q+1:=⟨k-1,by omega⟩
  rw[kZ.l0,bm (x:=w*h) U U,ah U];exact⟨_,J,J,J,by simp only;omega,ha⟩
 |succ n ih=>
  intro k x i hi hx hk ha;obtain⟨k,rfl⟩: ∃q,k=q+1:=⟨k-1,by omega⟩
  rw[kZ.l0,bm (x:=w*h) U U,af U];have next: ∀v,1<=v->v<=255-> ∃m,kZ.l0 k c w h (x++[v]) (aa (i+1))=some m/\m.W=w/\m.H=h/\(m.C.length:Int)=w*h/\ ∀y∈m.C,1<=y/\y<=255:=by
   intro v v0 v1;rw[bm U U];refine ih k _ (i+1) U bk U (λy hy=>?_);rw[List.mem_append] at hy;rcases hy with hy |hy
   ·exact ha y hy
   ·simp at hy;omega
  by_cases hz:(c.length:Int)>0
  ·have bM: ¬(c.length:Int)=0:=U;rw[af hz,af bM,af bM];have Az:0<=aa (i+aa (aa (Int.tdiv i c.length)*5)):=by
    have hd:0<=i/c.length/\i/c.length<=i:=⟨Int.ediv_nonneg U U,Int.ediv_le_self _ U⟩;rw[qX U,bm (x:=i/_) U U,bm (x:=_*5) U U,bm U U];omega
   have r0:0<=Int.tmod (aa (i+aa (aa (Int.tdiv i c.length)*5))) c.length:=by rw[mX Az];exact Int.emod_nonneg _ U
   have r1:Int.tmod (aa (i+aa (aa (Int.tdiv i c.length)*5))) c.length<c.length:=by rw[mX Az];exact Int.emod_lt_of_pos _ U
   rw[af ⟨r0,r1⟩];have je:=uA (a:=c) r0 r1;obtain⟨q0,q1⟩:=hc _ je;obtain⟨v,e,v0,v1⟩:=O0 q0 q1;rw[e,aG,af U];exact next v v0 v1
  ·rw[ah hz];obtain⟨v,e,v0,v1⟩:=O0 (x:=1) U U;rw[e,aG,af U];exact next v v0 v1
theorem afG (w h:Int) {c:List Int} (hc: ∀y∈c,0<=y/\y<=255): ∃m,kZ.f w h c=some m/\tK m/\m.W<=40/\m.H<=40/\ ∀y∈m.C,1<=y/\y<=255:=by
 unfold kZ.f;have h1:=PU (n:=w) (lo:=1) (hi:=40) U;have h2:=PU (n:=h) (lo:=1) (hi:=40) U;rw[PT U U U U,PT U U U U];simp only[aG];generalize 1+w%(40-1+1)=a at h1⊢;generalize 1+h%(40-1+1)=b at h2⊢;have NT:a*b<=40*40:=ky U U h1.2 h2.2;have Cd:0<=a*b:=nG U U;obtain⟨m,e,e1,e2,e3,e4⟩:=afH hc h1 h2 (a*b).toNat fuel [] 0 U bj (by rw[tZ];omega) bj
 refine⟨m,e,⟨⟨by omega,by omega,by omega,by omega⟩,by rw[e1,e2];exact e3,λh0=>?_⟩,by omega,by omega,e4⟩
 have:=e4 0 h0;omega
section
theorem abX {b:List Int} (hb: ∀y∈b,eP y) (hl:b.length<=100000) {w h:Int} (hw:1<=w/\w<=16) (hh:1<=h/\h<=16):
 Ok (qM.f b w h) (λr=>(r.2.2=2∨r.2.2=3)∨(r.2.2=0/\r.1.W=w/\r.1.H=h/\(r.1.C.length:Int)=w*h/\(∀y∈r.1.C,1<=y/\y<=255)/\0<=r.2.1/\r.2.1<=b.length)):=by
 have hn:1*1<=w*h:=ky U U hw.1 hh.1;have Ce:w*h<=16*16:=ky U U hw.2 hh.2;have N':aa (w*h)=w*h:=wi U U;obtain⟨⟨x,e,rr⟩,hr,h1,h2,h3,h4,h5⟩:=Z' hb hl (n:=w*h) U;simp only at h1 h2 h3 h4 h5;obtain⟨rb,p⟩:=rr;simp only at h1 h2 h3;subst h1;rcases h5 with rfl |rfl |⟨rfl,h6,h7⟩
 ·exact Ok.of (abY hw hh N' U hr) (.inl (.inr J))
 ·exact Ok.of (ab0 hw hh N' U hr) (.inl (.inl J))
 ·have ht:si ⟨w,h,x⟩:=⟨hw.1,hw.2,hh.1,hh.2,h6,λq=>by have:=h7 0 q;omega⟩
  obtain⟨L,f,out,e,_⟩:=VU ht;refine Ok.of (abZ hw hh N' U ⟨h2,h3⟩ hr e) ?_;split
  ·exact .inr ⟨J,J,J,h6,h7,h2,h3⟩
  ·exact .inl (.inr J)
theorem YK:yJ.f .nil=some none:=rfl
theorem Qp (n:Int):yJ.f (.num 243 n)=some (some n):=rfl
theorem YL (q n:Int):yJ.f (.wrap 301 [q] (.num 243 n))=some (some n):=rfl
theorem aho {w h:Int} (NU:iA w h) {b:List Int} (hw:rd b 0+256*rd b 1=w) (hh:rd b 2+256*rd b 3=h) (u0:eP (rd b 0)) (u1:eP (rd b 1)) (u2:eP (rd b 2)) (u3:eP (rd b 3)):
 ∀(n k:Nat) (i:Int) (r x:List Int),i+n=dO w h->0<=i->n<k->(∀y∈r,eP y)->r.length<=100000->(x.length:Int)=w*h->
 (∀c,0<=c->c<w*h->(∃s,0<=s/\s<i/\bJ w h s/\qG w h s c)->1<=rd x c/\rd x c<=255)->
 Ok (oZ.l0 k b (dO w h) r x i) (λres=>(∃e c,res=(⟨0,0,[]⟩,e)/\yJ.f e=some (some c)/\(c=2∨c=3))∨ ∃x',res=(⟨w,h,x'⟩,.nil)/\(x'.length:Int)=w*h/\ ∀c,0<=c->c<w*h->1<=rd x' c/\rd x' c<=255):=by
 have kq:=oq w h;intro n
 induction n with
 |zero=>
  intro k i r x hi i0 hk hr Gs hx ha;obtain⟨k,rfl⟩:=bl hk;rw[oZ.l0,DX u0 u1,DX u2 u3,hw,hh,ah U];refine Ok.ite (λhz=>Ok.pure (.inl ⟨_,3,J,J,.inr J⟩)) λhz=>Ok.pure (.inr ⟨x,J,hx,λc c0 c1=>?_⟩);obtain⟨s,s1,s2⟩:=ah7 (w:=w) (h:=h) (c:=c) ⟨NU,c0,c1⟩;exact ha c c0 c1 ⟨s,s1.1,by have:=s1.2;omega,s1,s2⟩
 |succ n ih=>
  intro k i r x hi i0 hk hr Gs hx ha;obtain⟨k,rfl⟩:=bl hk;have hs:bJ w h i:=⟨i0,by omega⟩
  have hz:=qf hs;rw[oZ.l0,DX u0 u1,DX u2 u3,hw,hh];refine Ok.pos U (Ok.eq (HF ..) ((abX hr Gs ⟨hz.1,hz.2.1⟩ ⟨hz.2.2.1,hz.2.2.2⟩).bind λres N4=>?_));rcases N4 with q |⟨q1,tW,tH,tC,tB,p0,p1⟩
  ·exact Ok.pos (by rcases q with q |q<;>simp[q]) (Ok.pure (.inl ⟨_,res.2.2,rfl,YL _ _,q⟩))
  ·obtain⟨x1,f1,f2,f3⟩:=afs hs (t:=res.1) tW tH tC (x:=x) hx;have sl:=Bh (L:=r) (lo:=res.2.1) (hi:=(r.length:Int)) p0 p1 U;rw[wi (x:=i+1) U U];refine Ok.neg (by simp[q1]) (Ok.eq f1 (Ok.cx U (ih k (i+1) _ x1 U U U (HR hr) U f2 λc c0 c1 ⟨s,s0,s1,s2,s3⟩=>?_)))
   rw[f3 c c0 c1]
   by_cases z:qG w h i c
   ·rw[af z];have hll:=afE hs z;exact tB _ (uA hll.1 U)
   ·rw[ah z];refine ha c c0 c1 ⟨s,s0,?_,s2,s3⟩;have:s≠i:=λq=>z (by rw[<-q];exact s3)
    omega
theorem Ys {b:List Int} (hb: ∀y∈b,eP y) (hl:b.length<=100000):Ok (wR.f b) (λr=>(r.2=2∨r.2=3)∨(r.2=0/\tK r.1/\(∀c:Int,0<=c->c<r.1.W*r.1.H->1<=rd r.1.C c/\rd r.1.C c<=255)/\r.1.W=rd b 0+256*rd b 1/\r.1.H=rd b 2+256*rd b 3)):=by
 unfold wR.f oZ.f
 by_cases h4:(b.length:Int)<4
 ·rw[af h4];exact Ok.eq J (Ok.eq (Qp 2) (Ok.pos J (Ok.pure (.inl (.inl J)))))
 have u0:eP (rd b 0):=hb _ (uA U U);have u1:eP (rd b 1):=hb _ (uA U U);have u2:eP (rd b 2):=hb _ (uA U U);have u3:eP (rd b 3):=hb _ (uA U U);rw[ah h4,af (show 0<=(0:Int)/\(0:Int)<(b.length:Int) by omega),af (show 0<=(1:Int)/\(1:Int)<(b.length:Int) by omega),af (show 0<=(2:Int)/\(2:Int)<(b.length:Int) by omega),af (show 0<=(3:Int)/\(3:Int)<(b.length:Int) by omega),DX u0 u1,DX u2 u3,AM,aG]
 generalize hw:rd b 0+256*rd b 1=w;generalize hh:rd b 2+256*rd b 3=h
 by_cases hm:iA w h
 ·have hp:=xv hm;have hc:=oq w h;rw[decide_eq_true hm,ah bj,af (show 0<=(4:Int)/\(4:Int)<=(b.length:Int)/\(b.length:Int)<=(b.length:Int) by omega),bm (x:=w*h) U U,af (show 0<=w*h/\w*h<=1099511627776 by omega)]
  have e:BM.f w h=some (dO w h):=by
   unfold BM.f;rw[EE,aG];have e:(bq w h).1*(bq w h).2=dO w h:=rfl;rw[e,wi U U]
  rw[e,aG];have sl:=Bh (L:=b) (lo:=4) (hi:=(b.length:Int)) U U U;refine(aho hm hw hh u0 u1 u2 u3 (dO w h).toNat fuel 0 (aA b 4 (b.length:Int)) (List.replicate (w*h).toNat 0) U U (by rw[cD];omega) (HR hb) U bk (λc _ _ ⟨s,s0,s1,_⟩=>by omega)).bind λres N4=>?_
  rcases N4 with⟨e',c,rfl,h1,h2⟩ |⟨x',rfl,xl,xb⟩
  ·exact Ok.eq h1 (Ok.pos J (Ok.pure (.inl h2)))
  ·refine Ok.eq YK (Ok.neg bj (Ok.pure (.inr ⟨J,⟨hm,xl,λq=>?_⟩,xb,J,J⟩)));obtain⟨c,c0,c1,e⟩:=jI q;have:=xb c c0 (by simp only at c1;omega)
   simp only at e;rw[e] at this;omega
 ·rw[decide_eq_false hm,af bj];exact Ok.eq J (Ok.eq (Qp 3) (Ok.pos J (Ok.pure (.inl (.inr J)))))
theorem WI (w h:Int) {c:List Int} (hc: ∀y∈c,eP y): ∃m,kZ.f w h c=some m/\wM m/\m.W<=40/\m.H<=40:=by
 obtain⟨m,e,ok,w40,h40,hb⟩:=afG w h (c:=c) (λy hy=>by have:=hc y hy;unfold eP at this;omega)
 exact⟨m,e,⟨ok,hb⟩,w40,h40⟩
end
section
structure rm (o:cV):Prop where
 k:0<=o.Kind/\o.Kind<=8
 a:0<=o.A/\o.A<=1000000
 b:0<=o.B/\o.B<=1000000
 m:o.Kind≠1->o.Map=[]
 b2:o.Kind=2->o.B<=255
 b5:o.Kind=5->o.B=0
 z:o.Kind=1∨o.Kind=7∨o.Kind=8->o.A=0/\o.B=0
 ld:o.Kind=1->(∀y∈o.Map,eP y)/\4<=o.Map.length/\o.Map.length<=100000/\rd o.Map 0+256*rd o.Map 1<=40/\rd o.Map 2+256*rd o.Map 3<=40
theorem RW {n:Int} (h0:0<=n) (h1:n<=1000000):rL.f n 4=some true:=by
 unfold rL.f;have e:aa (1*(2^(min (Int.toNat (aa (8*4))) (IntKind.bits .i64))))=4294967296:=by decide
 rw[e,af h0,af (by decide),decide_eq_true U]
theorem abE {n:Int} (h0:0<=n) (h1:n<=255):rL.f n 1=some true:=by
 unfold rL.f;have e:aa (1*(2^(min (Int.toNat (aa (8*1))) (IntKind.bits .i64))))=256:=by decide
 rw[e,af h0,af (by decide),decide_eq_true U]
theorem Jh:rL.f 0 0=some true:=by decide
theorem agB {o:cV} (h:rm o) (hk:o.Kind≠0):CJ.f o=some true:=by
 have hm:=h.m;have rH:=h.ld;have hz:=h.z;have h2:=h.b2;have h5:=h.b5;have ha:=RW h.a.1 h.a.2;have hb:=RW h.b.1 h.b.2;unfold CJ.f;rw[ah (by simpa using hk)]
 have hc:o.Kind=1∨o.Kind=2∨o.Kind=3∨o.Kind=4∨o.Kind=5∨o.Kind=6∨o.Kind=7∨o.Kind=8:=by have:=h.k;omega
 rcases hc with e |e |e |e |e |e |e |e
 ·have:=hz (.inl e);have hl:=rH e;simp only[e,this.1,this.2,py.f,beq_self_eq_true,if_true,aG,Jh]
  by_cases q:(o.Map.length:Int)=0
  ·omega
  ·rw[ah (by simpa using q)];simp;omega
 ·have DV:=abE h.b.1 (h2 e);simp[e,py.f,ha,DV,hm U]
 ·simp[e,py.f,ha,hb,hm U]
 ·simp[e,py.f,ha,hb,hm U]
 ·simp[e,py.f,ha,h5 e,Jh,hm U]
 ·simp[e,py.f,ha,hb,hm U]
 ·have:=hz (.inr (.inl e));simp[e,py.f,this.1,this.2,Jh,hm U]
 ·have:=hz (.inr (.inr e));simp[e,py.f,this.1,this.2,Jh,hm U]
theorem yi {n lo hi:Int} (h0:0<=lo) (h1:lo<=hi) (h2:hi<=1000000): ∃r,fv.f n lo hi=some r/\lo<=r/\r<=hi:=
 ⟨_,PT U U h1 U,PU h1⟩
theorem PV (x:Int):0<=bS x/\bS x<=255:=aje x
theorem aiu (x:sK) {n:Int} (n1:1<=n) (n2:n<=1600):Ok (xJ.f x n) rm:=by
 obtain⟨a,ea,a0,a1⟩:=yi (n:=x.B) (lo:=1) (hi:=6) U U U;obtain⟨b,eb,b0,b1⟩:=yi (n:=x.A) (lo:=0) (hi:=5) U U U;obtain⟨c,ec,c0,c1⟩:=yi (n:=x.A) (lo:=0) (hi:=9) U U U;obtain⟨d,ed,d0,d1⟩:=yi (n:=x.A) (lo:=0) (hi:=n-1) U U U;obtain⟨e,ee,e0,e1⟩:=yi (n:=x.A) (lo:=0) (hi:=1) U U U;unfold xJ.f;rw[ea,eb,ec,wi (x:=n-1) U U,ed,ee];simp only[aG];rw[wi (x:=n+b) U U,wi (x:=e*255) U U];have w1:=PV x.A;have w2:=PV x.B;refine Ok.ite (λq=>Ok.pure ?_) λq=>Ok.ite (λq'=>Ok.pure ?_) λq'=>Ok.ite (λCQ=>Ok.pure ?_) λCQ=>Ok.pure ?_
 ·have q:a=1:=by simpa using q
  subst q;refine⟨by simp,by simp,by simp,λz=>by simp at z,λz=>by simp at z,λz=>by simp at z,λ_=>⟨J,J⟩,λ_=>⟨λy hy=>?_,by simp,by simp,by simp[rd],by simp[rd]⟩⟩
  unfold eP;simp only[List.mem_cons,List.not_mem_nil,or_false] at hy;rcases hy with rfl |rfl |rfl |rfl |rfl |rfl |rfl<;>omega
 ·have q':a=2:=by simpa using q'
  subst q';exact⟨by simp,by simp only;omega,by simp only;omega,λ_=>rfl,λ_=>by simp only;omega,λz=>by simp at z,λz=>by simp at z,λz=>by simp at z⟩
 ·have CQ:a=5:=by simpa using CQ
  subst CQ;exact⟨by simp,by simp only;omega,by simp,λ_=>rfl,λz=>by simp at z,λ_=>rfl,λz=>by simp at z,λz=>by simp at z⟩
 ·have q:a≠1:=by simpa using q
  have q':a≠2:=by simpa using q'
  have CQ:a≠5:=by simpa using CQ
  exact⟨by simp only;omega,by simp only;omega,by simp only;omega,λ_=>rfl,λz=>absurd z q',λz=>absurd z CQ,λz=>by simp only at z;omega,λz=>absurd z q⟩
theorem U_ {m:aL} (hm:wM m) (h1:m.W<=40) (h2:m.H<=40):rm ⟨1,0,0,bytesOf m⟩:=by
 have N0:=hm.ok.1;have hl:=aae hm;have hc:=oq m.W m.H;have e: ∀j:Int,0<=j->j<4->rd (bytesOf m) j=rd (Au m) j:=λj j0 j1=>by unfold bytesOf;exact zp j0 (by simp[Au];omega)
 have hw:=TV (w:=m.W) U U;have hh:=TV (w:=m.H) U U;refine⟨by simp,by simp,by simp,λz=>by simp at z,λz=>by simp at z,λz=>by simp at z,λ_=>⟨J,J⟩,λ_=>⟨aaf hm,by simp only;omega,?_,?_,?_⟩⟩
 ·have:dO m.W m.H<=3*3:=by
   unfold dO bq;rw[af hm.ok.1];exact ky (by simp only;omega) (by simp only;omega) (by simp only;omega) (by simp only;omega)
  simp only;omega
 ·simp only;rw[e 0 U U,e 1 U U]
  show bS m.W+256*bS (Int.fdiv m.W (2^8))<=40
  omega
 ·simp only;rw[e 2 U U,e 3 U U]
  show bS m.H+256*bS (Int.fdiv m.H (2^8))<=40
  omega
theorem Va {m:aL} (hm:wM m) (h1:m.W<=40) (h2:m.H<=40):1<=m.C.length/\m.C.length<=1600:=by
 have hp:=xv hm.ok.1;have:=hm.ok.2.1;have N0:=hm.ok.1;have:m.W*m.H<=40*40:=ky U U h1 h2;omega
theorem ah0 (w h:Int) {c:List Int} (hc: ∀y∈c,eP y) (l:List sK): ∀(n k:Nat) (a b:Int) (C:List Int) (x:List cV) (N i:Int),(60-i).toNat<=n->n<k->0<=i->1<=N->N<=1600->(x.length:Int)<=1+i->i<=60->(∀o∈x,rm o)->x≠[]->
 Ok (nL.l0 k w h c l a b C x N i) (λr=>r≠[]/\r.length<=61/\ ∀o∈r,rm o):=by
 have fin: ∀(k:Nat) (a b:Int) (C:List Int) (x:List cV) (N i:Int),¬(i<l.length/\i<60)->(x.length:Int)<=1+i->i<=60->(∀o∈x,rm o)->x≠[]->Ok (nL.l0 (k+1) w h c l a b C x N i) (λr=>r≠[]/\r.length<=61/\ ∀o∈r,rm o):=λk a b C x N i hi hx ei ha bM=>by
  rw[nL.l0,ah (by simpa using hi)]
  exact Ok.pure ⟨bM,by omega,ha⟩
 intro n
 induction n with
 |zero=>
  intro k a b C x N i hn hk h0 n1 n2 hx ei ha bM;obtain⟨k,rfl⟩:=bl hk;exact fin k a b C x N i U hx ei ha bM
 |succ n ih=>
  intro k a b C x N i hn hk h0 n1 n2 hx ei ha bM;obtain⟨k,rfl⟩:=bl hk
  by_cases aQ:i<l.length/\i<60
  ·rw[nL.l0,af (by simpa using aQ),af ⟨h0,aQ.1⟩,wi (x:=N-1) U U,wi (x:=i+1) U U]
   obtain⟨p,ep,p0,p1⟩:=yi (n:=(rd l i).A) (lo:=0) (hi:=N-1) U U U;obtain⟨q,eq,q0,q1⟩:=yi (n:=(rd l i).B) (lo:=0) (hi:=N-1) U U U;obtain⟨v,ev,v0,v1⟩:=yi (n:=(rd l i).Kind) (lo:=0) (hi:=15) U U U;obtain⟨s,es,s0,s1⟩:=yi (n:=(rd l i).A) (lo:=0) (hi:=9) U U U;obtain⟨t,et,t0,t1⟩:=yi (n:=(rd l i).B) (lo:=0) (hi:=200) U U U;rw[ep,eq,ev,es,et];simp only[aG];refine Ok.bind (P:=λr:Int×Int×List Int×Int×Int×Int×Int×List Int=>1<=r.2.2.2.1/\r.2.2.2.1<=1600/\rm ⟨r.2.2.2.2.1,r.2.2.2.2.2.1,r.2.2.2.2.2.2.1,r.2.2.2.2.2.2.2⟩) ?_ λr hr=>Ok.cx U (ih k _ _ _ _ _ (i+1) U U U hr.1 hr.2.1 bk U (λo ho=>?_) bj)
   ·have e3:(if(v==0)=true then(some (v==0)) else(if(v==1)=true then(some (v==1)) else(some (v==2))))=some (decide (v=0∨v=1∨v=2)):=by
     by_cases z:v=0
     ·simp[z]
     ·by_cases z':v=1<;>simp[z,z']
      rw[Bool.eq_iff_iff];simp
    refine Ok.eq e3 (Ok.ite (λz=>Ok.pure ⟨n1,n2,by simp,by simp only;omega,by simp only;omega,λ_=>rfl,λz=>by simp at z,λz=>by simp at z,λz=>by simp at z,λz=>by simp at z⟩) λz=>?_)
    refine Ok.ite (λz=>Ok.pure ⟨n1,n2,by simp,by simp only;omega,by simp only;omega,λ_=>rfl,λz=>by simp at z,λz=>by simp at z,λz=>by simp at z,λz=>by simp at z⟩) λz=>?_
    refine Ok.ite (λz=>Ok.pure ⟨n1,n2,by simp,by simp only;omega,by simp,λ_=>rfl,λz=>by simp at z,λ_=>rfl,λz=>by simp at z,λz=>by simp at z⟩) λz=>?_
    have e4:(if(v==5)=true then(some (v==5)) else(some (v==6)))=some (decide (v=5∨v=6)):=by
     by_cases z:v=5<;>simp[z]
     rw[Bool.eq_iff_iff];simp
    refine Ok.eq e4 (Ok.ite (λz=>?_) λz=>?_)
    ·have Ux:=PV (rd l i).B;obtain⟨u,eu,u0,u1⟩:=O0 Ux.1 Ux.2;refine Ok.eq eu (Ok.pure ⟨n1,n2,by simp,by simp only;omega,by simp only;rw[wi U U];omega,λ_=>rfl,λ_=>by simp only;rw[wi U U];omega,λz=>by simp at z,λz=>by simp at z,λz=>by simp at z⟩)
    have e5:(if(v==7)=true then(some (v==7)) else(some (v==8)))=some (decide (v=7∨v=8)):=by
     by_cases z:v=7<;>simp[z]
     rw[Bool.eq_iff_iff];simp
    refine Ok.eq e5 (Ok.ite (λz=>Ok.pure ⟨n1,n2,by simp,by simp only;omega,by simp only;omega,λ_=>rfl,λz=>by simp at z,λz=>by simp at z,λz=>by simp at z,λz=>by simp at z⟩) λz=>?_)
    refine Ok.ite (λz=>Ok.pure ⟨n1,n2,by simp,by simp,by simp,λ_=>rfl,λz=>by simp at z,λz=>by simp at z,λ_=>⟨J,J⟩,λz=>by simp at z⟩) λz=>?_
    refine Ok.ite (λz=>Ok.ite (λz=>?_) λz=>?_) λz=>Ok.ite (λz=>?_) λz=>?_
    ·obtain⟨m,em,hm,m1,m2⟩:=WI (aa (w+(aa (Int.tdiv (rd l i).A 4)))) (aa (h+(rd l i).B)) hc;have:=Va hm m1 m2;exact Ok.eq em (Ok.eq (WL hm) (Ok.pure ⟨by simp only;omega,by simp only;omega,U_ hm m1 m2⟩))
    ·exact Ok.pure ⟨n1,n2,by simp,by simp only;rw[wi U U];omega,by simp,λ_=>rfl,λz=>by simp at z,λz=>by simp at z,λz=>by simp at z,λz=>by simp at z⟩
    ·exact(aiu (rd l i) n1 n2).bind λo ho=>Ok.pure ⟨n1,n2,ho⟩
    ·exact Ok.pure ⟨n1,n2,by simp,by simp,by simp,λ_=>rfl,λz=>by simp at z,λz=>by simp at z,λ_=>⟨J,J⟩,λz=>by simp at z⟩
   ·rcases List.mem_append.1 ho with z |z
    ·exact ha o z
    ·simp only[List.mem_cons,List.not_mem_nil,or_false] at z;rw[z];exact hr.2.2
  ·exact fin k a b C x N i aQ hx ei ha bM
theorem ahZ (w h:Int) {c:List Int} (hc: ∀y∈c,eP y) (l:List sK):Ok (nL.f w h c l) (λr=>r≠[]/\r.length<=61/\ ∀o∈r,rm o):=by
 unfold nL.f;obtain⟨m,em,hm,m1,m2⟩:=WI w h hc;have:=Va hm m1 m2;refine Ok.eq em (Ok.eq (WL hm) (ah0 w h hc l 60 fuel _ _ _ _ _ 0 U (by rw[cD];omega) U U U bj U (λo ho=>?_) bj))
 simp only[List.mem_cons,List.not_mem_nil,or_false] at ho;rw[ho];exact U_ hm m1 m2
end
structure US (u:eY) (most:Int) (L:List aF):Prop where
 Kz:u.most=most
 mb:1<=most/\most<=65536
 next:0<=u.next/\u.next<=1000000
 keys:(u.live.map (·.1)).Nodup
 len:u.live.length=L.length
 has: ∀k,bN u.live k=true-> ∃x∈L,x.Id=k
 val: ∀x∈L,cW u.live x.Id=some x
 ord:u.order.filter (λk=>bN u.live k)=L.map (·.Id)
 aZ: ∀k∈u.order,0<=k/\k<u.next
 G9:(u.order.length:Int)<=u.next
 up:(L.map (·.Id)).Pairwise (· < ·)
def nT (L:List aF) (k:Int):Option aF:=L.find? (λx=>x.Id==k)
def zG (L:List aF) (k:Int):aF×Bool:=match nT L k with
 |some x=>(x,true)
 |none=>(⟨0,0,0⟩,false)
def Bm (L:List aF) (k:Int):Bool:=(nT L k).isSome
def me (L:List aF) (k:Int):List aF:=L.filter (λx=>x.Id !=k)
def gG (L:List aF) (k:Int) (f:aF->aF):List aF:=L.map (λx=>if x.Id=k then f x else x)
theorem Bl {L:List aF} {k:Int} {x:aF} (h:nT L k=some x):x∈L/\x.Id=k:=
 ⟨List.mem_of_find?_eq_some h,by simpa using List.find?_some h⟩
theorem HT {L:List aF} {k:Int} (h:nT L k=none): ∀x∈L,x.Id≠k:=by
 intro x hx e;have:=List.find?_eq_none.1 h x hx;simp[e] at this
theorem Cj {L:List aF} (h:(L.map (·.Id)).Pairwise (· < ·)) {x y:aF} (hx:x∈L) (hy:y∈L) (e:x.Id=y.Id):x=y:=by
 obtain⟨i,hi,rfl⟩:=List.mem_iff_getElem.1 hx;obtain⟨j,hj,rfl⟩:=List.mem_iff_getElem.1 hy;have key:=List.pairwise_iff_getElem.1 h;have:i=j:=by
  rcases Nat.lt_trichotomy i j with q |q |q
  ·have:=key i j (by simpa using hi) (by simpa using hj) q
   simp at this;omega
  ·exact q
  ·have:=key j i (by simpa using hj) (by simpa using hi) q
   simp at this;omega
 subst this;rfl
theorem PJ {L:List aF} (h:(L.map (·.Id)).Pairwise (· < ·)) {x:aF} (hx:x∈L):nT L x.Id=some x:=by
 cases hf:nT L x.Id with
 |none=>exact absurd J (HT hf x hx)
 |some y=>
  obtain⟨h1,h2⟩:=Bl hf;rw[Cj h h1 hx h2]
variable {u : eY} {most : Int} {L : List aF}
theorem US.get (h:US u most L) (k:Int):cW u.live k=nT L k:=by
 cases hf:nT L k with
 |some x=>
  obtain⟨h1,h2⟩:=Bl hf;rw[<-h2];exact h.val x h1
 |none=>
  cases hg:cW u.live k with
  |none=>rfl
  |some v=>
   obtain⟨x,hx,e⟩:=h.has k (G1 hg);exact absurd e (HT hf x hx)
theorem US.eA (h:US u most L):(L.length:Int)<=u.next:=by
 have h1:(L.map (·.Id)).length<=u.order.length:=by rw[<-h.ord];exact List.length_filter_le ..
 have:=h.G9;simp at h1;omega
theorem age (most:Int):ya.f most=some (if 1<=most/\most<=65536 then some (eY.mk most 0 [] []) else none):=by
 unfold ya.f
 by_cases h:1<=most/\most<=65536
 ·rw[ah bk,af h]
 ·rw[af bk,ah h]
theorem agi (h:1<=most/\most<=65536):US (eY.mk most 0 [] []) most []:=
 ⟨J,h,by simp,by simp,J,by simp[bN,cW],by simp,by simp,by simp,by simp,by simp⟩
theorem Yw (hb:u.order.length<=1000000): ∀(n k:Nat) (i:Int) (xs:List Int),i+n=u.order.length->0<=i->n<k->(xs.length:Int)<=i->
 lN.l0 k u xs i=some (xs++(u.order.drop i.toNat).filter (λq=>bN u.live q)):=by
 intro n
 induction n with
 |zero=>
  intro k i xs hi h0 hk hx;obtain⟨k,rfl⟩:=bl hk;rw[lN.l0,ah U,List.drop_of_length_le U];simp
 |succ n ih=>
  intro k i xs hi h0 hk hx;obtain⟨k,rfl⟩:=bl hk;rw[lN.l0,af U,af U,wi U U,BV h0 U]
  by_cases hm:bN u.live (rd u.order i)=true
  ·rw[af hm,af U,ih k (i+1) _ U U U bk];simp[hm]
  ·rw[ah hm,ih k (i+1) _ U U U U];simp[hm]
theorem Yv (hb:u.order.length<=1000000):lN.f u=some (u.order.filter (λq=>bN u.live q)):=by
 unfold lN.f;rw[Yw hb u.order.length fuel 0 [] U U (by rw[cD];omega) bj];simp
theorem US.ob (h:US u most L):u.order.length<=1000000:=by have:=h.G9;have:=h.next;omega
theorem Qm (h:US u most L):lN.f u=some (L.map (·.Id)):=by rw[Yv h.ob,h.ord]
theorem Yy {v:List Int} (hb:v.length<=1000000): ∀(n k:Nat) (i:Int) (xs:List aF),i+n=v.length->0<=i->n<k->(xs.length:Int)<=i->
 oI.l0 k u v xs i=some (xs++(v.drop i.toNat).map (λq=>aP u.live q)):=by
 intro n
 induction n with
 |zero=>
  intro k i xs hi h0 hk hx;obtain⟨k,rfl⟩:=bl hk;rw[oI.l0,ah U,List.drop_of_length_le U];simp
 |succ n ih=>
  intro k i xs hi h0 hk hx;obtain⟨k,rfl⟩:=bl hk;rw[oI.l0,af U,af U,af U,wi U U,BV h0 U,ih k (i+1) _ U U U bk];simp
theorem Yx (h:US u most L):oI.f u=some L:=by
 unfold oI.f;have hc:=h.eA;have hn:=h.next
 rw[Qm h,aG,Yy bk L.length fuel 0 [] bj U (by rw[cD];omega) bj]
 simp only[List.nil_append,Int.toNat_zero,List.drop_zero,List.map_map]
 congr 1
 conv=>rhs;rw[<-List.map_id L]
 refine List.map_congr_left λx hx=>?_
 simp only[Function.comp,id];exact af6 (h.val x hx)
theorem afA (h:US u most L):wz.f u=some (L.length:Int):=by unfold wz.f;rw[h.len]
theorem DM (h:US u most L) (k:Int):oJ.f u k=some (zG L k):=by
 unfold oJ.f zG;have hg:=h.get k
 cases hf:nT L k with
 |some x=>rw[hf] at hg;simp[aP,bN,hg]
 |none=>rw[hf] at hg;simp[aP,bN,hg];exact⟨J,J,J⟩
theorem Yp (h:US u most L) (hn:u.next<1000000) (c g:Int):(most<=L.length->wy.f u c g=some (0,false,u))/\
 ((L.length:Int)<most-> ∃u',wy.f u c g=some (u.next,true,u')/\u'.next=u.next+1/\US u' most (L++[⟨u.next,c,g⟩])):=by
 have hb:=h.next
 have ho:=h.ob;unfold wy.f;rw[h.len,h.Kz];refine⟨λhl=>by rw[af hl],λhl=>?_⟩
 have NG:=h.eA;have gF:cW u.live u.next=none:=by
  rw[h.get]
  cases hf:nT L u.next with
  |none=>rfl
  |some x=>
   obtain⟨h1,h2⟩:=Bl hf;have:x.Id∈u.order.filter (λk=>bN u.live k):=by rw[h.ord];exact List.mem_map.2 ⟨x,h1,J⟩
   have:=h.aZ _ (List.mem_filter.1 this).1;omega
 have T_: ∀k,bN (cC u.live u.next ⟨u.next,c,g⟩) k=(decide (u.next=k)||bN u.live k):=λk=>Ej ..
 refine⟨_,by rw[ah U,af U],by simp only;rw[wi U U],?_⟩
 rw[wi U U];refine⟨J,h.mb,by simp only;omega,Cy h.keys _ _,?_,?_,?_,?_,?_,?_,?_⟩
 ·simp only;rw[Vf,ah (by simp[bN,gF]),h.len];simp
 ·intro k hk;rw[T_] at hk;rcases Bool.or_eq_true_iff.1 hk with hk |hk
  ·exact⟨⟨u.next,c,g⟩,by simp,by simpa using hk⟩
  ·obtain⟨x,hx,e⟩:=h.has k hk;exact⟨x,by simp[hx],e⟩
 ·intro x hx;simp only[AP];rcases List.mem_append.1 hx with hx |hx
  ·rw[ah (λe=>by rw[e,h.val x hx] at gF;cases gF)];exact h.val x hx
  ·simp at hx;subst hx;simp
 ·simp only[T_,List.filter_append,List.map_append]
  congr 1
  ·rw[<-h.ord];refine List.filter_congr λk hk=>?_
   have:=h.aZ k hk;have:decide (u.next=k)=false:=by simp;omega
   rw[this];rfl
  ·simp
 ·intro k hk;simp only at hk⊢;rcases List.mem_append.1 hk with hk |hk
  ·have:=h.aZ k hk;omega
  ·simp at hk;omega
 ·have:=h.G9;simp;omega
 ·rw[List.map_append,List.pairwise_append];refine⟨h.up,by simp,λa ha b ju=>?_⟩
  simp at ju;rw[<-h.ord] at ha;have:=h.aZ a (List.mem_filter.1 ha).1;omega
theorem ai_ {f:aF->aF} (hf: ∀x,(f x).Id=x.Id) (k:Int):(gG L k f).map (·.Id)=L.map (·.Id):=by
 unfold gG;rw[List.map_map];refine List.map_congr_left λx _=>?_
 simp only[Function.comp];split
 ·exact hf x
 ·rfl
theorem Xu (h:US u most L) {k:Int} {x:aF} (hx:nT L k=some x) (f:aF->aF) (hf: ∀x,(f x).Id=x.Id):
 US (eY.mk u.most u.next (cC u.live k (f x)) u.order) most (gG L k f):=by
 obtain⟨h1,h2⟩:=Bl hx;have hg:cW u.live k=some x:=by rw[h.get,hx]
 have hh: ∀q,bN (cC u.live k (f x)) q=bN u.live q:=λq=>by
  rw[Ej]
  by_cases e:k=q
  ·subst e;simp[G1 hg]
  ·simp[e]
 have D3:=ai_ (L:=L) hf k;refine⟨h.Kz,h.mb,h.next,Cy h.keys _ _,?_,?_,?_,?_,h.aZ,h.G9,by rw[D3];exact h.up⟩
 ·simp only;rw[Vf,af (G1 hg),h.len];simp[gG]
 ·intro q hq;rw[hh] at hq;obtain⟨y,hy,e⟩:=h.has q hq;have:q∈(gG L k f).map (·.Id):=by rw[D3];exact List.mem_map.2 ⟨y,hy,e⟩
  obtain⟨z,hz,e⟩:=List.mem_map.1 this;exact⟨z,hz,e⟩
 ·intro y hy;unfold gG at hy;obtain⟨z,hz,rfl⟩:=List.mem_map.1 hy;simp only[AP]
  by_cases e:z.Id=k
  ·rw[af e,hf,e,af J];have:z=x:=Cj h.up hz h1 (e.trans h2.symm);rw[this]
  ·rw[ah e,ah (λq=>e q.symm)];exact h.val z hz
 ·simp only[hh];rw[h.ord,D3]
theorem Yu (h:US u most L) (k g:Int): ∃u',yb.f u k g=some (Bm L k,u')/\u'.next=u.next/\US u' most (gG L k (λx=>⟨x.Id,x.Cell,g⟩)):=by
 unfold yb.f Bm
 first |unfold ye.f |unfold yf.f
 rw[DM h];unfold zG
 cases hf:nT L k with
 |some x=>exact⟨_,J,J,Xu h hf (λx=>⟨x.Id,x.Cell,g⟩) (λ_=>rfl)⟩
 |none=>
  refine⟨u,J,J,?_⟩;have:gG L k (λx=>⟨x.Id,x.Cell,g⟩)=L:=by
   unfold gG
   conv=>rhs;rw[<-List.map_id L]
   refine List.map_congr_left λx hx=>?_
   rw[ah (HT hf x hx)];rfl
  rw[this];exact h
theorem afZ (h:US u most L) (k g:Int): ∃u',yd.f u k g=some (Bm L k,u')/\u'.next=u.next/\US u' most (gG L k (λx=>⟨x.Id,g,x.Goal⟩)):=by
 unfold yd.f Bm
 first |unfold yf.f |unfold ye.f
 rw[DM h];unfold zG
 cases hf:nT L k with
 |some x=>exact⟨_,J,J,Xu h hf (λx=>⟨x.Id,g,x.Goal⟩) (λ_=>rfl)⟩
 |none=>
  refine⟨u,J,J,?_⟩;have:gG L k (λx=>⟨x.Id,g,x.Goal⟩)=L:=by
   unfold gG
   conv=>rhs;rw[<-List.map_id L]
   refine List.map_congr_left λx hx=>?_
   rw[ah (HT hf x hx)];rfl
  rw[this];exact h
theorem ai9 {k:Int} (hf:nT L k=none):me L k=L:=by
 unfold me;rw[List.filter_eq_self];intro x hx;simpa using HT hf x hx
theorem Lb (h:(L.map (·.Id)).Pairwise (· < ·)) {k:Int} {x:aF} (hx:nT L k=some x):(me L k).length+1=L.length:=by
 obtain⟨h1,h2⟩:=Bl hx;clear hx
 induction L with
 |nil=>cases h1
 |cons y r ih=>
  rw[List.map_cons,List.pairwise_cons] at h;unfold me at ih⊢
  by_cases e:y.Id=k
  ·have:r.filter (λz=>z.Id !=k)=r:=by
    rw[List.filter_eq_self];intro z hz;have:=h.1 z.Id (List.mem_map.2 ⟨z,hz,J⟩);simp;omega
   simp[e,this]
  ·have hxr:x∈r:=by
    rcases List.mem_cons.1 h1 with q |q
    ·subst q;exact absurd h2 e
    ·exact q
   have:=ih h.2 hxr;simp[e];omega
theorem abm (h:US u most L) (k:Int): ∃u',yc.f u k=some (Bm L k,u')/\u'.next=u.next/\US u' most (me L k):=by
 unfold yc.f Bm;rw[DM h];unfold zG
 cases hf:nT L k with
 |none=>rw[ai9 hf];exact⟨u,J,J,h⟩
 |some x=>
  obtain⟨h1,h2⟩:=Bl hf;have hg:cW u.live k=some x:=by rw[h.get,hf]
  have hh: ∀q,bN (dT u.live k) q=(!decide (k=q)&&bN u.live q):=λq=>afS h.keys ..
  have Cf:u.order.filter (λq=>bN (dT u.live k) q)=(me L k).map (·.Id):=by
   simp only[hh];rw[<-List.filter_filter,h.ord];unfold me;rw[List.filter_map]
   congr 1
   refine List.filter_congr λy _=>?_
   simp only[Function.comp]
   by_cases e:y.Id=k
   ·simp[e]
   ·have: ¬k=y.Id:=λq=>e q.symm
    simp[e,this]
  have xm:US (eY.mk u.most u.next (dT u.live k) u.order) most (me L k):=by
   refine⟨h.Kz,h.mb,h.next,Kt h.keys _,?_,?_,?_,Cf,h.aZ,h.G9,?_⟩
   ·simp only;rw[afN,af (G1 hg),h.len];have:=Lb h.up hf;omega
   ·intro q hq;rw[hh] at hq;simp only[Bool.and_eq_true,Bool.not_eq_true',decide_eq_false_iff_not] at hq;obtain⟨y,hy,e⟩:=h.has q hq.2;exact⟨y,by unfold me;rw[List.mem_filter];exact⟨hy,by simp;omega⟩,e⟩
   ·intro y hy;unfold me at hy;rw[List.mem_filter] at hy;have:y.Id≠k:=by simpa using hy.2
    simp only;rw[Kv h.keys,ah (λq=>this q.symm)];exact h.val y hy.1
   ·exact h.up.sublist ((List.filter_sublist).map _)
  have hn:=h.next
  have hob:=h.ob;have hc:=h.eA;have B9:=Lb h.up hf;simp only[aG,Bool.not_true,Bool.false_eq_true,if_false];have NY:((dT u.live k).length:Int)=(me L k).length:=by have:=xm.len;simp only at this;omega
  split
  ·rw[Qm xm];refine⟨_,J,J,?_⟩;have hl:((me L k).length:Int)<=u.next:=xm.eA
   refine⟨h.Kz,h.mb,h.next,xm.keys,xm.len,xm.has,xm.val,?_,?_,by simpa using hl,xm.up⟩
   ·simp only;rw[List.filter_eq_self];intro q hq;obtain⟨y,hy,rfl⟩:=List.mem_map.1 hq;exact G1 (xm.val y hy)
   ·intro q hq;simp only at hq⊢;rw[<-Cf] at hq;exact h.aZ q (List.mem_filter.1 hq).1
  ·exact⟨_,J,J,xm⟩
def r8 (n:Int) (f:fy):Prop:=(f.words.length:Int)=n/\ ∀c,0<=c->c<n->0<=rd f.words c/\rd f.words c<=4294967295
def mJ (n:Int) (f:fy) (c:Int):Int:=if 0<=c/\c<n then rd f.words c-1 else-1
def rC (n:Int) (f:fy) (c:Int):Prop:=0<=c/\c<n/\rd f.words c=0
instance (n:Int) (f:fy) (c:Int):Decidable (rC n f c):=by unfold rC;infer_instance
def ir (f:fy) (c v k:Int):fy:=fy.mk (List.set f.words (Int.toNat c) v) (f.count+k)
theorem abG (n:Int):sG.f n=some (if 1<=n/\n<=1048576 then some (fy.mk (List.replicate n.toNat 0) 0) else none):=by
 unfold sG.f
 by_cases h:1<=n/\n<=1048576
 ·rw[ah bk,af h,af U]
 ·rw[af bk,ah h]
theorem abH {n:Int} (h:1<=n):r8 n (fy.mk (List.replicate n.toNat 0) 0):=by
 refine⟨by simp;omega,λc c0 c1=>?_⟩
 rw[uB c0 U];omega
variable {n : Int} {f : fy}
theorem RV (hf:r8 n f) (c:Int):yL.f f c=some (decide (0<=c/\c<n)):=by
 unfold yL.f;rw[hf.1]
 by_cases h:0<=c
 ·rw[af U];simp[h]
 ·rw[ah U];simp[h]
theorem R7 (hf:r8 n f) (c:Int):yK.f f c=some (decide (rC n f c)):=by
 unfold yK.f;rw[RV hf,hf.1]
 by_cases h:0<=c/\c<n
 ·by_cases q:rd f.words c=0
  ·have:rC n f c:=⟨h.1,h.2,q⟩;simp[h,q,this]
  ·have: ¬rC n f c:=λz=>q z.2.2
   simp[h,q,this]
 ·have: ¬rC n f c:=λz=>h ⟨z.1,z.2.1⟩
  simp[h,this]
theorem Lo (hf:r8 n f) (c:Int):qz.f f c=some (mJ n f c):=by
 unfold qz.f mJ;rw[RV hf,hf.1]
 by_cases h:0<=c/\c<n
 ·have:=hf.2 c h.1 h.2;simp only[aG,decide_eq_true h,Bool.not_true,Bool.false_eq_true,if_false,af h];rw[wi (x:=rd f.words c) U U,wi U U]
 ·simp only[aG,decide_eq_false h,Bool.not_false,if_true,ah h]
theorem HD (hf:r8 n f) {c v k:Int} (h0:0<=c) (h1:c<n) (v0:0<=v) (v1:v<=4294967295):r8 n (ir f c v k):=by
 refine⟨by simp[ir,hf.1],λd d0 d1=>?_⟩
 unfold ir;simp only;rw[j5 h0 (by rw[hf.1];exact h1) d0]
 split
 ·exact⟨v0,v1⟩
 ·exact hf.2 d d0 d1
theorem AX (hf:r8 n f) {c v k d:Int} (h0:0<=c) (h1:c<n) (d0:0<=d):rd (ir f c v k).words d=if d=c then v else rd f.words d:=by
 unfold ir;simp only;rw[j5 h0 (by rw[hf.1];exact h1) d0]
def DJ (n:Int) (f:fy) (c id:Int):Bool×fy:=if rC n f c/\0<=id/\id<4294967295 then(true,ir f c (id+1) 1) else(false,f)
def DK (n:Int) (f:fy) (c:Int):Int×fy:=if mJ n f c= -1 then(-1,f) else(mJ n f c,ir f c 0 (-1))
theorem VT (hf:r8 n f) (hc:0<=f.count/\f.count<=2000000) (c id:Int):sE.f f c id=some (DJ n f c id):=by
 unfold sE.f DJ;rw[R7 hf]
 by_cases h:rC n f c
 ·by_cases h2:0<=id/\id<4294967295
  ·obtain⟨q1,q2,q3⟩:=h;have h:rC n f c:=⟨q1,q2,q3⟩;simp only[aG,decide_eq_true h,Bool.not_true];rw[ah bk,af (by rw[hf.1];omega),af ⟨h,h2⟩,wi (x:=id+1) U U,ajd U U,wi U U]
   rfl
  ·simp only[aG,decide_eq_true h,Bool.not_true];rw[af bk,ah (λq=>h2 q.2)]
 ·simp only[aG,decide_eq_false h,Bool.not_false,Bool.true_or,if_true];rw[ah (λq=>h q.1)]
theorem Xm (hf:r8 n f) (hc: -2000000<=f.count/\f.count<=2000000) (c:Int):sF.f f c=some (DK n f c):=by
 unfold sF.f DK;rw[Lo hf]
 by_cases h:mJ n f c= -1
 ·simp[h]
 ·have cn:0<=c/\c<n:=by
   unfold mJ at h
   by_cases q:0<=c/\c<n
   ·exact q
   ·rw[ah q] at h;exact absurd J h
  simp only[aG];rw[af (by simpa using h),af (by rw[hf.1];omega),ah h,wi U U]
  rfl
def Jf (n:Int) (f:fy) (a b:Int):Bool×fy:=if mJ n f a≠ -1/\rC n f b then(true,ir (ir f a 0 (-1)) b (mJ n f a+1) 1) else(false,f)
theorem ajh {c:Int} (h:mJ n f c≠ -1):0<=c/\c<n/\mJ n f c=rd f.words c-1:=by
 unfold mJ at h⊢
 by_cases q:0<=c/\c<n
 ·rw[af q];exact⟨q.1,q.2,J⟩
 ·rw[ah q] at h;exact absurd J h
theorem aik (hf:r8 n f) (hc:1<=f.count/\f.count<=2000000) (a b:Int):xa.f f a b=some (Jf n f a b):=by
 unfold xa.f Jf;rw[Lo hf,R7 hf]
 by_cases h1:mJ n f a= -1
 ·simp[h1]
 ·by_cases h2:rC n f b
  ·obtain⟨a0,a1,a2⟩:=ajh h1;have hr:=hf.2 a a0 a1;have hs:r8 n (ir f a 0 (-1)):=HD hf a0 a1 U U;have bM:b≠a:=λe=>by have:=h2.2.2;rw[e] at this;omega
   have h3:rC n (ir f a 0 (-1)) b:=⟨h2.1,h2.2.1,by rw[AX hf a0 a1 h2.1,ah bM];exact h2.2.2⟩
   have e:DK n f a=(mJ n f a,ir f a 0 (-1)):=by unfold DK;rw[ah h1]
   have e2:DJ n (ir f a 0 (-1)) b (mJ n f a)=(true,ir (ir f a 0 (-1)) b (mJ n f a+1) 1):=by
    unfold DJ;rw[af ⟨h3,by omega,by omega⟩]
   have q1:(mJ n f a== -1)=false:=by simpa using h1
   simp only[aG,q1,Bool.false_eq_true,if_false,decide_eq_true h2,Bool.not_true,Xm hf (by omega: -2000000<=f.count/\f.count<=2000000),e]
   rw[VT hs (by simp[ir];omega),e2,af ⟨h1,h2⟩];rfl
  ·simp[h1,h2]
theorem agy {s:List Int} (hb:s.length<=4611686018427387000): ∀(n k:Nat) (i:Int),i+n=s.length->0<=i->n<k->
 ∃r,qU.l0 k s i=some r/\(r≥0↔ ∃j,i<=j/\j<s.length/\(rd s j<0∨rd s j>5)):=by
 intro n
 induction n with
 |zero=>
  intro k i hi h0 hk;obtain⟨k,rfl⟩:=bl hk;exact⟨-1,by rw[qU.l0,ah U],⟨λq=>by omega,λ⟨j,j0,j1,_⟩=>by omega⟩⟩
 |succ n ih=>
  intro k i hi h0 hk;obtain⟨k,rfl⟩:=bl hk;rw[qU.l0,af U,af U];simp only[Eh.f,aG]
  by_cases e:rd s i<0∨rd s i>5
  ·rw[af (by simpa using e)]
   exact⟨i,J,⟨λ_=>⟨i,by omega,by omega,e⟩,λ_=>by omega⟩⟩
  ·rw[ah (by simpa using e),wi U U]
   obtain⟨r,r1,r2⟩:=ih k (i+1) U U U;refine⟨r,r1,r2.trans ⟨λ⟨j,j0,j1,j2⟩=>⟨j,by omega,j1,j2⟩,λ⟨j,j0,j1,j2⟩=>?_⟩⟩
   by_cases z:j=i
   ·subst z;exact absurd j2 e
   ·exact⟨j,by omega,j1,j2⟩
theorem agx {s:List Int} (hb:s.length<=4611686018427387000): ∃r,C_.f s=some r/\(r=true↔ ∃d∈s,d<0∨d>5):=by
 unfold C_.f qU.f;obtain⟨r,r1,r2⟩:=agy hb s.length fuel 0 U U (by rw[cD];omega)
 rw[r1,aG];refine⟨decide (r≥0),J,?_⟩;rw[decide_eq_true_iff,r2];constructor
 ·rintro⟨j,j0,j1,j2⟩;exact⟨_,ek j0 j1,j2⟩
 ·rintro⟨d,hd,h⟩;obtain⟨j,j0,j1,rfl⟩:=jI hd;exact⟨j,j0,j1,h⟩
abbrev yp:=List aF×List fg×List Int
def dA (w h:Int) (u:aF) (d:Int):Int:=if 0<=d/\d<=3 then cB w h u.Cell d else-1
def mL (w h:Int) (now:List aF) (u:aF) (d:Int):Prop:=0<=dA w h u d/\ ∀x∈now,x.Cell≠dA w h u d
instance (w h:Int) (now:List aF) (u:aF) (d:Int):Decidable (mL w h now u d):=by unfold mL;infer_instance
def kT (w h:Int) (s:yp) (i:Int) (u:aF) (d:Int):yp:=
 if mL w h s.1 u d then(s.1.set i.toNat ⟨u.Id,if dA w h u d=u.Goal then-1 else dA w h u d,u.Goal⟩,s.2.1++[⟨u.Id,dA w h u d⟩],if dA w h u d=u.Goal then s.2.2++[u.Id] else s.2.2) else s
def dL (w h:Int) (l:List aF) (aM:List Int):Nat->yp
 |0=>(l,[],[])
 |n+1=>kT w h (dL w h l aM n) n (rd l (n:Int)) (rd aM (n:Int))
def gN (w h:Int) (l:List aF) (aM:List Int):List aF×List fg×List Int:=
 ((dL w h l aM l.length).1.filter (λx=>decide (0<=x.Cell)),(dL w h l aM l.length).2.1,(dL w h l aM l.length).2.2)
structure Bu (w h:Int) (l:List aF) (n:Nat) (s:yp):Prop where
 len:s.1.length=l.length
 rest: ∀j:Int,n<=j->j<l.length->rd s.1 j=rd l j
 same: ∀j:Int,0<=j->j<l.length->(rd s.1 j).Id=(rd l j).Id/\(rd s.1 j).Goal=(rd l j).Goal
 cell: ∀j:Int,0<=j->j<l.length->(rd s.1 j).Cell= -1∨bV w h (rd s.1 j).Cell
 apart: ∀i j:Int,0<=i->i<l.length->0<=j->j<l.length->i≠j->0<=(rd s.1 i).Cell->(rd s.1 i).Cell≠(rd s.1 j).Cell
 Kx:s.2.1.length<=n
 MO:s.2.2.length<=n
theorem aiN {w h c d:Int} (hs:0<=cB w h c d):bV w h (cB w h c d):=by
 unfold cB at hs⊢;split
 ·unfold pD at hs⊢;rename_i q;rw[af q] at hs;split
  ·rename_i z;exact⟨z.1,sw z.2.1 z.2.2.1 z.2.2.2.1 z.2.2.2.2⟩
  ·rename_i z;rw[ah z] at hs;omega
 ·rename_i q;rw[ah q] at hs;omega
theorem Sr {w h:Int} {u:aF} {d:Int} (hs:0<=dA w h u d):bV w h (dA w h u d):=by
 unfold dA at hs⊢;split
 ·rename_i q;rw[af q] at hs;exact aiN hs
 ·rename_i q;rw[ah q] at hs;omega
theorem abP {w h:Int} {l:List aF} (hm:ie w h l):Bu w h l 0 (l,[],[]):=
 ⟨J,λ_ _ _=>rfl,λ_ _ _=>⟨J,J⟩,λj j0 j1=> .inr (hm.cell j0 j1),λi j i0 i1 j0 j1 rG _=>hm.apart i0 i1 j0 j1 rG,by simp,by simp⟩
theorem R9 {w h:Int} {l:List aF} {n:Nat} {s:yp} (hi:Bu w h l n s) (hn:n<l.length) (d:Int):Bu w h l (n+1) (kT w h s n (rd l (n:Int)) d):=by
 unfold kT
 by_cases hc:mL w h s.1 (rd l (n:Int)) d
 ·rw[af hc];obtain⟨c1,c2⟩:=hc;have eB:=Sr c1;have hlen:=hi.len;have hr: ∀j:Int,0<=j->rd (s.1.set (n:Int).toNat ⟨(rd l (n:Int)).Id,if dA w h (rd l (n:Int)) d=(rd l (n:Int)).Goal then-1 else dA w h (rd l (n:Int)) d,(rd l (n:Int)).Goal⟩) j=
   if j=n then⟨(rd l (n:Int)).Id,if dA w h (rd l (n:Int)) d=(rd l (n:Int)).Goal then-1 else dA w h (rd l (n:Int)) d,(rd l (n:Int)).Goal⟩ else rd s.1 j:=
   λj j0=>j5 U U j0
  generalize dA w h (rd l (n:Int)) d=to at*;have gF: ∀j:Int,0<=j->j<l.length->(rd s.1 j).Cell≠to:=λj j0 j1=>c2 _ (ek j0 U);refine⟨by simpa using hlen,λj j0 j1=>?_,λj j0 j1=>?_,λj j0 j1=>?_,λi j i0 i1 j0 j1 rG hp=>?_,by simpa using hi.Kx,?_⟩
  ·simp only;rw[hr j U,ah U];exact hi.rest j U j1
  ·simp only;rw[hr j j0]
   by_cases q:j=n
   ·rw[af q,q];exact⟨J,J⟩
   ·rw[ah q];exact hi.same j j0 j1
  ·simp only;rw[hr j j0]
   by_cases q:j=n
   ·rw[af q];simp only;split
    ·exact .inl J
    ·exact .inr eB
   ·rw[ah q];exact hi.cell j j0 j1
  ·simp only at hp⊢;rw[hr i i0] at hp⊢;rw[hr j j0]
   by_cases qi:i=n
   ·rw[af qi] at hp⊢;rw[ah (show ¬j=(n:Int) from λq=>rG U)]
    simp only at hp⊢
    by_cases z:to=(rd l (n:Int)).Goal
    ·rw[af z] at hp;omega
    ·rw[ah z];exact λe=>gF j j0 j1 e.symm
   ·rw[ah qi] at hp⊢
    by_cases qj:j=n
    ·rw[af qj];simp only;split
     ·omega
     ·exact gF i i0 i1
    ·rw[ah qj];exact hi.apart i j i0 i1 j0 j1 rG hp
  ·simp only;have:=hi.MO;split<;>simp<;>omega
 ·rw[ah hc];exact⟨hi.len,λj j0 j1=>hi.rest j U j1,hi.same,hi.cell,hi.apart,by have:=hi.Kx;omega,by have:=hi.MO;omega⟩
theorem yM {w h:Int} {l:List aF} (hm:ie w h l) (aM:List Int): ∀n:Nat,n<=l.length->Bu w h l n (dL w h l aM n)
 |0,_=>abP hm
 |n+1,hn=>R9 (yM hm aM n U) U _
def Stood (m:List (Int×Bool)) (now:List aF):Prop:=(m.map (·.1)).Nodup/\ ∀c:Int,0<=c->(aP m c=true↔ ∃x∈now,x.Cell=c)
def RQ (f:mu) (u:aF) (d:Int):Option (Bool×mu×aF):=(mf.f f.w f.h u.Cell d).bind λv2=>(if v2<0 then(some true) else(some (aP f.jQ v2))).bind λx3=>if x3=true then(some (true,f,u)) else(if(List.length f.ku+1<=1099511627776) then(if(v2==u.Goal)=true then(if(List.length f.gone+1<=1099511627776) then(some (false,(mu.mk f.w f.h (dT f.jQ u.Cell) (f.ku++[(fg.mk u.Id v2)]) (f.gone++[u.Id])),(aF.mk u.Id v2 u.Goal))) else none) else(some (true,(mu.mk f.w f.h (cC (dT f.jQ u.Cell) v2 true) (f.ku++[(fg.mk u.Id v2)]) f.gone),(aF.mk u.Id v2 u.Goal)))) else none)
theorem abN (f:mu) (u:aF) {d:Int} (hd:0<=d/\d<=3):vJ.f f u d=RQ f u d:=by
 have:d=0∨d=1∨d=2∨d=3:=U;rcases this with rfl |rfl |rfl |rfl<;>rfl
theorem abM {w h:Int} {l:List aF} {n:Nat} {s:yp} (hi:Bu w h l n s) (hn:n<l.length) (hl:l.length<=1000000) (hc:bV w h (rd l (n:Int)).Cell) {m:List (Int×Bool)} (iK:Stood m s.1) (d:Int):
 ∃m',vJ.f ⟨w,h,m,s.2.1,s.2.2⟩ (rd l (n:Int)) d=some (decide (0<=(rd (kT w h s n (rd l (n:Int)) d).1 (n:Int)).Cell),⟨w,h,m',(kT w h s n (rd l (n:Int)) d).2.1,(kT w h s n (rd l (n:Int)) d).2.2⟩,
  ⟨(rd l (n:Int)).Id,if mL w h s.1 (rd l (n:Int)) d then dA w h (rd l (n:Int)) d else(rd l (n:Int)).Cell,(rd l (n:Int)).Goal⟩)/\Stood m' (kT w h s n (rd l (n:Int)) d).1:=by
 have hlen:=hi.len;have sL:rd s.1 (n:Int)=rd l (n:Int):=hi.rest n U U;have NY:=hi.Kx;have mO:=hi.MO;unfold kT;generalize hu:rd l (n:Int)=u at*;have stay: ¬mL w h s.1 u d->(some (true,mu.mk w h m s.2.1 s.2.2,u):Option (Bool×mu×aF))=
  some (decide (0<=(rd (if mL w h s.1 u d then(s.1.set (n:Int).toNat ⟨u.Id,if dA w h u d=u.Goal then-1 else dA w h u d,u.Goal⟩,s.2.1++[⟨u.Id,dA w h u d⟩],if dA w h u d=u.Goal then s.2.2++[u.Id] else s.2.2) else s).1 (n:Int)).Cell),
   ⟨w,h,m,(if mL w h s.1 u d then(s.1.set (n:Int).toNat ⟨u.Id,if dA w h u d=u.Goal then-1 else dA w h u d,u.Goal⟩,s.2.1++[⟨u.Id,dA w h u d⟩],if dA w h u d=u.Goal then s.2.2++[u.Id] else s.2.2) else s).2.1,(if mL w h s.1 u d then(s.1.set (n:Int).toNat ⟨u.Id,if dA w h u d=u.Goal then-1 else dA w h u d,u.Goal⟩,s.2.1++[⟨u.Id,dA w h u d⟩],if dA w h u d=u.Goal then s.2.2++[u.Id] else s.2.2) else s).2.2⟩,
   ⟨u.Id,if mL w h s.1 u d then dA w h u d else u.Cell,u.Goal⟩):=by
  intro q;rw[ah q,ah q,sL];have:decide (0<=u.Cell)=true:=by simpa using hc.2.1
  rw[this]
 by_cases hd:0<=d/\d<=3
 ·have vG:dA w h u d=cB w h u.Cell d:=by unfold dA;rw[af hd]
  rw[abN _ u hd];unfold RQ;simp only[HN,aG];rw[<-vG];have hbl:((if dA w h u d<0 then some true else some (aP m (dA w h u d))):Option Bool)=some (!decide (mL w h s.1 u d)):=by
   unfold mL
   by_cases q:dA w h u d<0
   ·rw[af q];have:decide (0<=dA w h u d/\ ∀x∈s.1,x.Cell≠dA w h u d)=false:=by
     rw[decide_eq_false_iff_not];intro z;omega
    rw[this];rfl
   ·rw[ah q]
    congr 1
    have h0:=iK.2 (dA w h u d) U
    by_cases z:aP m (dA w h u d)=true
    ·rw[z];obtain⟨x,hx,e⟩:=h0.1 z;have:decide (0<=dA w h u d/\ ∀x∈s.1,x.Cell≠dA w h u d)=false:=by
      rw[decide_eq_false_iff_not];intro y;exact y.2 x hx e
     rw[this];rfl
    ·have z':aP m (dA w h u d)=false:=by simpa using z
     rw[z'];have:decide (0<=dA w h u d/\ ∀x∈s.1,x.Cell≠dA w h u d)=true:=by
      rw[decide_eq_true_iff];exact⟨by omega,λx hx e=>z (h0.2 ⟨x,hx,e⟩)⟩
     rw[this];rfl
  rw[hbl];simp only[aG]
  by_cases yS:mL w h s.1 u d
  ·have aeh:=yS;obtain⟨c1,c2⟩:=aeh;rw[ah (by simpa using yS),af U]
   simp only[af yS];have hr: ∀(v:aF) (j:Int),0<=j->rd (s.1.set (n:Int).toNat v) j=if j=n then v else rd s.1 j:=λv j j0=>j5 U U j0
   have ajQ:u.Cell≠dA w h u d:=λe=>c2 u (by rw[<-sL];exact ek U U) e
   have je: ∀(v:aF) (c:Int),(∃x∈s.1.set (n:Int).toNat v,x.Cell=c)↔v.Cell=c∨ ∃j:Int,0<=j/\j<l.length/\j≠n/\(rd s.1 j).Cell=c:=by
    intro v c;constructor
    ·rintro⟨x,hx,e⟩;obtain⟨j,j0,j1,rfl⟩:=jI hx;rw[hr v j j0] at e;rw[List.length_set] at j1
     by_cases q:j=n
     ·rw[af q] at e;exact .inl e
     ·rw[ah q] at e;exact .inr ⟨j,j0,by omega,q,e⟩
    ·rintro(e |⟨j,j0,j1,j2,e⟩)
     ·refine⟨rd (s.1.set (n:Int).toNat v) (n:Int),ek U (by rw[List.length_set];omega),?_⟩
      rw[hr v n U,af J];exact e
     ·refine⟨rd (s.1.set (n:Int).toNat v) j,ek j0 (by rw[List.length_set];omega),?_⟩
      rw[hr v j j0,ah j2];exact e
   have hold: ∀c:Int,0<=c->(aP m c=true↔u.Cell=c∨ ∃j:Int,0<=j/\j<l.length/\j≠n/\(rd s.1 j).Cell=c):=by
    intro c c0;rw[iK.2 c c0];constructor
    ·rintro⟨x,hx,e⟩;obtain⟨j,j0,j1,rfl⟩:=jI hx
     by_cases q:j=n
     ·subst q;rw[sL] at e;exact .inl e
     ·exact .inr ⟨j,j0,by omega,q,e⟩
    ·rintro(e |⟨j,j0,j1,j2,e⟩)
     ·exact⟨rd s.1 (n:Int),ek U U,by rw[sL];exact e⟩
     ·exact⟨rd s.1 j,ek j0 U,e⟩
   have SM: ∀j:Int,0<=j->j<l.length->j≠n->(rd s.1 j).Cell≠u.Cell:=by
    intro j j0 j1 j2 e;have:=hi.apart n j U U j0 j1 (λz=>j2 z.symm) (by rw[sL];exact hc.2.1)
    rw[sL] at this;exact this e.symm
   by_cases hg:dA w h u d=u.Goal
   ·rw[af (by simpa using hg),af U]
    refine⟨dT m u.Cell,?_,Kt iK.1 _,λc c0=>?_⟩
    ·simp only[af hg];rw[hr _ n U,af J];simp
    ·rw[Vg iK.1,af hg,je];simp only
     by_cases q:u.Cell=c
     ·rw[af q];constructor
      ·intro z;cases z
      ·rintro(z |⟨j,j0,j1,j2,e⟩)
       ·omega
       ·exact absurd (e.trans q.symm) (SM j j0 j1 j2)
     ·rw[ah q,hold c c0];constructor
      ·rintro(z |z)
       ·exact absurd z q
       ·exact .inr z
      ·rintro(z |z)
       ·omega
       ·exact .inr z
   ·rw[ah (by simpa using hg)]
    refine⟨cC (dT m u.Cell) (dA w h u d) true,?_,Cy (Kt iK.1 _) _ _,λc c0=>?_⟩
    ·simp only[ah hg];rw[hr _ n U,af J];simp[c1]
    ·rw[uv,Vg iK.1,ah hg,je];simp only
     by_cases z:dA w h u d=c
     ·rw[af z];exact⟨λ_=> .inl z,λ_=>rfl⟩
     ·rw[ah z]
      by_cases q:u.Cell=c
      ·rw[af q];constructor
       ·intro y;cases y
       ·rintro(y |⟨j,j0,j1,j2,e⟩)
        ·exact absurd y z
        ·exact absurd (e.trans q.symm) (SM j j0 j1 j2)
      ·rw[ah q,hold c c0];constructor
       ·rintro(y |y)
        ·exact absurd y q
        ·exact .inr y
       ·rintro(y |y)
        ·exact absurd y z
        ·exact .inr y
  ·rw[af (by simpa using yS)]
   refine⟨m,stay yS,?_⟩;rw[ah yS];exact iK
 ·have yS: ¬mL w h s.1 u d:=by
   unfold mL dA;rw[ah hd];intro q;omega
  unfold vJ.f;rw[ah bk,ah bk,ah bk,ah bk];refine⟨m,stay yS,?_⟩;rw[ah yS];exact iK
theorem aiU {w h:Int} {l:List aF} {aM:List Int} (hb:l.length<=1000000): ∀(n k:Nat) (i:Int) (m:List (Int×Bool)),i+n=l.length->0<=i->n<k->
 (m.map (·.1)).Nodup->(∀c,aP m c=true↔ ∃q,0<=q/\q<i/\(rd l q).Cell=c)->
 ∃m',jw.l0 k w h l aM m i=jw.l1 fuel w h l aM [] w h m' [] [] 0/\Stood m' l:=by
 intro n
 induction n with
 |zero=>
  intro k i m hi h0 hk hn hm;obtain⟨k,rfl⟩:=bl hk;refine⟨m,by rw[jw.l0,ah U],hn,λc _=>?_⟩
  rw[hm c];constructor
  ·rintro⟨q,q0,q1,e⟩;exact⟨_,ek q0 U,e⟩
  ·rintro⟨x,hx,e⟩;obtain⟨q,q0,q1,rfl⟩:=jI hx;exact⟨q,q0,by omega,e⟩
 |succ n ih=>
  intro k i m hi h0 hk hn hm;obtain⟨k,rfl⟩:=bl hk;rw[jw.l0,af U,af U,wi U U];refine ih k (i+1) _ U U U (Cy hn _ _) (λc=>?_);rw[uv]
  by_cases e:(rd l i).Cell=c
  ·rw[af e];exact⟨λ_=>⟨i,h0,by omega,e⟩,λ_=>rfl⟩
  ·rw[ah e,hm c];constructor
   ·rintro⟨q,q0,q1,q2⟩;exact⟨q,q0,by omega,q2⟩
   ·rintro⟨q,q0,q1,q2⟩
    by_cases z:q=i
    ·subst z;exact absurd q2 e
    ·exact⟨q,q0,by omega,q2⟩
def pU (s:yp) (n:Nat):List aF:=(s.1.take n).filter (λx=>decide (0<=x.Cell))
theorem Sp {w h:Int} {l:List aF} {n:Nat} {s:yp} (hi:Bu w h l n s) (hn:n<l.length) (d:Int):
 rd (kT w h s n (rd l (n:Int)) d).1 (n:Int)=⟨(rd l (n:Int)).Id,if mL w h s.1 (rd l (n:Int)) d then(if dA w h (rd l (n:Int)) d=(rd l (n:Int)).Goal then-1 else dA w h (rd l (n:Int)) d) else(rd l (n:Int)).Cell,(rd l (n:Int)).Goal⟩:=by
 have hlen:=hi.len;unfold kT
 by_cases hc:mL w h s.1 (rd l (n:Int)) d
 ·rw[af hc,af hc];rw[j5 U U U,af J]
 ·rw[ah hc,ah hc,hi.rest n U U]
theorem R8 {w h:Int} {l:List aF} {n:Nat} {s:yp} (hi:Bu w h l n s) (hn:n<l.length) (d:Int):
 pU (kT w h s n (rd l (n:Int)) d) (n+1)=pU s n++(if 0<=(rd (kT w h s n (rd l (n:Int)) d).1 (n:Int)).Cell then[rd (kT w h s n (rd l (n:Int)) d).1 (n:Int)] else[]):=by
 have rF:=R9 hi hn d;have qC:=rF.len;have ht:(kT w h s n (rd l (n:Int)) d).1.take n=s.1.take n:=by
  unfold kT;split
  ·simp only;rw[show(n:Int).toNat=n by simp,List.take_set_of_le (Nat.le_refl _)]
  ·rfl
 unfold pU;have aQ:n<(kT w h s n (rd l (n:Int)) d).1.length:=U;rw[List.take_add_one,ht,List.getElem?_eq_getElem aQ,List.filter_append,AZ aQ]
 congr 1
 simp only[Option.toList_some,List.filter_cons,List.filter_nil,decide_eq_true_eq]
theorem ab4 {w h:Int} {l:List aF} {aM:List Int} (hm:ie w h l) (hb:l.length<=1000000) (hd:aM.length=l.length): ∀(m k:Nat) (n:Nat) (st:List (Int×Bool)),n+m=l.length->m<k->Stood st (dL w h l aM n).1->
 jw.l1 k w h l aM (pU (dL w h l aM n) n) w h st (dL w h l aM n).2.1 (dL w h l aM n).2.2 (n:Int)=some ((gN w h l aM).1,(gN w h l aM).2.1,(gN w h l aM).2.2,0):=by
 intro m
 induction m with
 |zero=>
  intro k n st hn hk iK;obtain⟨k,rfl⟩:=bl hk;have hi:=yM hm aM n U;rw[jw.l1,ah U];have:n=l.length:=U;subst this;unfold gN pU;rw[List.take_of_length_le (by rw[hi.len];omega)]
 |succ m ih=>
  intro k n st hn hk iK;obtain⟨k,rfl⟩:=bl hk;have hi:=yM hm aM n U;have aQ:n<l.length:=U;rw[jw.l1,af U,af U,af U];obtain⟨st',e1,e2⟩:=abM hi aQ hb (hm.cell U U) iK (rd aM (n:Int));have sJ:=Sp hi aQ (rd aM (n:Int));have F0:=R8 hi aQ (rd aM (n:Int));have ajL:(pU (dL w h l aM n) n).length<=n:=by
   unfold pU;refine Nat.le_trans (List.length_filter_le ..) bk
  simp only[e1,aG];rw[wi U U];have Gk:(n:Int)+1=((n+1:Nat):Int):=U;have Gd:kT w h (dL w h l aM n) n (rd l (n:Int)) (rd aM (n:Int))=dL w h l aM (n+1):=rfl;rw[Gd] at F0 sJ e2;have:=ih k (n+1) st' U U e2
  by_cases hp:0<=(rd (dL w h l aM (n+1)).1 (n:Int)).Cell
  ·rw[af (by rw[Gd];simpa using hp),af U]
   rw[af hp] at F0;rw[Gk,<-this,F0,Gd];have hu:(⟨(rd l (n:Int)).Id,if mL w h (dL w h l aM n).1 (rd l (n:Int)) (rd aM (n:Int)) then dA w h (rd l (n:Int)) (rd aM (n:Int)) else(rd l (n:Int)).Cell,(rd l (n:Int)).Goal⟩:aF)=rd (dL w h l aM (n+1)).1 (n:Int):=by
    rw[sJ] at hp⊢;simp only at hp⊢
    by_cases hc:mL w h (dL w h l aM n).1 (rd l (n:Int)) (rd aM (n:Int))
    ·rw[af hc] at hp⊢;rw[af hc]
     by_cases hg:dA w h (rd l (n:Int)) (rd aM (n:Int))=(rd l (n:Int)).Goal
     ·rw[af hg] at hp;omega
     ·rw[ah hg]
    ·rw[ah hc,ah hc]
   rw[hu]
  ·rw[ah (by rw[Gd];simpa using hp)]
   rw[ah hp,List.append_nil] at F0;rw[Gk,<-this,F0,Gd]
def Ls (aM:List Int) (n:Nat):Prop:=aM.length=n/\ ∀d∈aM,0<=d/\d<=5
theorem go_ok {w h:Int} {l:List aF} {aM:List Int} (hm:ie w h l) (hb:l.length<=1000000) (hd:Ls aM l.length):
 jw.f w h l aM=some ((gN w h l aM).1,(gN w h l aM).2.1,(gN w h l aM).2.2,0):=by
 unfold jw.f;obtain⟨r,r1,r2⟩:=VQ (w:=w) (h:=h) (l:=l) U;obtain⟨o,o1,o2⟩:=agx (s:=aM) (by have:=hd.1;omega)
 have ho:o=false:=by
  rw[Bool.eq_false_iff];intro q;obtain⟨d,TU,hx⟩:=o2.1 q;have:=hd.2 d TU;omega
 rw[r1,aG,r2.2 hm,o1,ho];rw[ah (by simp[hd.1])]
 simp only[aG,Bool.false_eq_true,if_false];obtain⟨m',e1,e2⟩:=aiU (w:=w) (h:=h) (l:=l) (aM:=aM) hb l.length fuel 0 [] U U (by rw[cD];omega) bj (λc=>by
  constructor
  ·intro q;simp[aP,cW] at q
  ·rintro⟨q,q0,q1,_⟩;omega)
 rw[e1];exact ab4 hm hb hd.1 l.length fuel 0 m' U (by rw[cD];omega) e2
section
variable {w h : Int} {l : List aF} {aM : List Int}
abbrev sQ (w h:Int) (l:List aF) (aM:List Int) (n:Nat):Prop:=mL w h (dL w h l aM n).1 (rd l (n:Int)) (rd aM (n:Int))
abbrev lJ (w h:Int) (l:List aF) (aM:List Int) (n:Nat):Int:=dA w h (rd l (n:Int)) (rd aM (n:Int))
def Ek (w h:Int) (l:List aF) (aM:List Int) (n:Nat):Int:=if sQ w h l aM n then(if lJ w h l aM n=(rd l (n:Int)).Goal then-1 else lJ w h l aM n) else(rd l (n:Int)).Cell
theorem Oy (n:Nat):(dL w h l aM (n+1)).2.1=(dL w h l aM n).2.1++(if sQ w h l aM n then[⟨(rd l (n:Int)).Id,lJ w h l aM n⟩] else[]):=by
 show(kT w h (dL w h l aM n) n (rd l (n:Int)) (rd aM (n:Int))).2.1=_
 unfold kT
 by_cases hc:sQ w h l aM n
 ·rw[af hc,af hc]
 ·rw[ah hc,ah hc,List.append_nil]
theorem Sk (n:Nat):(dL w h l aM (n+1)).2.2=(dL w h l aM n).2.2++(if sQ w h l aM n/\lJ w h l aM n=(rd l (n:Int)).Goal then[(rd l (n:Int)).Id] else[]):=by
 show(kT w h (dL w h l aM n) n (rd l (n:Int)) (rd aM (n:Int))).2.2=_
 unfold kT
 by_cases hc:sQ w h l aM n
 ·rw[af hc];simp only
  by_cases hg:lJ w h l aM n=(rd l (n:Int)).Goal
  ·rw[af hg,af ⟨hc,hg⟩]
  ·rw[ah hg,ah (λq=>hg q.2),List.append_nil]
 ·rw[ah hc,ah (λq=>hc q.1),List.append_nil]
theorem Zu (hm:ie w h l) {n:Nat} (hn:n<l.length):rd (dL w h l aM (n+1)).1 (n:Int)=⟨(rd l (n:Int)).Id,Ek w h l aM n,(rd l (n:Int)).Goal⟩:=
 Sp (yM hm aM n U) hn _
theorem LQ (hm:ie w h l) {n:Nat} (hn:n<l.length):pU (dL w h l aM (n+1)) (n+1)=pU (dL w h l aM n) n++(if 0<=Ek w h l aM n then[⟨(rd l (n:Int)).Id,Ek w h l aM n,(rd l (n:Int)).Goal⟩] else[]):=by
 have:=R8 (yM hm aM n U) hn (rd aM (n:Int));have e:kT w h (dL w h l aM n) n (rd l (n:Int)) (rd aM (n:Int))=dL w h l aM (n+1):=rfl;rw[e,Zu hm hn] at this;exact this
theorem aiY (hm:ie w h l): ∀(d n:Nat),n+d=l.length-> ∃A M G,(gN w h l aM).1=pU (dL w h l aM n) n++A/\(gN w h l aM).2.1=(dL w h l aM n).2.1++M/\(gN w h l aM).2.2=(dL w h l aM n).2.2++G/\
 (∀m∈M,∃j:Int,n<=j/\j<l.length/\m.Id=(rd l j).Id)/\(∀g∈G,∃j:Int,n<=j/\j<l.length/\g=(rd l j).Id):=by
 intro d
 induction d with
 |zero=>
  intro n hn;have:n=l.length:=U;subst this;have hi:=yM hm aM l.length (Nat.le_refl _);refine⟨[],[],[],?_,by simp[gN],by simp[gN],by simp,by simp⟩
  unfold gN pU;rw[List.take_of_length_le (by rw[hi.len];omega),List.append_nil]
 |succ d ih=>
  intro n hn;obtain⟨A,M,G,h1,h2,h3,h4,h5⟩:=ih (n+1) U;rw[LQ hm U,List.append_assoc] at h1;rw[Oy,List.append_assoc] at h2;rw[Sk,List.append_assoc] at h3;refine⟨_,_,_,h1,h2,h3,λm NZ=>?_,λg hg=>?_⟩
  ·rcases List.mem_append.1 NZ with q |q
   ·split at q
    ·simp at q;subst q;exact⟨n,by omega,by omega,rfl⟩
    ·cases q
   ·obtain⟨j,j0,j1,e⟩:=h4 m q;exact⟨j,by omega,j1,e⟩
  ·rcases List.mem_append.1 hg with q |q
   ·split at q
    ·simp at q;subst q;exact⟨n,by omega,by omega,rfl⟩
    ·cases q
   ·obtain⟨j,j0,j1,e⟩:=h5 g q;exact⟨j,by omega,j1,e⟩
theorem parts (hm:ie w h l) {n:Nat} (hn:n<l.length): ∃A M G,(gN w h l aM).1=pU (dL w h l aM n) n++((if 0<=Ek w h l aM n then[⟨(rd l (n:Int)).Id,Ek w h l aM n,(rd l (n:Int)).Goal⟩] else[])++A)/\
 (gN w h l aM).2.1=(dL w h l aM n).2.1++((if sQ w h l aM n then[⟨(rd l (n:Int)).Id,lJ w h l aM n⟩] else[])++M)/\
 (gN w h l aM).2.2=(dL w h l aM n).2.2++((if sQ w h l aM n/\lJ w h l aM n=(rd l (n:Int)).Goal then[(rd l (n:Int)).Id] else[])++G)/\
 (∀m∈M,(rd l (n:Int)).Id<m.Id)/\(∀g∈G,(rd l (n:Int)).Id<g):=by
 obtain⟨A,M,G,h1,h2,h3,h4,h5⟩:=aiY (aM:=aM) hm (l.length-(n+1)) (n+1) U;rw[LQ hm U,List.append_assoc] at h1;rw[Oy,List.append_assoc] at h2;rw[Sk,List.append_assoc] at h3;refine⟨A,M,G,h1,h2,h3,λm NZ=>?_,λg hg=>?_⟩
 ·obtain⟨j,j0,j1,e⟩:=h4 m NZ;rw[e];exact hm.Ck U U j1
 ·obtain⟨j,j0,j1,e⟩:=h5 g hg;rw[e];exact hm.Ck U U j1
theorem af0 (hm:ie w h l) {n:Nat} (hn:n<l.length):((dL w h l aM n).2.1.length<(gN w h l aM).2.1.length/\(rd (gN w h l aM).2.1 ((dL w h l aM n).2.1.length:Int)).Id=(rd l (n:Int)).Id↔sQ w h l aM n)/\
 (sQ w h l aM n->rd (gN w h l aM).2.1 ((dL w h l aM n).2.1.length:Int)=⟨(rd l (n:Int)).Id,lJ w h l aM n⟩):=by
 obtain⟨A,M,G,_,h2,_,h4,_⟩:=parts (aM:=aM) hm hn;rw[h2]
 by_cases hc:sQ w h l aM n
 ·rw[af hc];have e:rd ((dL w h l aM n).2.1++([⟨(rd l (n:Int)).Id,lJ w h l aM n⟩]++M)) ((dL w h l aM n).2.1.length:Int)=⟨(rd l (n:Int)).Id,lJ w h l aM n⟩:=by
   rw[mT U,Int.sub_self];rfl
  rw[e];exact⟨⟨λ_=>hc,λ_=>⟨by simp,J⟩⟩,λ_=>rfl⟩
 ·rw[ah hc,List.nil_append];refine⟨⟨λq=>?_,λq=>absurd q hc⟩,λq=>absurd q hc⟩
  obtain⟨q1,q2⟩:=q;rw[List.length_append] at q1;rw[mT U,Int.sub_self] at q2;have:=h4 _ (ek (a:=M) (i:=0) U U);omega
end
structure FS (f:fy) (n:Int) (L:List aF):Prop where
 fl:r8 n f
 eA:f.count=L.length
 at_: ∀x∈L,0<=x.Cell/\x.Cell<n/\rd f.words x.Cell=x.Id+1
 only: ∀c,0<=c->c<n->rd f.words c≠0-> ∃x∈L,x.Cell=c
structure CS (c:eo) (w h most:Int) (L:List aF):Prop where
 w_:c.w=w
 h_:c.h=h
 m_:c.most=most
 may:iA w h
 us:US c.cR most L
 fl:FS c.floor (w*h) L
 ok: ∀x∈L,bV w h x.Cell/\bV w h x.Goal/\x.Cell≠x.Goal
 lF:(L.length:Int)<=most
def pc (L:List aF) (c:Int):Int:=match L.find? (λx=>x.Cell==c) with
 |some x=>x.Id
 |none=> -1
variable {c : eo} {w h most : Int} {L : List aF}
theorem US.GA {u:eY} (hu:US u most L) {x:aF} (hx:x∈L):0<=x.Id/\x.Id<u.next:=by
 have:x.Id∈u.order.filter (λk=>bN u.live k):=by rw[hu.ord];exact List.mem_map.2 ⟨x,hx,J⟩
 exact hu.aZ _ (List.mem_filter.1 this).1
theorem CS.inj (hc:CS c w h most L) {x y:aF} (hx:x∈L) (hy:y∈L) (e:x.Cell=y.Cell):x=y:=by
 have h1:=(hc.fl.at_ x hx).2.2;have h2:=(hc.fl.at_ y hy).2.2;rw[e] at h1;exact Cj hc.us.up hx hy U
theorem FD (hc:CS c w h most L) {x:aF} (hx:x∈L):pc L x.Cell=x.Id:=by
 unfold pc
 cases hf:L.find? (λy=>y.Cell==x.Cell) with
 |none=>have:=List.find?_eq_none.1 hf x hx;simp at this
 |some y=>
  have h1:=List.mem_of_find?_eq_some hf;have h2:y.Cell=x.Cell:=by simpa using List.find?_some hf
  simp only;rw[hc.inj h1 hx h2]
theorem Mf {cell:Int} (h0: ∀x∈L,x.Cell≠cell):pc L cell= -1:=by
 unfold pc
 cases hf:L.find? (λy=>y.Cell==cell) with
 |none=>rfl
 |some y=>
  have h1:=List.mem_of_find?_eq_some hf;have h2:y.Cell=cell:=by simpa using List.find?_some hf
  exact absurd h2 (h0 y h1)
theorem aam (hc:CS c w h most L) {cell:Int}:pc L cell= -1↔ ∀x∈L,x.Cell≠cell:=by
 constructor
 ·intro q x hx e;rw[<-e,FD hc hx] at q;have:=(hc.us.GA hx).1;omega
 ·exact Mf
theorem Lm (hc:CS c w h most L) (cell:Int):mJ (w*h) c.floor cell=pc L cell:=by
 unfold mJ
 by_cases q:0<=cell/\cell<w*h
 ·rw[af q]
  by_cases z: ∃x∈L,x.Cell=cell
  ·obtain⟨x,hx,rfl⟩:=z;rw[FD hc hx,(hc.fl.at_ x hx).2.2];omega
  ·have hn: ∀x∈L,x.Cell≠cell:=λx hx e=>z ⟨x,hx,e⟩
   rw[Mf hn];have:rd c.floor.words cell=0:=Classical.byContradiction λy=>z (hc.fl.only cell q.1 q.2 y);omega
 ·rw[ah q,Mf];intro x hx e;have:=hc.fl.at_ x hx;exact q ⟨by omega,by omega⟩
theorem aa6 (hc:CS c w h most L) (cell:Int):Ai.f c cell=some (pc L cell):=by
 unfold Ai.f;rw[Lo hc.fl.fl,Lm hc];rfl
theorem Mt (hc:CS c w h most L):vd.f c=some L:=by
 unfold vd.f;rw[Yx hc.us];rfl
theorem Mj (hc:CS c w h most L) (cell:Int):ve.f c cell=some (decide (bV w h cell)):=by
 unfold ve.f;rw[hc.w_,hc.h_,rR,aG]
 congr 1
 by_cases q:bV w h cell
 ·rw[decide_eq_true q,decide_eq_true_iff];have: ¬aW w h cell<0:=λz=>zA.1 z q
  omega
 ·rw[decide_eq_false q,decide_eq_false_iff_not];have:=zA.2 q;omega
theorem aaM (w h most:Int): ∃r,vg.f w h most=some r/\(r.isSome=true↔iA w h/\1<=most/\most<=65536)/\ ∀c,r=some c->CS c w h most []/\c.cR.next=0:=by
 unfold vg.f;rw[AM,aG]
 by_cases q:iA w h/\1<=most/\most<=65536
 ·obtain⟨q1,q2,q3⟩:=q;have hp:=xv q1;rw[ah (by rw[decide_eq_true q1];simp;omega),age,af ⟨q2,q3⟩,aG,wi U U]
  simp only[dm,abG];rw[af hp];refine⟨_,J,⟨λ_=>⟨q1,q2,q3⟩,λ_=>rfl⟩,λc e=>?_⟩
  simp only[Option.some.injEq] at e;subst e;refine⟨⟨J,J,J,q1,agi ⟨q2,q3⟩,⟨abH hp.1,J,by simp,λd d0 d1 hd=>?_⟩,by simp,by simp;omega⟩,J⟩
  exact absurd (uB d0 U) hd
 ·refine⟨none,?_,⟨λz=>by simp at z,λz=>absurd z q⟩,λc e=>by cases e⟩
  rw[af]
  by_cases z:iA w h
  ·rw[decide_eq_true z];simp;omega
  ·rw[decide_eq_false z];simp
theorem CS.next (hc:CS c w h most L):0<=c.cR.next/\c.cR.next<=1000000:=hc.us.next
theorem abJ {f:fy} {n:Int} (hf:FS f n L) {x:aF} (h0:0<=x.Cell) (h1:x.Cell<n) (gF: ∀y∈L,y.Cell≠x.Cell) (i0:0<=x.Id) (i1:x.Id<4294967295):FS (ir f x.Cell (x.Id+1) 1) n (L++[x]):=by
 refine⟨HD hf.fl h0 h1 U U,by simp[ir,hf.eA],λy hy=>?_,λd d0 d1 hd=>?_⟩
 ·rcases List.mem_append.1 hy with q |q
  ·obtain⟨a,b,e⟩:=hf.at_ y q;refine⟨a,b,?_⟩;rw[AX hf.fl h0 h1 a,ah (gF y q)];exact e
  ·simp at q;subst q;exact⟨h0,h1,by rw[AX hf.fl h0 h1 h0,af J]⟩
 ·rw[AX hf.fl h0 h1 d0] at hd
  by_cases q:d=x.Cell
  ·exact⟨x,by simp,q.symm⟩
  ·rw[ah q] at hd;obtain⟨y,hy,e⟩:=hf.only d d0 d1 hd;exact⟨y,by simp[hy],e⟩
theorem abO {f:fy} {n:Int} (hf:FS f n L) (Gw:(L.map (·.Id)).Pairwise (· < ·)) {x:aF} (hx:x∈L):FS (ir f x.Cell 0 (-1)) n (me L x.Id):=by
 obtain⟨h0,h1,h2⟩:=hf.at_ x hx;have hl:=Lb Gw (PJ Gw hx);refine⟨HD hf.fl h0 h1 U U,by simp[ir,hf.eA];omega,λy hy=>?_,λd d0 d1 hd=>?_⟩
 ·unfold me at hy;obtain⟨q1,q2⟩:=List.mem_filter.1 hy;have bM:y.Id≠x.Id:=by simpa using q2
  obtain⟨a,b,e⟩:=hf.at_ y q1;refine⟨a,b,?_⟩;rw[AX hf.fl h0 h1 a,ah]
  ·exact e
  ·intro z;rw[z,h2] at e;omega
 ·rw[AX hf.fl h0 h1 d0] at hd
  by_cases q:d=x.Cell
  ·rw[af q] at hd;exact absurd J hd
  ·rw[ah q] at hd;obtain⟨y,hy,e⟩:=hf.only d d0 d1 hd;refine⟨y,?_,e⟩;unfold me;rw[List.mem_filter];refine⟨hy,?_⟩;have:y.Id≠x.Id:=λz=>q (by rw[<-e,Cj Gw hy hx z])
   simpa using this
theorem Mw {k:Int} {x:aF} (hx:x∈me L k):x∈L:=(List.mem_filter.1 hx).1
theorem Mi (hc:CS c w h most L) {x:aF} (hx:x∈L): ∃c',pR.f c x=some c'/\CS c' w h most (me L x.Id)/\c'.cR.next=c.cR.next:=by
 unfold pR.f;obtain⟨u',e1,e2,e3⟩:=abm hc.us x.Id;have mo:=hc.us.GA hx;have hw:mJ (w*h) c.floor x.Cell=x.Id:=by rw[Lm hc,FD hc hx]
 have kq:=hc.us.eA;have Gk:=hc.next
 have NG:=hc.fl.eA;have et:DK (w*h) c.floor x.Cell=(x.Id,ir c.floor x.Cell 0 (-1)):=by unfold DK;rw[hw,ah U]
 rw[e1,aG,Xm hc.fl.fl U,et];refine⟨_,J,⟨hc.w_,hc.h_,hc.m_,hc.may,e3,abO hc.fl hc.us.up hx,λy hy=>hc.ok y (Mw hy),?_⟩,e2⟩;have:=Lb hc.us.up (PJ hc.us.up hx);have:=hc.lF;omega
def nj (w h most:Int) (L:List aF) (next cell goal:Int):Int×Int×List aF:=
 if ¬bV w h cell∨ ¬bV w h goal then(-1,7,L) else if pc L cell≠ -1 then(-1,10,L) else if most<=L.length then(-1,11,L) else if cell=goal then(-1,13,L) else(next,0,L++[⟨next,cell,goal⟩])
theorem ajq (hc:CS c w h most L) (cell goal:Int):vf.f c 3 cell goal=some (if cell=goal then 13 else 0):=by
 unfold vf.f;rw[ah bj,ah bj,ah bj,af bj]
 by_cases q:cell=goal
 ·rw[af (by simpa using q),af q]
 ·rw[ah (by simpa using q),ah q]
theorem Rr {next cell goal:Int} (a: ¬bV w h cell∨ ¬bV w h goal):nj w h most L next cell goal=(-1,7,L):=by unfold nj;rw[af a]
theorem aa0 {next cell goal:Int} (a:bV w h cell) (b:bV w h goal) (d:pc L cell≠ -1):nj w h most L next cell goal=(-1,10,L):=by
 unfold nj;rw[ah (λq=>q.elim (λz=>z a) (λz=>z b)),af d]
theorem aa1 {next cell goal:Int} (a:bV w h cell) (b:bV w h goal) (d:pc L cell= -1) (e:most<=L.length):nj w h most L next cell goal=(-1,11,L):=by
 unfold nj;rw[ah (λq=>q.elim (λz=>z a) (λz=>z b)),ah (λq=>q d),af e]
theorem aa2 {next cell goal:Int} (a:bV w h cell) (b:bV w h goal) (d:pc L cell= -1) (e: ¬most<=L.length) (g:cell=goal):nj w h most L next cell goal=(-1,13,L):=by
 unfold nj;rw[ah (λq=>q.elim (λz=>z a) (λz=>z b)),ah (λq=>q d),ah e,af g]
theorem aa3 {next cell goal:Int} (a:bV w h cell) (b:bV w h goal) (d:pc L cell= -1) (e: ¬most<=L.length) (g: ¬cell=goal):nj w h most L next cell goal=(next,0,L++[⟨next,cell,goal⟩]):=by
 unfold nj;rw[ah (λq=>q.elim (λz=>z a) (λz=>z b)),ah (λq=>q d),ah e,ah g]
theorem ajp (hc:CS c w h most L) (cell goal next:Int):vf.f c 0 cell goal=some (nj w h most L next cell goal).2.1:=by
 unfold vf.f;rw[af bj,Mj hc,Mj hc];simp only[aG,Lo hc.fl.fl,Lm hc,afA hc.us,hc.m_]
 by_cases a:bV w h cell
 ·by_cases b:bV w h goal
  ·simp only[decide_eq_true a,decide_eq_true b,Bool.not_true,aG,Bool.false_eq_true,if_false]
   by_cases d:pc L cell= -1
   ·rw[ah (by simpa using d)]
    by_cases e:most<=(L.length:Int)
    ·rw[af U,aa1 a b d e]
    ·rw[ah U]
     by_cases g:cell=goal
     ·rw[af (by simpa using g),aa2 a b d e g]
     ·rw[ah (by simpa using g),aa3 a b d e g]
   ·rw[af (by simpa using d),aa0 a b d]
  ·rw[Rr (.inr b)];simp only[decide_eq_true a,decide_eq_false b,Bool.not_true,Bool.not_false,aG,Bool.false_eq_true,if_false,if_true]
 ·rw[Rr (.inl a)];simp only[decide_eq_false a,Bool.not_false,aG,if_true]
theorem aa4 (hc:CS c w h most L) (hn:c.cR.next<1000000) (cell goal:Int): ∃c',wZ.f c cell goal=some ((nj w h most L c.cR.next cell goal).1,(nj w h most L c.cR.next cell goal).2.1,c')/\
 CS c' w h most (nj w h most L c.cR.next cell goal).2.2/\c'.cR.next=c.cR.next+(if(nj w h most L c.cR.next cell goal).2.1=0 then 1 else 0):=by
 unfold wZ.f;rw[ajp hc cell goal c.cR.next,aG]
 have Gk:=hc.next
 unfold nj
 by_cases a: ¬bV w h cell∨ ¬bV w h goal
 ·simp only[af a];rw[af bj];exact⟨c,J,hc,by simp⟩
 ·simp only[ah a]
  by_cases b:pc L cell≠ -1
  ·simp only[af b];rw[af bj];exact⟨c,J,hc,by simp⟩
  ·simp only[ah b]
   by_cases d:most<=(L.length:Int)
   ·simp only[af d];rw[af bj];exact⟨c,J,hc,by simp⟩
   ·simp only[ah d]
    by_cases e:cell=goal
    ·simp only[af e];rw[af bj];exact⟨c,J,hc,by simp⟩
    ·simp only[ah e];rw[ah bj];obtain⟨u',a1,a2,a3⟩:=(Yp hc.us hn cell goal).2 U;have eB:bV w h cell:=Classical.byContradiction λz=>a (.inl z);have Gg:bV w h goal:=Classical.byContradiction λz=>a (.inr z);have hw:pc L cell= -1:=Classical.byContradiction λz=>b z
     have gF:=(aam hc).1 hw;have Ge:rC (w*h) c.floor cell:=by
      refine⟨eB.2.1,eB.2.2,Classical.byContradiction λz=>?_⟩
      obtain⟨x,hx,q⟩:=hc.fl.only cell eB.2.1 eB.2.2 z;exact gF x hx q
     have NG:=hc.fl.eA;have kq:=hc.us.eA;have ep:DJ (w*h) c.floor cell c.cR.next=(true,ir c.floor cell (c.cR.next+1) 1):=by
      unfold DJ;rw[af ⟨Ge,by omega,by omega⟩]
     rw[a1,aG,VT hc.fl.fl U,ep];refine⟨_,J,⟨hc.w_,hc.h_,hc.m_,hc.may,a3,?_,λy hy=>?_,by simp;omega⟩,by simp[a2]⟩
     ·exact abJ (x:=⟨c.cR.next,cell,goal⟩) hc.fl eB.2.1 eB.2.2 gF (by simp only;omega) (by simp only;omega)
     ·rcases List.mem_append.1 hy with q |q
      ·exact hc.ok y q
      ·simp at q;subst q;exact⟨eB,Gg,e⟩
def wV (L:List aF) (id:Int):Int×List aF:=if Bm L id=true then(0,me L id) else(12,L)
theorem aaA (hc:CS c w h most L) (id:Int): ∃c',wX.f c id=some ((wV L id).1,c')/\CS c' w h most (wV L id).2/\c'.cR.next=c.cR.next:=by
 unfold wX.f wV Bm;rw[DM hc.us,aG];unfold zG
 cases hf:nT L id with
 |none=>
  exact⟨c,J,by simpa using hc,J⟩
 |some x=>
  obtain⟨h1,h2⟩:=Bl hf;obtain⟨c',e1,e2,e3⟩:=Mi hc h1;simp only[Bool.not_true,Bool.false_eq_true,if_false,e1,aG];rw[h2] at e2;exact⟨c',J,by simpa using e2,e3⟩
def wW (w h:Int) (L:List aF) (id goal:Int):Int×List aF:=
 match nT L id with
 |none=>(12,L)
 |some x=>if ¬bV w h goal then(7,L) else if x.Cell=goal then(13,me L id) else(0,gG L id (λx=>⟨x.Id,x.Cell,goal⟩))
theorem aaX (hc:CS c w h most L) (id goal:Int): ∃c',wY.f c id goal=some ((wW w h L id goal).1,c')/\CS c' w h most (wW w h L id goal).2/\c'.cR.next=c.cR.next:=by
 unfold wY.f wW;rw[DM hc.us,aG];unfold zG
 cases hf:nT L id with
 |none=>
  exact⟨c,J,by simpa using hc,J⟩
 |some x=>
  obtain⟨h1,h2⟩:=Bl hf;simp only[Bool.not_true,Bool.false_eq_true,if_false,Mj hc,aG,ajq hc]
  by_cases q:bV w h goal
  ·simp only[decide_eq_true q,Bool.not_true,Bool.false_eq_true,if_false]
   by_cases g:x.Cell=goal
   ·obtain⟨c',e1,e2,e3⟩:=Mi hc h1;rw[h2] at e2;simp only[af g,e1,aG,ah (λz: ¬bV w h goal=>z q)];exact⟨c',J,e2,e3⟩
   ·obtain⟨u',e1,e2,e3⟩:=Yu hc.us id goal;simp only[ah g,e1,aG,ah (λz: ¬bV w h goal=>z q)];refine⟨_,J,⟨hc.w_,hc.h_,hc.m_,hc.may,e3,⟨hc.fl.fl,by simp[gG,hc.fl.eA],λy hy=>?_,λd d0 d1 hd=>?_⟩,λy hy=>?_,by simpa[gG] using hc.lF⟩,e2⟩
    ·unfold gG at hy;obtain⟨z,hz,rfl⟩:=List.mem_map.1 hy;have:=hc.fl.at_ z hz;split<;>exact this
    ·obtain⟨z,hz,e⟩:=hc.fl.only d d0 d1 hd;refine⟨if z.Id=id then⟨z.Id,z.Cell,goal⟩ else z,List.mem_map.2 ⟨z,hz,J⟩,?_⟩
     split<;>exact e
    ·unfold gG at hy;obtain⟨z,hz,rfl⟩:=List.mem_map.1 hy;have UB:=hc.ok z hz;split
     ·rename_i y;have:z=x:=Cj hc.us.up hz h1 (y.trans h2.symm);exact⟨UB.1,q,by rw[this];exact g⟩
     ·exact UB
  ·simp only[decide_eq_false q,Bool.not_false,if_true,af q];exact⟨c,J,hc,J⟩
end Go.Proofs.YthodkonhneebbaaGreatDoor
