/- What the functions do, in plain Lean, on the objects that are kept in order. -/
import Derived.Laws.Strings
import Derived.Test.YthodkonhneebbaaGreatDoorK14
import Derived.Test.YthodkonhneebbaaGreatDoorK5
import Derived.Test.YthodkonhneebbaaGreatDoorK6
import Derived.Test.YthodkonhneebbaaGreatDoorK15
import Derived.Test.YthodkonhneebbaaGreatDoorK12
import Derived.Test.YthodkonhneebbaaGreatDoorK7
import Derived.Test.YthodkonhneebbaaGreatDoorK16
namespace Go.Proofs.YthodkonhneebbaaGreatDoor
open Go.Hx
set_option linter.unusedVariables false
set_option linter.unusedSimpArgs false
theorem aeL {c:List Int} (hc:c.length<=100000) {a:Int} (a0:0<=a) (a1:a<c.length): ∀(n k:Nat) (x:Int),a+x+n=c.length->1<=x->n<k->(∀j:Int,a<=j->j<a+x->rd c j=rd c a)->
 ∃e,iz.l1 k c a x=some e/\x<=e/\a+e<=c.length/\(∀j:Int,a<=j->j<a+e->rd c j=rd c a)/\(a+e=c.length∨rd c (a+e)≠rd c a):=by
 intro n
 induction n with
 |zero=>
  intro k x hx x1 hk hr;obtain⟨k,rfl⟩:=bh hk;refine⟨x,?_,by omega,by omega,hr,.inl U⟩
  rw[iz.l1,bj U U,ah (c:=a+x<_) U,aK,ah bk]
 |succ n ih=>
  intro k x hx x1 hk hr;obtain⟨k,rfl⟩:=bh hk;rw[iz.l1,bj (x:=a+x) U U,af U,af U,af U,aK]
  by_cases hq:rd c (a+x)=rd c a
  ·rw[af (by simpa using hq),bj U U]
   obtain⟨e,h1,h2,h3,h4,h5⟩:=ih k (x+1) U U U (λj j0 j1=>by
    by_cases hj:j=a+x
    ·rw[hj,hq]
    ·exact hr j j0 U)
   exact⟨e,h1,by omega,h3,h4,h5⟩
  ·rw[ah (by simpa using hq)]
   exact⟨x,J,by omega,by omega,hr,.inr hq⟩
inductive Db (c:List Int):Int->List Int->Prop
 |done:Db c c.length []
 |run {a e:Int} {L:List Int} (a0:0<=a) (e1:1<=e) (he:a+e<=c.length) (same: ∀j:Int,a<=j->j<a+e->rd c j=rd c a) (stop:a+e=c.length∨rd c (a+e)≠rd c a) (rest:Db c (a+e) L):Db c a ((e-1)::rd c a::L)
theorem ahD {c:List Int} (hc:c.length<=256): ∀(n k:Nat) (a:Int) (x:List Int),a+n=c.length->0<=a->n<k->x.length<=1+2*a.toNat->
 ∃L,iz.l0 k c x a=some (x++L)/\(n=0->L=[])/\L.length<=2*n/\(∃q,L.length=2*q)/\(0<n->2<=L.length/\(L.length=2↔ ∀j:Int,a<=j->j<c.length->rd c j=rd c a))/\Db c a L:=by
 intro n
 induction n using Nat.strongRecOn with
 |_ n ih=>
  intro k a x ha a0 hk hx;obtain⟨k,rfl⟩:=bh hk
  by_cases hn:n=0
  ·subst hn;have:a=c.length:=U;refine⟨[],by rw[iz.l0,ah U];simp,λ_=>rfl,by simp,⟨0,J⟩,λq=>by omega,by rw[this];exact .done⟩
  ·have a1:a<(c.length:Int):=U;obtain⟨e,h1,h2,h3,h4,h5⟩:=aeL (c:=c) U a0 a1 (n-1) fuel 1 U U (by rw[tL];omega) (λj j0 j1=>by rw[show j=a by omega])
   have ewu:bP (aa (e-1))=e-1:=by rw[bj U U,EI U U]
   obtain⟨L,e1,e2,e3,⟨q,e4⟩,e5,e6⟩:=ih (n-e.toNat) U k (a+e) (x++[e-1,rd c a]) U U U bl;refine⟨(e-1)::rd c a::L,?_,λq=>by omega,by simp;omega,⟨q+1,by simp;omega⟩,λ_=>⟨by simp,?_⟩,.run a0 h2 h3 h4 h5 e6⟩
   ·rw[iz.l0,af a1,h1,aK,af ⟨a0,a1⟩,af U,bj (x:=a+e) U U,ewu];simp only[aK];rw[e1];simp
   ·constructor
    ·intro hl;have qw:L.length=0:=by simp at hl;simp[hl]
     have DP:a+e=c.length:=by
      by_cases hz:n-e.toNat=0
      ·omega
      ·have:=(e5 U).1;omega
     intro j j0 j1;exact h4 j j0 U
    ·intro tN;have DP:a+e=c.length:=by
      rcases h5 with h5 |h5
      ·exact h5
      ·by_cases hz:a+e=c.length
       ·exact hz
       ·exact absurd (tN (a+e) U U) h5
     have:=e2 U;rw[this];rfl
theorem agG (t:aJ): ∀(k:Nat) (a x:Int),jk.l1 k t a x=iz.l1 k t.C a x:=by
 intro k
 induction k with
 |zero=>intro a x;rfl
 |succ k ih=>intro a x;simp only[jk.l1,iz.l1,ih]
theorem agF (t:aJ): ∀(k:Nat) (x:List Int) (a:Int),jk.l0 k t x a=iz.l0 k t.C x a:=by
 intro k
 induction k with
 |zero=>intro x a;rfl
 |succ k ih=>intro x a;simp only[jk.l0,iz.l0,ih,agG]
def vY (c:List Int):Prop:= ∀j:Int,0<=j->j<c.length->rd c j=rd c 0
theorem contains_diff (t:aJ) (h1:1<=t.C.length) (hb:t.C.length<=100000): ∃b,CT.f t.C t=some b/\(b=false↔vY t.C):=by
 unfold CT.f qM.f;have key: ∀(n k:Nat) (i:Int),i+n=t.C.length->0<=i->n<k-> ∃r,qM.l0 k t.C t i=some r/\(r<0↔ ∀j:Int,i<=j->j<t.C.length->rd t.C j=rd t.C 0):=by
  intro n
  induction n with
  |zero=>
   intro k i hi h0 hk;obtain⟨k,rfl⟩:=bh hk;exact⟨-1,by rw[qM.l0,ah U],⟨λ_ j j0 j1=>by omega,λ_=>by omega⟩⟩
  |succ n ih=>
   intro k i hi h0 hk;obtain⟨k,rfl⟩:=bh hk;have e:Cw.f (rd t.C i) t=some (rd t.C i !=rd t.C 0):=by unfold Cw.f;rw[af U]
   rw[qM.l0,af U,af U,e,aK]
   by_cases hq:rd t.C i=rd t.C 0
   ·rw[ah (by simpa using hq),bj U U]
    obtain⟨r,r1,r2⟩:=ih k (i+1) U U U;refine⟨r,r1,?_⟩;rw[r2];constructor
    ·intro h j j0 j1
     by_cases hj:j=i
     ·rw[hj,hq]
     ·exact h j U j1
    ·intro h j j0 j1;exact h j U j1
   ·rw[af (by simpa using hq)]
    exact⟨i,J,⟨λh=>by omega,λh=>absurd (h i U U) hq⟩⟩
 obtain⟨r,r1,r2⟩:=key t.C.length fuel 0 U U (by rw[tL];omega)
 rw[r1,aK];refine⟨_,J,?_⟩;unfold vY;rw[<-r2];simp
structure Dg (t:aJ) (L:List Int) (f:Int) (out:List Int):Prop where
 runs:iz.f t.C=some (2::L)
 two:L.length=2↔vY t.C
 even: ∃q,L.length=2*q
 enc:Db t.C 0 L
 ge:2<=L.length
 le:L.length<=512
 Pj:vY t.C->f=0/\out=[0,rd t.C 0]
 N7: ¬vY t.C-> ¬L.length<t.C.length->f=1/\out=1::t.C
 short: ¬vY t.C->L.length<t.C.length->f=2/\out=2::L
theorem afj (t:aJ) (h1:1<=t.C.length) (hb:t.C.length<=256): ∃L f out,kU.f t=some (f,out)/\Dg t L f out:=by
 obtain⟨L,e1,_,e3,e4,e5,e8⟩:=ahD (c:=t.C) U t.C.length fuel 0 [2] U U (by rw[tL];omega) bk
 have e5:=e5 U;have e6:L.length=2↔vY t.C:=e5.2;obtain⟨b,c1,c2⟩:=contains_diff t h1 U;obtain⟨k,hk⟩: ∃k,fuel=k+4:=⟨fuel-4,by rw[tL]⟩
 have p0:jk.f t 0=some (if b=true then[] else[0,rd t.C 0]):=by
  unfold jk.f;have:bP 0=0:=EI U U;rw[af (by rfl),c1,aK,this]
  cases b
  ·rw[ah bk,af U,af bk];rfl
  ·rfl
 have p1:jk.f t 1=some (1::t.C):=by
  unfold jk.f;have:bP 1=1:=EI U U;rw[ah bk,af (by rfl),this,af bl];rfl
 have p2:jk.f t 2=some (2::L):=by
  unfold jk.f;have:bP 2=2:=EI U U;rw[ah bk,ah bk,this,agF,e1];rfl
 have n1:aa (0+1)=1:=bj U U;have n2:aa (1+1)=2:=bj U U;have n3:aa (2+1)=3:=bj U U;have nn:iz.f t.C=some (2::L):=by unfold iz.f;rw[e1];rfl
 unfold kU.f;rw[hk,kU.l0,af U,p0,aK,n1]
 by_cases hu:vY t.C
 ·have hbf:b=false:=c2.mpr hu;subst hbf;rw[ah (c:=false=true) bk];simp only[List.isEmpty_cons,List.isEmpty_nil,Bool.not_false,if_true,aK];rw[kU.l0,af U,p1,aK,n2];simp only[List.isEmpty_cons,Bool.not_false,if_true,Bool.false_eq_true,if_false,aK];rw[ah bl,kU.l0,af U,p2,aK,n3];simp only[List.isEmpty_cons,Bool.not_false,if_true,Bool.false_eq_true,if_false,aK];rw[ah bl,kU.l0,ah U];exact⟨L,0,[0,rd t.C 0],J,⟨nn,e6,e4,e8,e5.1,by omega,λ_=>⟨J,J⟩,λq=>absurd hu q,λq=>absurd hu q⟩⟩
 ·have hbt:b=true:=by
   cases hb:b
   ·exact absurd (c2.mp hb) hu
   ·rfl
  subst hbt;simp only[if_true,List.isEmpty_nil,Bool.not_true,Bool.false_eq_true,if_false,aK];rw[kU.l0,af U,p1,aK,n2];simp only[List.isEmpty_cons,List.isEmpty_nil,Bool.not_false,if_true,aK];rw[kU.l0,af U,p2,aK,n3];simp only[List.isEmpty_cons,Bool.not_false,if_true,Bool.false_eq_true,if_false,aK]
  by_cases hs:L.length<t.C.length
  ·rw[af bl,kU.l0,ah U];exact⟨L,2,2::L,J,⟨nn,e6,e4,e8,e5.1,by omega,λq=>absurd q hu,λ_ q=>absurd hs q,λ_ _=>⟨J,J⟩⟩⟩
  ·rw[ah bl,kU.l0,ah U];exact⟨L,1,1::t.C,J,⟨nn,e6,e4,e8,e5.1,by omega,λq=>absurd q hu,λ_ _=>⟨J,J⟩,λ_ q=>absurd q hs⟩⟩
theorem Vl {t:aJ} (h:r8 t): ∃L f out,sQ.f t=some (out,0)/\Dg t L f out:=by
 have hl:=ox h;obtain⟨L,f,out,e,hL⟩:=afj t hl.1 hl.2;refine⟨L,f,out,?_,hL⟩;unfold sQ.f;rw[KO t U,decide_eq_true h,aK,ah bk,e];rfl
theorem PX {x:Int} (h0:0<=x) (h1:x<=4294967295):(((BitVec.ofInt (IntKind.bits .u64) x&&&BitVec.ofInt (IntKind.bits .u64) 4294967295).toNat:Nat):Int)=x:=by
 rw[BitVec.toNat_and];have e1:(BitVec.ofInt (IntKind.bits .u64) 4294967295).toNat=2^32-1:=by decide
 have e2:(BitVec.ofInt (IntKind.bits .u64) x).toNat=x.toNat:=by
  rw[BitVec.toNat_ofInt]
  show(x%((2^64:Nat):Int)).toNat=x.toNat
  rw[Int.emod_eq_of_lt h0 U]
 rw[e1,e2,Nat.and_two_pow_sub_one_eq_mod,Nat.mod_eq_of_lt U];omega
theorem Mo {x:Int} (h0:0<=x) (h1:x<=4294967295):Int.fdiv x (2^32)=0:=by
 rw[Int.fdiv_eq_ediv_of_nonneg _ U];exact Int.ediv_eq_zero_of_lt h0 U
theorem Qu {x y:Int} (hx:0<=x/\x<=1) (hy:0<=y/\y<=65536):sJ.f x y=some (0,x*y):=by
 have B4:0<=x*y/\x*y<=65536:=by
  have:x=0∨x=1:=U;rcases this with rfl |rfl<;>omega
 unfold sJ.f Cg.f;simp only[aK];rw[Mo hx.1 U,Mo hy.1 U];simp only[Int.zero_mul,Int.mul_zero];rw[PX hx.1 U,PX hy.1 U,qT hx.1 U,qT hy.1 U,qT B4.1 U,Mo B4.1 U];have z:eF 0=0:=qT U U;simp only[Int.add_zero,z];have f0:Int.fdiv 0 (2^32)=0:=by decide
 rw[f0];have a0:(((BitVec.ofInt (IntKind.bits .u64) 0&&&BitVec.ofInt (IntKind.bits .u64) 4294967295).toNat:Nat):Int)=0:=by decide
 simp only[a0,z,Int.add_zero,f0]
theorem Zx {c m:Int} {v1:Int×Int} (hv:aa v1.2=m) (hm:1<=m/\m<=8192): ∀(n k:Nat) (x:List Int) (p:Int),p+n=m->1<=p->n<k->(x.length:Int)=m->(∀j:Int,0<=j->j<p->rd x j=c)->
 ly.l0 k v1 m x p=some (List.replicate m.toNat c):=by
 intro n
 induction n using Nat.strongRecOn with
 |_ n ih=>
  intro k x p hp p1 hk hx hc;obtain⟨k,rfl⟩:=bh hk;rw[ly.l0,hv]
  by_cases hn:n=0
  ·rw[ah U]
   congr 1
   refine G2 bl (λj j0 j1=>?_);rw[hc j j0 U,vD j0 U]
  ·have aaY:(if m<p then m else p)=p:=by rw[ah U]
   rw[af U,aaY,af U,af U];have yI:(aA x 0 p).length=p.toNat:=by simp[aA];omega
   have qw:(aA x p (x.length:Int)).length=(m-p).toNat:=by simp[aA];omega
   have lB:(cj x p.toNat (min (aA x 0 p).length (aA x p (x.length:Int)).length) (aA x 0 p)).length=x.length:=zY U U;rw[yI,qw] at lB⊢;rw[bj U U];refine ih (n-(min p.toNat (m-p).toNat)) U k _ _ U U U U (λj j0 j1=>?_);have JM:rd (cj x p.toNat (min p.toNat (m-p).toNat) (aA x 0 p)) j=if j<p then rd x j else rd x (j-p):=by
    unfold cj
    by_cases hj:j<p
    ·rw[af hj,zd j0 bl];unfold rd;rw[List.getD_eq_getElem?_getD,List.getD_eq_getElem?_getD,List.getElem?_take_of_lt U]
    ·rw[ah hj,mH bl,zd bl (by simp[aA];omega)]
     have e:j-((List.take p.toNat x).length:Int)=j-p:=by simp;omega
     rw[e];unfold rd aA;rw[List.getD_eq_getElem?_getD,List.getD_eq_getElem?_getD,List.getElem?_take_of_lt U,List.getElem?_take_of_lt U];simp
   rw[JM]
   by_cases hj:j<p
   ·rw[af hj];exact hc j j0 hj
   ·rw[ah hj];exact hc (j-p) U U
theorem OH {c m:Int} (hm:1<=m/\m<=8192):ly.f [c] m=some (List.replicate m.toNat c):=by
 unfold ly.f;have e1:eF ((List.length [c]:Nat):Int)=1:=qT bk bk;have e2:eF m=m:=qT U U;rw[ah bl,ah U,e1,e2,Qu U U,aK,Int.one_mul];have e3:aa m=m:=bj U U;have hb:((decide ((0:Int)>0))||(decide (m>9223372036854775807)))=false:=by
  rw[decide_eq_false U,decide_eq_false U];rfl
 simp only[hb,e3];rw[ah bk,ah bk,ah U,aK,af U];refine X6 (agh m) (λx hx=>?_);obtain⟨hl,_⟩:=hx;rw[af U];have NA:min (List.length [c]) x.length=1:=by simp;omega
 rw[NA];have:=Zx (c:=c) (v1:=(0,m)) (m:=m) e3 hm (m-1).toNat fuel (cj x 0 1 [c]) 1 U U (by rw[tL];omega) (by rw[zY U bk];omega) (λj j0 j1=>by
  have:j=0:=U;subst this;simp[cj];rfl)
 rw[show(((1:Nat):Int))=1 by rfl,this,aK]
theorem ahj {m:Int} (hm:1<=m/\m<=8192):ly.f [] m=some []:=by
 unfold ly.f;have e1:eF ((List.length ([]:List Int):Nat):Int)=0:=qT bk bk;have e2:eF m=m:=qT U U;rw[ah bl,ah U,e1,e2,Qu U U,aK,Int.zero_mul];simp
theorem ahb {L:List Int} {lo hi j:Int} (h0:0<=lo) (j0:0<=j) (j1:lo+j<hi):rd (aA L lo hi) j=rd L (lo+j):=by
 unfold rd aA;rw[List.getD_eq_getElem?_getD,List.getD_eq_getElem?_getD,List.getElem?_take_of_lt U,List.getElem?_drop,show(lo+j).toNat=lo.toNat+j.toNat by omega]
theorem A4 {L:List Int} {lo hi:Int} (h0:0<=lo) (h1:lo<=hi) (h2:hi<=L.length):((aA L lo hi).length:Int)=hi-lo:=by rw[iJ ⟨h0,h1,h2⟩];omega
theorem HD {L:List Int} {lo hi:Int} {P:Int->Prop} (h: ∀y∈L,P y): ∀y∈aA L lo hi,P y:=λy hy=>h y (List.mem_of_mem_drop (List.mem_of_mem_take hy))
theorem WN {b:List Int} {a n:Int} (hb:b.length<=100000) (a0:0<=a) (a1:a<=b.length) (h:b.length<a+n):mF.f ⟨b,a⟩ n=some ([],.dS 6,⟨b,a⟩):=by
 unfold mF.f;simp only;rw[bj (x:=_-a) U U,af U]
theorem WM {b:List Int} {a n:Int} (hb:b.length<=100000) (a0:0<=a) (n0:0<=n) (h:a+n<=b.length):mF.f ⟨b,a⟩ n=some (aA b a (a+n),.nil,⟨b,a+n⟩):=by
 unfold mF.f;simp only;rw[bj (x:=_-a) U U,ah U,bj (x:=a+n) U U,bj (x:=a+n-n) U U,af U,show a+n-n=a by omega]
inductive mQ where
 |short:mQ
 |form:mQ
 |ok:List Int->Int->mQ
theorem u8 {b:List Int} (hb: ∀y∈b,eP y) {i:Int} (h0:0<=i) (h1:i<b.length):0<=rd b i/\rd b i<=255:=by
 have:=hb _ (uh h0 h1);unfold eP at this;omega
theorem aau {b:List Int} {a n:Int} (hb:b.length<=100000) (a0:0<=a) (a1:a<=b.length) (h:b.length<a+n):pU.f ⟨b,a⟩ n=some ([],.dS 6,⟨b,a⟩):=by
 unfold pU.f;rw[WN hb a0 a1 h];rfl
theorem aat {b:List Int} {a n:Int} (hb:b.length<=100000) (a0:0<=a) (n0:0<=n) (h:a+n<=b.length):pU.f ⟨b,a⟩ n=some (aA b a (a+n),if 0∈aA b a (a+n) then .dS 5 else .nil,⟨b,a+n⟩):=by
 unfold pU.f;have hl:=A4 a0 (show a<=a+n by omega) h
 rw[WM hb a0 n0 h,aK];simp only[Er.isNil,if_true];rw[L4 _ _ U];simp only[aK]
 by_cases hz:0∈aA b a (a+n)
 ·rw[af hz,af (by simpa using hz)]
 ·rw[ah hz,ah (by simpa using hz)]
theorem ahf {t:aJ} {L:List Int} {f:Int} {out:List Int} (h1:1<=t.C.length) (hb:t.C.length<=256) (h:Dg t L f out):xw.f t=some (f,out):=by
 unfold xw.f;rw[h.runs,aK];have hge:=h.ge;have hle:=h.le;have hlen:(((2::L:List Int).length:Nat):Int)=L.length+1:=by simp
 rw[hlen]
 by_cases hu:vY t.C
 ·have:=h.two.mpr hu;obtain⟨e1,e2⟩:=h.Pj hu;rw[af bl,af U,e1,e2]
 ·have bH: ¬L.length=2:=λq=>hu (h.two.mp q);rw[ah bl,bj U U]
  by_cases hs:L.length<t.C.length
  ·obtain⟨e1,e2⟩:=h.short hu hs;rw[af U,e1,e2]
  ·obtain⟨e1,e2⟩:=h.N7 hu hs;rw[ah U,af bl,e1,e2];rfl
theorem abx {b:List Int} {w h n:Int} (hw:1<=w/\w<=16) (hh:1<=h/\h<=16) (hn:aa (w*h)=n) {x:List Int} {q:Int} (hx:x.length<=100000) (hr:sS.f ⟨b,0⟩ n=some (x,.dS 6,⟨b,q⟩)):qG.f b w h=some (⟨0,0,[]⟩,0,2):=by
 unfold qG.f vA.f nJ.f;have e:(((decide (w<1)||decide (w>16))||decide (h<1))||decide (h>16))=false:=by simp;omega
 rw[hn,hr];simp only[e,Bool.false_eq_true,if_false,aK,Er.isNil];rw[af bl]
 rfl
theorem abv {b:List Int} {w h n:Int} (hw:1<=w/\w<=16) (hh:1<=h/\h<=16) (hn:aa (w*h)=n) {x:List Int} {q:Int} (hx:x.length<=100000) (hr:sS.f ⟨b,0⟩ n=some (x,.dS 5,⟨b,q⟩)):qG.f b w h=some (⟨0,0,[]⟩,0,3):=by
 unfold qG.f vA.f nJ.f;have e:(((decide (w<1)||decide (w>16))||decide (h<1))||decide (h>16))=false:=by simp;omega
 rw[hn,hr];simp only[e,Bool.false_eq_true,if_false,aK,Er.isNil];rw[af bl]
 rfl
theorem abw {b:List Int} {w h n:Int} (hw:1<=w/\w<=16) (hh:1<=h/\h<=16) (hn:aa (w*h)=n) {x:List Int} {p:Int} (hx:x.length<=100000) (hp:0<=p/\p<=b.length) (hr:sS.f ⟨b,0⟩ n=some (x,.nil,⟨b,p⟩)) {out:List Int} {f:Int} (aej:sQ.f ⟨w,h,x⟩=some (out,f)):
 qG.f b w h=some (if HB out (aA b 0 p)=true then(⟨w,h,x⟩,p,0) else(⟨0,0,[]⟩,0,3)):=by
 unfold qG.f vA.f nJ.f Ds.f;have e:(((decide (w<1)||decide (w>16))||decide (h<1))||decide (h>16))=false:=by simp;omega
 rw[hn,hr];simp only[e,Bool.false_eq_true,if_false,aK,Er.isNil,if_true,List.nil_append];rw[af bl];simp only[aK,Er.isNil,if_true];rw[aej];simp only[aK];rw[af U]
 cases hs:HB out (aA b 0 p)
 ·rfl
 ·rfl
abbrev Hf (w h s:Int):Nat:=((ax w h s).1*(ax w h s).2).toNat
theorem Wm {w h s:Int} (hs:bG w h s):1<=Hf w h s/\Hf w h s<=256/\((Hf w h s:Nat):Int)=(ax w h s).1*(ax w h s).2:=by
 obtain⟨z1,z2,z3,z4⟩:=p7 hs;have h1:(ax w h s).1*(ax w h s).2<=16*16:=kt U U z2 z4;have h2:1*1<=(ax w h s).1*(ax w h s).2:=kt U U z1 z3;unfold Hf;omega
theorem ahv {m:aJ} (hm:tA m) (s:Int):nC.f m s=some (fD m s):=aiU hm s
def qA (w h s c:Int):Prop:=16*(s%(bn w h).1)<=c%w/\c%w<16*(s%(bn w h).1)+(ax w h s).1/\16*(s/(bn w h).1)<=c/w/\c/w<16*(s/(bn w h).1)+(ax w h s).2
instance (w h s c:Int):Decidable (qA w h s c):=by unfold qA;infer_instance
def loc (w h s c:Int):Int:=(c/w-16*(s/(bn w h).1))*(ax w h s).1+(c%w-16*(s%(bn w h).1))
theorem ahq {w h s:Int} (hs:bG w h s):16*(s%(bn w h).1)+(ax w h s).1<=w/\16*(s/(bn w h).1)+(ax w h s).2<=h:=by
 unfold ax;rw[af hs];simp only;omega
theorem afp {w h s c:Int} (hs:bG w h s) (hi:qA w h s c):0<=loc w h s c/\loc w h s c<(ax w h s).1*(ax w h s).2:=by
 obtain⟨i1,i2,i3,i4⟩:=hi;unfold loc;exact sm U U U U
theorem ahV {w h c:Int} (hc:bU w h c): ∃s,bG w h s/\qA w h s c:=by
 have hs:=Et hc;obtain⟨a,b,d,e⟩:=Es hc;have hn:=qD (a:=(bn w h).1) (x:=c%w/16) (y:=c/w/16) a b;have hp:=vB hc;refine⟨_,hs,?_⟩;unfold qA ax;rw[af hs,hn.1,hn.2];simp only;generalize c%w=x at*;generalize c/w=y at*;omega
theorem ahs {w a X tw c:Int} (hw:0<w) (X0:0<=X) (ht:X+tw<=w):(a*w+X<=c/\c<a*w+X+tw)↔(c/w=a/\X<=c%w/\c%w<X+tw):=by
 constructor
 ·rintro⟨h1,h2⟩;have:=qD (a:=w) (x:=c-a*w) (y:=a) U U;rw[show a*w+(c-a*w)=c by omega] at this
  obtain⟨e1,e2⟩:=this;rw[e1,e2];exact⟨J,by omega,by omega⟩
 ·rintro⟨rfl,h2,h3⟩;have:=Int.mul_ediv_add_emod c w;rw[Int.mul_comm] at this;omega
theorem aha {x S:List Int} {p n c:Int} (p0:0<=p) (n0:0<=n) (hx:p+n<=x.length) (hS:n<=S.length) (c0:0<=c):rd (cj x p.toNat n.toNat S) c=if p<=c/\c<p+n then rd S (c-p) else rd x c:=by
 unfold cj
 by_cases h1:c<p
 ·rw[ah U,zd c0 bl];unfold rd;rw[List.getD_eq_getElem?_getD,List.getD_eq_getElem?_getD,List.getElem?_take_of_lt U]
 ·have e:c-((List.take p.toNat x).length:Int)=c-p:=by simp;omega
  rw[mH bl,e]
  by_cases h2:c<p+n
  ·rw[af ⟨by omega,h2⟩,zd U bl]
   unfold rd;rw[List.getD_eq_getElem?_getD,List.getD_eq_getElem?_getD,List.getElem?_take_of_lt U]
  ·rw[ah U,mH bl];have e2:c-p-((List.take n.toNat S).length:Int)=c-p-n:=by simp;omega
   rw[e2];unfold rd;rw[List.getD_eq_getElem?_getD,List.getD_eq_getElem?_getD,List.getElem?_drop,show p.toNat+n.toNat+(c-p-n).toNat=c.toNat by omega]
theorem afc {w h s:Int} (hs:bG w h s) {t:aJ} (hW:t.W=(ax w h s).1) (hH:t.H=(ax w h s).2) (hC:(t.C.length:Int)=(ax w h s).1*(ax w h s).2) {x:List Int} (hx:(x.length:Int)=w*h):
 ∃x',nX.f ⟨w,h,x⟩ s t=some x'/\(x'.length:Int)=w*h/\ ∀c,0<=c->c<w*h->rd x' c=if qA w h s c then rd t.C (loc w h s c) else rd x c:=by
 have hz:=p7 hs;have Nx:=tg hs;have hmp:=xf Nx;obtain⟨r1,r2⟩:=ahq hs;obtain⟨p1,p2,p3,p4⟩:=uo hs;obtain⟨sn1,sn2,sn3⟩:=Wm hs;unfold nX.f;simp only;rw[I',aK];have hg:de w h s 0=16*(s/(bn w h).1)*w+16*(s%(bn w h).1):=by
  unfold de;rw[af ⟨hs,by omega,by omega⟩,Int.zero_ediv,Int.zero_emod,Int.add_zero,Int.add_zero]
 rw[hg];generalize hX:16*(s%(bn w h).1)=X at*;generalize hY:16*(s/(bn w h).1)=Y at*;generalize NL:(ax w h s).1=tw at*;generalize TN:(ax w h s).2=th at*;have key: ∀(n k:Nat) (y:Int) (z:List Int),y+n=th->0<=y->n<k->(z.length:Int)=w*h->(∀c,0<=c->c<w*h->rd z c=if qA w h s c/\c/w<Y+y then rd t.C (loc w h s c) else rd x c)->
  ∃x',nX.l0 k ⟨w,h,x⟩ t (Y*w+X) z y=some x'/\(x'.length:Int)=w*h/\ ∀c,0<=c->c<w*h->rd x' c=if qA w h s c then rd t.C (loc w h s c) else rd x c:=by
  intro n
  induction n with
  |zero=>
   intro k y z hy y0 hk TY NR;obtain⟨k,rfl⟩:=bh hk;refine⟨z,by rw[nX.l0,ah U],TY,λc c0 c1=>?_⟩
   rw[NR c c0 c1]
   by_cases hi:qA w h s c
   ·have:c/w<Y+y:=by
     have⟨_,_,_,i4⟩:=hi;rw[hY,TN] at i4;omega
    rw[af ⟨hi,this⟩,af hi]
   ·rw[ah (λq=>hi q.1),ah hi]
  |succ n ih=>
   intro k y z hy y0 hk TY NR;obtain⟨k,rfl⟩:=bh hk;have e1:(Y+y)*w=Y*w+y*w:=Int.add_mul _ _ _;have e2:(y+1)*tw=y*tw+tw:=by rw[Int.add_mul,Int.one_mul]
   have e3:(Y+y+1)*w=(Y+y)*w+w:=by rw[Int.add_mul,Int.one_mul]
   have b1:(Y+y+1)*w<=h*w:=Int.mul_le_mul_of_nonneg_right U U;have b2:h*w=w*h:=Int.mul_comm _ _;have b3:(y+1)*tw<=th*tw:=Int.mul_le_mul_of_nonneg_right U U;have b4:th*tw=tw*th:=Int.mul_comm _ _;have b5:0<=y*tw:=nu y0 U;have b6:0<=y*w:=nu y0 U;have b7:0<=Y*w:=nu U U;rw[nX.l0,hH,af U];simp only;rw[hW,bj (x:=y*w) U U,bj (x:=Y*w+X+y*w) U U,bj (x:=y*tw) U U,bj (x:=y+1) U U,bj (x:=(y+1)*tw) U U];have hpe:Y*w+X+y*w=(Y+y)*w+X:=U;rw[hpe,af U,af U];have l1:=A4 (L:=t.C) (lo:=y*tw) (hi:=(y+1)*tw) b5 U U;have l2:=A4 (L:=z) (lo:=(Y+y)*w+X) (hi:=(z.length:Int)) U U U;have NA:min (aA t.C (y*tw) ((y+1)*tw)).length (aA z ((Y+y)*w+X) (z.length:Int)).length=tw.toNat:=U;rw[NA];have lB:(cj z ((Y+y)*w+X).toNat tw.toNat (aA t.C (y*tw) ((y+1)*tw))).length=z.length:=zY U U;refine ih k (y+1) _ U U U U (λc c0 c1=>?_);rw[aha U U U U c0];have TJ:=ahs (w:=w) (a:=Y+y) (X:=X) (tw:=tw) (c:=c) U U r1
   by_cases wW:(Y+y)*w+X<=c/\c<(Y+y)*w+X+tw
   ·obtain⟨q1,q2,q3⟩:=TJ.mp wW;have cu:qA w h s c:=by unfold qA;rw[hX,hY,NL,TN];exact⟨q2,q3,by omega,by omega⟩
    rw[af wW,af ⟨cu,by omega⟩,ahb b5 U U]
    congr 1
    unfold loc;rw[hX,hY,NL,q1];have e4:(Y+y-Y)*tw=y*tw:=by rw[show Y+y-Y=y by omega]
    have:=Int.mul_ediv_add_emod c w;rw[Int.mul_comm,q1] at this;omega
   ·rw[ah wW,NR c c0 c1]
    by_cases cu:qA w h s c
    ·have⟨i1,i2,i3,i4⟩:=cu;rw[hX] at i1;rw[hX,NL] at i2;have bH:c/w≠Y+y:=λq=>wW (TJ.mpr ⟨q,i1,i2⟩)
     by_cases aP:c/w<Y+y
     ·rw[af ⟨cu,aP⟩,af ⟨cu,by omega⟩]
     ·rw[ah (λq=>aP q.2),ah (λq=>by have:=q.2;omega)]
    ·rw[ah (λq=>cu q.1),ah (λq=>cu q.1)]
 exact key th.toNat fuel 0 x U U (by rw[tL];omega) hx (λc c0 c1=>by
  by_cases hi:qA w h s c
  ·have⟨_,_,i3,_⟩:=hi;rw[hY] at i3;rw[ah (λq=>by have:=q.2;omega)]
  ·rw[ah (λq=>hi q.1)])
theorem agp {x y:Nat} (hx:x<256):x|||(y*256)=x+256*y:=by
 have:=Nat.shiftLeft_add_eq_or_of_lt (b:=x) (i:=8) U y;rw[Nat.shiftLeft_eq] at this;have e8:(2:Nat)^8=256:=by decide
 rw[e8] at this;rw[Nat.or_comm,<-this];omega
theorem DM {x y:Int} (hx:eP x) (hy:eP y):aa (BitVec.toNat (BitVec.ofInt (IntKind.bits .i64) (aa x)|||BitVec.ofInt (IntKind.bits .i64) (aa ((aa y)*2^8))))=x+256*y:=by
 unfold eP at hx hy;rw[bj (x:=x) U U,bj (x:=y) U U,bj (x:=y*2^8) U U,BitVec.toNat_or];have e: ∀z:Int,0<=z->z<=1000000->(BitVec.ofInt (IntKind.bits .i64) z).toNat=z.toNat:=by
  intro z z0 z1;rw[BitVec.toNat_ofInt]
  show(z%((2^64:Nat):Int)).toNat=z.toNat
  rw[Int.emod_eq_of_lt z0 U]
 rw[e x U U,e (y*2^8) U U];have e2:(y*2^8).toNat=y.toNat*256:=U;rw[e2,agp U,bj U U];omega
theorem Pr {x:Int}:bP x=x%256:=by
 unfold bP IntKind.wrap IntKind.signed IntKind.bits;simp
structure wv (m:aJ):Prop where
 ok:tA m
 sj: ∀y∈m.C,1<=y/\y<=255
theorem OU {m:aJ} (hm:wv m) {s:Int} (hs:bG m.W m.H s):r8 (fD m s)/\ ∀y∈(fD m s).C,1<=y/\y<=255:=by
 have hz:=p7 hs;obtain⟨n1,n2,n3⟩:=Wm hs;have hb: ∀y∈(fD m s).C,1<=y/\y<=255:=by
  intro y hy;unfold fD kD at hy;simp only[List.mem_map,List.mem_range] at hy;obtain⟨l,hl,rfl⟩:=hy;have hg:=Aa (l:=(l:Int)) hs U U;exact hm.sj _ (uh hg.1 (by rw[hm.ok.2.1];exact hg.2))
 refine⟨⟨hz.1,hz.2.1,hz.2.2.1,hz.2.2.2,?_,λq=>by have:=hb 0 q;omega⟩,hb⟩
 show((kD m s (Hf m.W m.H s)).length:Int)=_
 rw[C4,n3]
def GV (m:aJ) (s:Int):List Int:=((sQ.f (fD m s)).getD ([],0)).1
theorem U6 {m:aJ} (hm:wv m) {s:Int} (hs:bG m.W m.H s): ∃L f,sQ.f (fD m s)=some (GV m s,0)/\Dg (fD m s) L f (GV m s):=by
 obtain⟨L,f,out,e,hL⟩:=Vl (OU hm hs).1;have:GV m s=out:=by unfold GV;rw[e];rfl
 exact⟨L,f,by rw[this];exact e,by rw[this];exact hL⟩
theorem U5 {t:aJ} (h:r8 t) {L:List Int} {f:Int} {out:List Int} (hL:Dg t L f out):2<=out.length/\out.length<=1+t.C.length:=by
 have hl:=ox h;have h2:=hL.ge
 by_cases hu:vY t.C
 ·rw[(hL.Pj hu).2];simp;omega
 ·by_cases hs:L.length<t.C.length
  ·rw[(hL.short hu hs).2];simp;omega
  ·rw[(hL.N7 hu hs).2];simp;omega
theorem aaZ {t:aJ} (h:r8 t) (hu: ∀y∈t.C,1<=y/\y<=255) {i:Int} {L:List Int} (he:Db t.C i L): ∀y∈L,eP y:=by
 have hl:=ox h
 induction he with
 |done=>intro y hy;simp at hy
 | @run i e L i0 e1 hie same stop rest ih=>
  intro y hy;simp only[List.mem_cons] at hy;have hm:=hu _ (uh i0 (show i<(t.C.length:Int) by omega))
  rcases hy with q |q |q
  ·rw[q];exact⟨by omega,by omega⟩
  ·rw[q];exact⟨by omega,by omega⟩
  ·exact ih y q
theorem agt {v:aJ} (hv:r8 v) (hu: ∀y∈v.C,1<=y/\y<=255) {L:List Int} {f:Int} {out:List Int} (hL:Dg v L f out): ∀y∈out,eP y:=by
 have hC: ∀y∈v.C,eP y:=λy hy=>by have:=hu y hy;exact⟨by omega,by omega⟩
 have TS:=ox hv
 by_cases hn:vY v.C
 ·rw[(hL.Pj hn).2];intro y hy;simp only[List.mem_cons,List.not_mem_nil,or_false] at hy;rcases hy with q |q
  ·rw[q];exact⟨by omega,by omega⟩
  ·rw[q];exact hC _ (uh U U)
 ·by_cases hs:L.length<v.C.length
  ·rw[(hL.short hn hs).2];intro y hy;simp only[List.mem_cons] at hy;rcases hy with q |q
   ·rw[q];exact⟨by omega,by omega⟩
   ·exact aaZ hv hu hL.enc y q
  ·rw[(hL.N7 hn hs).2];intro y hy;simp only[List.mem_cons] at hy;rcases hy with q |q
   ·rw[q];exact⟨by omega,by omega⟩
   ·exact hC y q
def outs (m:aJ):Nat->Int->List Int
 |0,_=>[]
 |n+1,s=>GV m s++outs m n (s+1)
theorem U7 {m:aJ} (hm:wv m): ∀(n:Nat) (i:Int),i+n=dP m.W m.H->0<=i->(2*n<=(outs m n i).length/\(outs m n i).length<=257*n)/\ ∀y∈outs m n i,eP y:=by
 intro n
 induction n with
 |zero=>intro i _ _;exact⟨by simp[outs],by simp[outs]⟩
 |succ n ih=>
  intro i hi i0;have hs:bG m.W m.H i:=⟨i0,by omega⟩
  obtain⟨L,f,e,hL⟩:=U6 hm hs;obtain⟨t1,t2⟩:=OU hm hs;have hl:=U5 t1 hL;have hc:=ox t1;obtain⟨h1,h2⟩:=ih (i+1) U U;refine⟨by simp only[outs,List.length_append];omega,λy hy=>?_⟩
  simp only[outs,List.mem_append] at hy;rcases hy with q |q
  ·exact agt t1 t2 hL y q
  ·exact h2 y q
def Ah (m:aJ):List Int:=[bP m.W,bP (Int.fdiv m.W (2^8)),bP m.H,bP (Int.fdiv m.H (2^8))]
def bytesOf (m:aJ):List Int:=Ah m++outs m (dP m.W m.H).toNat 0
theorem ahu {m:aJ} (hm:wv m): ∀(n k:Nat) (i:Int) (x:List Int),i+n=dP m.W m.H->0<=i->n<k->x.length<=10+257*i.toNat->kX.l0 k m x i=some (x++outs m n i):=by
 have ko:=oQ m.W m.H;intro n
 induction n with
 |zero=>
  intro k i x hi i0 hk hx;obtain⟨k,rfl⟩:=bh hk;rw[kX.l0,Kt,aK,ah U];simp[outs]
 |succ n ih=>
  intro k i x hi i0 hk hx;obtain⟨k,rfl⟩:=bh hk;have hs:bG m.W m.H i:=⟨i0,by omega⟩
  obtain⟨L,f,e,hL⟩:=U6 hm hs;obtain⟨t1,t2⟩:=OU hm hs;have hl:=U5 t1 hL;have hc:=ox t1;rw[kX.l0,Kt,aK,af U,ahv hm.ok,aK,ahf hc.1 hc.2 hL,aK];simp only;rw[af U,bj U U,ih k (i+1) _ U U U (by simp only[List.length_append];omega)]
  simp[outs]
theorem Wc {m:aJ} (hm:wv m):kX.f m=some (bytesOf m):=by
 have hc:=oQ m.W m.H;unfold kX.f;exact ahu hm (dP m.W m.H).toNat fuel 0 (Ah m) U U (by rw[tL];omega) (by simp[Ah])
theorem ad2 (m:aJ): ∀y∈Ah m,eP y:=by
 intro y hy;unfold Ah at hy;simp only[List.mem_cons,List.not_mem_nil,or_false,Pr] at hy;unfold eP;rcases hy with q |q |q |q<;>omega
theorem ZB {m:aJ} (hm:wv m): ∀y∈bytesOf m,eP y:=by
 intro y hy;have hc:=oQ m.W m.H;unfold bytesOf at hy;rw[List.mem_append] at hy;rcases hy with q |q
 ·exact ad2 m y q
 ·exact(U7 hm (dP m.W m.H).toNat 0 U U).2 y q
theorem ZA {m:aJ} (hm:wv m):6<=(bytesOf m).length/\(bytesOf m).length<=4+257*(dP m.W m.H).toNat:=by
 have hc:=oQ m.W m.H;have hp:=aav hm.ok.1;have:=(U7 hm (dP m.W m.H).toNat 0 U U).1;unfold bytesOf;rw[List.length_append];have:(Ah m).length=4:=rfl;omega
theorem aa6 {x:Int} (h0:0<=x):Int.fdiv x (2^8)=x/256:=by
 rw[Int.fdiv_eq_ediv_of_nonneg _ U];rfl
theorem Th {w:Int} (h0:0<=w) (h1:w<=65535):bP w+256*bP (Int.fdiv w (2^8))=w:=by
 rw[aa6 h0,Pr,Pr];omega
def K6 (b:List Int) (n:Int) (r:List Int×Er×eQ):Prop:=
 r.2.2.b=b/\0<=r.2.2.a_/\r.2.2.a_<=b.length/\r.1.length<=1000/\(r.2.1= .dS 5∨r.2.1= .dS 6∨(r.2.1= .nil/\(r.1.length:Int)=n/\ ∀y∈r.1,1<=y/\y<=255))
section
variable {b : List Int} {n : Int}
theorem Pd (hl:b.length<=100000) {a m:Int} (a0:0<=a) (a1:a<=b.length) (m0:0<=m):(b.length<a+m/\mF.f ⟨b,a⟩ m=some ([],.dS 6,⟨b,a⟩))∨(a+m<=b.length/\mF.f ⟨b,a⟩ m=some (aA b a (a+m),.nil,⟨b,a+m⟩)):=by
 by_cases z:b.length<a+m
 ·exact .inl ⟨z,WN hl a0 a1 z⟩
 ·exact .inr ⟨by omega,WM hl a0 m0 U⟩
theorem QT (hb: ∀y∈b,eP y) (hl:b.length<=100000) {a m:Int} (a0:0<=a) (a1:a<=b.length) (m0:0<=m) (m1:m<=256):Ok (pU.f ⟨b,a⟩ m) (λr=>K6 b m r/\(r.1.length:Int)<=m):=by
 by_cases z:b.length<a+m
 ·exact Ok.of (aau hl a0 a1 z) ⟨⟨J,a0,a1,by simp,.inr (.inl J)⟩,by simpa using m0⟩
 ·have hs:=A4 a0 (show a<=a+m by omega) (show a+m<=b.length by omega)
  refine Ok.of (aat hl a0 m0 U) ⟨⟨J,by simp only;omega,by simp only;omega,by simp only;omega,?_⟩,by simp only;omega⟩
  simp only
  by_cases y:0∈aA b a (a+m)
  ·rw[af y];exact .inl J
  ·rw[ah y];refine .inr (.inr ⟨J,by omega,λx hx=>?_⟩)
   have h8:=HD (P:=eP) hb x hx;unfold eP at h8;have:x≠0:=λq=>y (by rw[<-q];exact hx)
   omega
theorem ahE (hb: ∀y∈b,eP y) (hl:b.length<=100000) (n1:1<=n/\n<=256) (q:Int): ∀(m k:Nat) (a:Int) (x:List Int),(b.length-a).toNat<=m->m<k->0<=a->a<=b.length->(x.length:Int)<=n->(∀y∈x,1<=y/\y<=255)->
 Ok (ph.l0 k ⟨b,q⟩ n a x) (λz=>(∃e p,z= .inl ([],e,⟨b,p⟩)/\0<=p/\p<=b.length/\(e= .dS 5∨e= .dS 6))∨ ∃x' p,z= .inr (x',p)/\(x'.length:Int)=n/\0<=p/\p<=b.length/\ ∀y∈x',1<=y/\y<=255):=by
 intro m
 induction m with
 |zero=>
  intro k a x hm hk a0 a1 hx hy;obtain⟨k,rfl⟩:=bh hk;rw[ph.l0];refine Ok.ite (λz=>?_) λz=>Ok.pure (.inr ⟨x,a,J,by omega,a0,a1,hy⟩)
  rcases Pd hl a0 a1 (show(0:Int)<=2 by omega) with⟨_,e⟩ |⟨t,e⟩
  ·exact Ok.eq e (Ok.pos J (Ok.pure (.inl ⟨_,_,J,a0,a1,.inr J⟩)))
  ·omega
 |succ m ih=>
  intro k a x hm hk a0 a1 hx hy;obtain⟨k,rfl⟩:=bh hk;rw[ph.l0];refine Ok.ite (λz=>?_) λz=>Ok.pure (.inr ⟨x,a,J,by omega,a0,a1,hy⟩)
  rcases Pd hl a0 a1 (show(0:Int)<=2 by omega) with⟨_,e⟩ |⟨t,e⟩
  ·exact Ok.eq e (Ok.pos J (Ok.pure (.inl ⟨_,_,J,a0,a1,.inr J⟩)))
  ·refine Ok.eq e (Ok.neg (by simp[Er.isNil]) ?_)
   have hs:=A4 a0 (show a<=a+2 by omega) t
   have r0:=dN (a:=aA b a (a+2)) (i:=0) U U;have r1:=dN (a:=aA b a (a+2)) (i:=1) U U;have u0:=HD (P:=eP) hb _ r0;have u1:=HD (P:=eP) hb _ r1;unfold eP at u0 u1;simp only;generalize rd (aA b a (a+2)) 0=c at*;generalize rd (aA b a (a+2)) 1=v at*;rw[wi (x:=c) U U,wi (x:=c+1) U U,wi (x:=n-(x.length:Int)) U U,wi (x:=(x.length:Int)-1) U U];refine Ok.cx U (Ok.cx U ?_);refine Ok.bind (P:=λy:Bool=>y=false->v≠0/\c+1<=n-x.length) (Ok.ite (λy=>Ok.pure bk) λy=>?_) λy DZ=>?_
   ·have y: ¬(v=0∨c+1>n-x.length):=by simpa using y
    refine Ok.ite (λw=>Ok.cx U (Ok.pure λ_=>by omega)) λw=>Ok.pure λ_=>by omega
   ·refine Ok.ite (λw=>Ok.pure (.inl ⟨_,_,J,by omega,by omega,.inl J⟩)) λw=>?_
    obtain⟨v0,c1⟩:=DZ (by simpa using w)
    refine Ok.eq (OH U) (Ok.cx bl (ih k (a+2) _ U U U U bl λy aeo=>?_));rcases List.mem_append.1 aeo with w |w
    ·exact hy y w
    ·have:=List.eq_of_mem_replicate w;omega
theorem Zv (hb: ∀y∈b,eP y) (hl:b.length<=100000) (n1:1<=n/\n<=256):Ok (sS.f ⟨b,0⟩ n) (K6 b n):=by
 unfold sS.f;rcases Pd (b:=b) hl (Int.le_refl 0) U (show(0:Int)<=1 by omega) with⟨_,e⟩ |⟨t,e⟩
 ·exact Ok.eq e (Ok.pos J (Ok.pure ⟨J,Int.le_refl _,by simp only;omega,by simp,.inr (.inl J)⟩))
 refine Ok.eq e (Ok.neg (by simp[Er.isNil]) ?_)
 have hs:=A4 (L:=b) (Int.le_refl 0) (show(0:Int)<=0+1 by omega) t
 refine Ok.cx (by simp only;omega) (Ok.ite (λz=>?_) λz=>Ok.ite (λz=>?_) λz=>Ok.ite (λz=>?_) λz=>Ok.pure ⟨J,by simp only;omega,by simp only;omega,by simp,.inl J⟩)
 ·refine(QT hb hl (a:=0+1) (m:=1) U U U U).bind λr hr=>?_
  obtain⟨⟨h1,h2,h3,h4,h5⟩,h9⟩:=hr;rcases h5 with h5 |h5 |⟨h5,h6,h7⟩
  rotate_left 2
  ·obtain⟨y,hy⟩: ∃y,r.1=[y]:=List.length_eq_one_iff.1 U;have:=h7 y (by rw[hy];exact List.mem_cons_self ..)
   rw[hy];refine Ok.eq (OH U) (Ok.pure ⟨J,h2,h3,by simp;omega,.inr (.inr ⟨h5,by simp;omega,λx hx=>?_⟩)⟩)
   have:=List.eq_of_mem_replicate hx;omega
  all_goals
   obtain⟨x,ex,lx⟩: ∃x,ly.f r.1 n=some x/\x.length<=1000:=by
    cases yI:r.1 with
    |nil=>exact⟨_,ahj U,by simp⟩
    |cons c l=>
     rw[yI] at h9;have:l=[]:=List.length_eq_zero_iff.1 (by simp at h9;omega)
     subst this;exact⟨_,OH U,by simp;omega⟩
   exact Ok.eq ex (Ok.pure ⟨J,h2,h3,lx,by simp[h5]⟩)
 ·refine(QT hb hl (a:=0+1) (m:=n) U U U U).bind λr hr=>Ok.pure ?_
  obtain⟨⟨h1,h2,h3,h4,h5⟩,_⟩:=hr;exact⟨J,h2,h3,h4,h5⟩
 ·unfold ph.f;refine Ok.bind (P:=K6 b n) ?_ λr hr=>Ok.pure ⟨J,hr.2.1,hr.2.2.1,hr.2.2.2.1,hr.2.2.2.2⟩
  refine(ahE hb hl n1 (0+1) 100000 fuel (0+1) [] U (by rw[cH];omega) U U bl bk).bind λz hz=>?_
  rcases hz with⟨e',p,rfl,p0,p1,he⟩ |⟨x',p,rfl,hx,p0,p1,hy⟩
  ·exact Ok.pure ⟨J,p0,p1,by simp,he.imp id .inl⟩
  ·exact Ok.pure ⟨J,p0,p1,by simp only;omega,.inr (.inr ⟨J,hx,hy⟩)⟩
end
theorem OE {x:Int} (h0:0<=x) (h1:x<=255): ∃v,vF.f x=some v/\1<=v/\v<=255:=by
 unfold vF.f;rw[mM h0,mM h0]
 by_cases h7:x%8=7
 ·rw[af (by simpa using h7)];exact⟨_,J,by omega,by omega⟩
 ·rw[ah (by simpa using h7)]
  by_cases h2:x<160
  ·rw[af h2,EI U U];exact⟨_,J,by omega,by omega⟩
  ·rw[ah h2];exact⟨_,J,by omega,by omega⟩
theorem afs {c:List Int} (hc: ∀y∈c,0<=y/\y<=255) {w h:Int} (hw:1<=w/\w<=40) (hh:1<=h/\h<=40): ∀(n k:Nat) (x:List Int) (i:Int),i+n=w*h->i=x.length->n<k->(∀y∈x,1<=y/\y<=255)->
 ∃m,kW.l0 k c w h x i=some m/\m.W=w/\m.H=h/\(m.C.length:Int)=w*h/\ ∀y∈m.C,1<=y/\y<=255:=by
 have Nw:w*h<=40*40:=kt U U hw.2 hh.2;have BZ:0<=w*h:=nu U U;intro n
 induction n with
 |zero=>
  intro k x i hi hx hk ha;obtain⟨k,rfl⟩: ∃q,k=q+1:=⟨k-1,by omega⟩
  rw[kW.l0,bj (x:=w*h) U U,ah U];exact⟨_,J,J,J,by simp only;omega,ha⟩
 |succ n ih=>
  intro k x i hi hx hk ha;obtain⟨k,rfl⟩: ∃q,k=q+1:=⟨k-1,by omega⟩
  rw[kW.l0,bj (x:=w*h) U U,af U];have next: ∀v,1<=v->v<=255-> ∃m,kW.l0 k c w h (x++[v]) (aa (i+1))=some m/\m.W=w/\m.H=h/\(m.C.length:Int)=w*h/\ ∀y∈m.C,1<=y/\y<=255:=by
   intro v v0 v1;rw[bj U U];refine ih k _ (i+1) U bl U (λy hy=>?_);rw[List.mem_append] at hy;rcases hy with hy |hy
   ·exact ha y hy
   ·simp at hy;omega
  by_cases hz:(c.length:Int)>0
  ·have bH: ¬(c.length:Int)=0:=U;rw[af hz,af bH,af bH];have Am:0<=aa (i+aa (aa (Int.tdiv i c.length)*5)):=by
    have hd:0<=i/c.length/\i/c.length<=i:=⟨Int.ediv_nonneg U U,Int.ediv_le_self _ U⟩;rw[qQ U,bj (x:=i/_) U U,bj (x:=_*5) U U,bj U U];omega
   have r0:0<=Int.tmod (aa (i+aa (aa (Int.tdiv i c.length)*5))) c.length:=by rw[mM Am];exact Int.emod_nonneg _ U
   have r1:Int.tmod (aa (i+aa (aa (Int.tdiv i c.length)*5))) c.length<c.length:=by rw[mM Am];exact Int.emod_lt_of_pos _ U
   rw[af ⟨r0,r1⟩];have jg:=uh (a:=c) r0 r1;obtain⟨q0,q1⟩:=hc _ jg;obtain⟨v,e,v0,v1⟩:=OE q0 q1;rw[e,aK,af U];exact next v v0 v1
  ·rw[ah hz];obtain⟨v,e,v0,v1⟩:=OE (x:=1) U U;rw[e,aK,af U];exact next v v0 v1
theorem afr (w h:Int) {c:List Int} (hc: ∀y∈c,0<=y/\y<=255): ∃m,kW.f w h c=some m/\tA m/\m.W<=40/\m.H<=40/\ ∀y∈m.C,1<=y/\y<=255:=by
 unfold kW.f;have h1:=K4 (n:=w) (lo:=1) (hi:=40) U;have h2:=K4 (n:=h) (lo:=1) (hi:=40) U;rw[K3 U U U U,K3 U U U U];simp only[aK];generalize 1+w%(40-1+1)=a at h1⊢;generalize 1+h%(40-1+1)=b at h2⊢;have Nw:a*b<=40*40:=kt U U h1.2 h2.2;have BZ:0<=a*b:=nu U U;obtain⟨m,e,e1,e2,e3,e4⟩:=afs hc h1 h2 (a*b).toNat fuel [] 0 U bk (by rw[tL];omega) bk
 refine⟨m,e,⟨⟨by omega,by omega,by omega,by omega⟩,by rw[e1,e2];exact e3,λh0=>?_⟩,by omega,by omega,e4⟩
 have:=e4 0 h0;omega
section
theorem abu {b:List Int} (hb: ∀y∈b,eP y) (hl:b.length<=100000) {w h:Int} (hw:1<=w/\w<=16) (hh:1<=h/\h<=16):
 Ok (qG.f b w h) (λr=>(r.2.2=2∨r.2.2=3)∨(r.2.2=0/\r.1.W=w/\r.1.H=h/\(r.1.C.length:Int)=w*h/\(∀y∈r.1.C,1<=y/\y<=255)/\0<=r.2.1/\r.2.1<=b.length)):=by
 have hn:1*1<=w*h:=kt U U hw.1 hh.1;have F5:w*h<=16*16:=kt U U hw.2 hh.2;have NP:aa (w*h)=w*h:=wi U U;obtain⟨⟨x,e,rr⟩,hr,h1,h2,h3,h4,h5⟩:=Zv hb hl (n:=w*h) U;simp only at h1 h2 h3 h4 h5;obtain⟨rb,p⟩:=rr;simp only at h1 h2 h3;subst h1;rcases h5 with rfl |rfl |⟨rfl,h6,h7⟩
 ·exact Ok.of (abv hw hh NP U hr) (.inl (.inr J))
 ·exact Ok.of (abx hw hh NP U hr) (.inl (.inl J))
 ·have ht:r8 ⟨w,h,x⟩:=⟨hw.1,hw.2,hh.1,hh.2,h6,λq=>by have:=h7 0 q;omega⟩
  obtain⟨L,f,out,e,_⟩:=Vl ht;refine Ok.of (abw hw hh NP U ⟨h2,h3⟩ hr e) ?_;split
  ·exact .inr ⟨J,J,J,h6,h7,h2,h3⟩
  ·exact .inl (.inr J)
theorem Yc:yx.f .nil=some none:=rfl
theorem PZ (n:Int):yx.f (.num 243 n)=some (some n):=rfl
theorem Yd (q n:Int):yx.f (.wrap 301 [q] (.num 243 n))=some (some n):=rfl
theorem ahc {w h:Int} (Nx:iA w h) {b:List Int} (hw:rd b 0+256*rd b 1=w) (hh:rd b 2+256*rd b 3=h) (u0:eP (rd b 0)) (u1:eP (rd b 1)) (u2:eP (rd b 2)) (u3:eP (rd b 3)):
 ∀(n k:Nat) (i:Int) (r x:List Int),i+n=dP w h->0<=i->n<k->(∀y∈r,eP y)->r.length<=100000->(x.length:Int)=w*h->
 (∀c,0<=c->c<w*h->(∃s,0<=s/\s<i/\bG w h s/\qA w h s c)->1<=rd x c/\rd x c<=255)->
 Ok (oG.l0 k b (dP w h) r x i) (λres=>(∃e c,res=(⟨0,0,[]⟩,e)/\yx.f e=some (some c)/\(c=2∨c=3))∨ ∃x',res=(⟨w,h,x'⟩,.nil)/\(x'.length:Int)=w*h/\ ∀c,0<=c->c<w*h->1<=rd x' c/\rd x' c<=255):=by
 have ko:=oQ w h;intro n
 induction n with
 |zero=>
  intro k i r x hi i0 hk hr Ge hx ha;obtain⟨k,rfl⟩:=bh hk;rw[oG.l0,DM u0 u1,DM u2 u3,hw,hh,ah U];refine Ok.ite (λhz=>Ok.pure (.inl ⟨_,3,J,J,.inr J⟩)) λhz=>Ok.pure (.inr ⟨x,J,hx,λc c0 c1=>?_⟩);obtain⟨s,s1,s2⟩:=ahV (w:=w) (h:=h) (c:=c) ⟨Nx,c0,c1⟩;exact ha c c0 c1 ⟨s,s1.1,by have:=s1.2;omega,s1,s2⟩
 |succ n ih=>
  intro k i r x hi i0 hk hr Ge hx ha;obtain⟨k,rfl⟩:=bh hk;have hs:bG w h i:=⟨i0,by omega⟩
  have hz:=p7 hs;rw[oG.l0,DM u0 u1,DM u2 u3,hw,hh];refine Ok.pos U (Ok.eq (Hk ..) ((abu hr Ge ⟨hz.1,hz.2.1⟩ ⟨hz.2.2.1,hz.2.2.2⟩).bind λres NI=>?_));rcases NI with q |⟨q1,tW,tH,tC,tB,p0,p1⟩
  ·exact Ok.pos (by rcases q with q |q<;>simp[q]) (Ok.pure (.inl ⟨_,res.2.2,rfl,Yd _ _,q⟩))
  ·obtain⟨x1,f1,f2,f3⟩:=afc hs (t:=res.1) tW tH tC (x:=x) hx;have sl:=A4 (L:=r) (lo:=res.2.1) (hi:=(r.length:Int)) p0 p1 U;rw[wi (x:=i+1) U U];refine Ok.neg (by simp[q1]) (Ok.eq f1 (Ok.cx U (ih k (i+1) _ x1 U U U (HD hr) U f2 λc c0 c1 ⟨s,s0,s1,s2,s3⟩=>?_)))
   rw[f3 c c0 c1]
   by_cases z:qA w h i c
   ·rw[af z];have hll:=afp hs z;exact tB _ (uh hll.1 U)
   ·rw[ah z];refine ha c c0 c1 ⟨s,s0,?_,s2,s3⟩;have:s≠i:=λq=>z (by rw[<-q];exact s3)
    omega
theorem XU {b:List Int} (hb: ∀y∈b,eP y) (hl:b.length<=100000):Ok (wB.f b) (λr=>(r.2=2∨r.2=3)∨(r.2=0/\tA r.1/\(∀c:Int,0<=c->c<r.1.W*r.1.H->1<=rd r.1.C c/\rd r.1.C c<=255)/\r.1.W=rd b 0+256*rd b 1/\r.1.H=rd b 2+256*rd b 3)):=by
 unfold wB.f oG.f
 by_cases h4:(b.length:Int)<4
 ·rw[af h4];exact Ok.eq J (Ok.eq (PZ 2) (Ok.pos J (Ok.pure (.inl (.inl J)))))
 have u0:eP (rd b 0):=hb _ (uh U U);have u1:eP (rd b 1):=hb _ (uh U U);have u2:eP (rd b 2):=hb _ (uh U U);have u3:eP (rd b 3):=hb _ (uh U U);rw[ah h4,af (show 0<=(0:Int)/\(0:Int)<(b.length:Int) by omega),af (show 0<=(1:Int)/\(1:Int)<(b.length:Int) by omega),af (show 0<=(2:Int)/\(2:Int)<(b.length:Int) by omega),af (show 0<=(3:Int)/\(3:Int)<(b.length:Int) by omega),DM u0 u1,DM u2 u3,AA,aK]
 generalize hw:rd b 0+256*rd b 1=w;generalize hh:rd b 2+256*rd b 3=h
 by_cases hm:iA w h
 ·have hp:=xf hm;have hc:=oQ w h;rw[decide_eq_true hm,ah bk,af (show 0<=(4:Int)/\(4:Int)<=(b.length:Int)/\(b.length:Int)<=(b.length:Int) by omega),bj (x:=w*h) U U,af (show 0<=w*h/\w*h<=1099511627776 by omega)]
  have e:Bw.f w h=some (dP w h):=by
   unfold Bw.f;rw[Eu,aK];have e:(bn w h).1*(bn w h).2=dP w h:=rfl;rw[e,wi U U]
  rw[e,aK];have sl:=A4 (L:=b) (lo:=4) (hi:=(b.length:Int)) U U U;refine(ahc hm hw hh u0 u1 u2 u3 (dP w h).toNat fuel 0 (aA b 4 (b.length:Int)) (List.replicate (w*h).toNat 0) U U (by rw[cH];omega) (HD hb) U bl (λc _ _ ⟨s,s0,s1,_⟩=>by omega)).bind λres NI=>?_
  rcases NI with⟨e',c,rfl,h1,h2⟩ |⟨x',rfl,xl,xb⟩
  ·exact Ok.eq h1 (Ok.pos J (Ok.pure (.inl h2)))
  ·refine Ok.eq Yc (Ok.neg bk (Ok.pure (.inr ⟨J,⟨hm,xl,λq=>?_⟩,xb,J,J⟩)));obtain⟨c,c0,c1,e⟩:=jJ q;have:=xb c c0 (by simp only at c1;omega)
   simp only at e;rw[e] at this;omega
 ·rw[decide_eq_false hm,af bk];exact Ok.eq J (Ok.eq (PZ 3) (Ok.pos J (Ok.pure (.inl (.inr J)))))
theorem V_ (w h:Int) {c:List Int} (hc: ∀y∈c,eP y): ∃m,kW.f w h c=some m/\wv m/\m.W<=40/\m.H<=40:=by
 obtain⟨m,e,ok,w40,h40,hb⟩:=afr w h (c:=c) (λy hy=>by have:=hc y hy;unfold eP at this;omega)
 exact⟨m,e,⟨ok,hb⟩,w40,h40⟩
end
section
structure rj (o:dn):Prop where
 k:0<=o.Kind/\o.Kind<=8
 a:0<=o.A/\o.A<=1000000
 b:0<=o.B/\o.B<=1000000
 m:o.Kind≠1->o.Map=[]
 b2:o.Kind=2->o.B<=255
 b5:o.Kind=5->o.B=0
 z:o.Kind=1∨o.Kind=7∨o.Kind=8->o.A=0/\o.B=0
 ld:o.Kind=1->(∀y∈o.Map,eP y)/\4<=o.Map.length/\o.Map.length<=100000/\rd o.Map 0+256*rd o.Map 1<=40/\rd o.Map 2+256*rd o.Map 3<=40
theorem Rm {n:Int} (h0:0<=n) (h1:n<=1000000):rJ.f n 4=some true:=by
 unfold rJ.f;have e:aa (1*(2^(min (Int.toNat (aa (8*4))) (IntKind.bits .i64))))=4294967296:=by decide
 rw[e,af h0,af (by decide),decide_eq_true U]
theorem aba {n:Int} (h0:0<=n) (h1:n<=255):rJ.f n 1=some true:=by
 unfold rJ.f;have e:aa (1*(2^(min (Int.toNat (aa (8*1))) (IntKind.bits .i64))))=256:=by decide
 rw[e,af h0,af (by decide),decide_eq_true U]
theorem I1:rJ.f 0 0=some true:=by decide
theorem ago {o:dn} (h:rj o) (hk:o.Kind≠0):Cs.f o=some true:=by
 have hm:=h.m;have rF:=h.ld;have hz:=h.z;have h2:=h.b2;have h5:=h.b5;have ha:=Rm h.a.1 h.a.2;have hb:=Rm h.b.1 h.b.2;unfold Cs.f;rw[ah (by simpa using hk)]
 have hc:o.Kind=1∨o.Kind=2∨o.Kind=3∨o.Kind=4∨o.Kind=5∨o.Kind=6∨o.Kind=7∨o.Kind=8:=by have:=h.k;omega
 rcases hc with e |e |e |e |e |e |e |e
 ·have:=hz (.inl e);have hl:=rF e;simp only[e,this.1,this.2,pg.f,beq_self_eq_true,if_true,aK,I1]
  by_cases q:(o.Map.length:Int)=0
  ·omega
  ·rw[ah (by simpa using q)];simp;omega
 ·have DK:=aba h.b.1 (h2 e);simp[e,pg.f,ha,DK,hm U]
 ·simp[e,pg.f,ha,hb,hm U]
 ·simp[e,pg.f,ha,hb,hm U]
 ·simp[e,pg.f,ha,h5 e,I1,hm U]
 ·simp[e,pg.f,ha,hb,hm U]
 ·have:=hz (.inr (.inl e));simp[e,pg.f,this.1,this.2,I1,hm U]
 ·have:=hz (.inr (.inr e));simp[e,pg.f,this.1,this.2,I1,hm U]
theorem xY {n lo hi:Int} (h0:0<=lo) (h1:lo<=hi) (h2:hi<=1000000): ∃r,e_.f n lo hi=some r/\lo<=r/\r<=hi:=
 ⟨_,K3 U U h1 U,K4 h1⟩
theorem Pq (x:Int):0<=bP x/\bP x<=255:=ai6 x
theorem aik (x:sG) {n:Int} (n1:1<=n) (n2:n<=1600):Ok (xx.f x n) rj:=by
 obtain⟨a,ea,a0,a1⟩:=xY (n:=x.B) (lo:=1) (hi:=6) U U U;obtain⟨b,eb,b0,b1⟩:=xY (n:=x.A) (lo:=0) (hi:=5) U U U;obtain⟨c,ec,c0,c1⟩:=xY (n:=x.A) (lo:=0) (hi:=9) U U U;obtain⟨d,ed,d0,d1⟩:=xY (n:=x.A) (lo:=0) (hi:=n-1) U U U;obtain⟨e,ee,e0,e1⟩:=xY (n:=x.A) (lo:=0) (hi:=1) U U U;unfold xx.f;rw[ea,eb,ec,wi (x:=n-1) U U,ed,ee];simp only[aK];rw[wi (x:=n+b) U U,wi (x:=e*255) U U];have w1:=Pq x.A;have w2:=Pq x.B;refine Ok.ite (λq=>Ok.pure ?_) λq=>Ok.ite (λq'=>Ok.pure ?_) λq'=>Ok.ite (λCz=>Ok.pure ?_) λCz=>Ok.pure ?_
 ·have q:a=1:=by simpa using q
  subst q;refine⟨by simp,by simp,by simp,λz=>by simp at z,λz=>by simp at z,λz=>by simp at z,λ_=>⟨J,J⟩,λ_=>⟨λy hy=>?_,by simp,by simp,by simp[rd],by simp[rd]⟩⟩
  unfold eP;simp only[List.mem_cons,List.not_mem_nil,or_false] at hy;rcases hy with rfl |rfl |rfl |rfl |rfl |rfl |rfl<;>omega
 ·have q':a=2:=by simpa using q'
  subst q';exact⟨by simp,by simp only;omega,by simp only;omega,λ_=>rfl,λ_=>by simp only;omega,λz=>by simp at z,λz=>by simp at z,λz=>by simp at z⟩
 ·have Cz:a=5:=by simpa using Cz
  subst Cz;exact⟨by simp,by simp only;omega,by simp,λ_=>rfl,λz=>by simp at z,λ_=>rfl,λz=>by simp at z,λz=>by simp at z⟩
 ·have q:a≠1:=by simpa using q
  have q':a≠2:=by simpa using q'
  have Cz:a≠5:=by simpa using Cz
  exact⟨by simp only;omega,by simp only;omega,by simp only;omega,λ_=>rfl,λz=>absurd z q',λz=>absurd z Cz,λz=>by simp only at z;omega,λz=>absurd z q⟩
theorem UA {m:aJ} (hm:wv m) (h1:m.W<=40) (h2:m.H<=40):rj ⟨1,0,0,bytesOf m⟩:=by
 have ND:=hm.ok.1;have hl:=ZA hm;have hc:=oQ m.W m.H;have e: ∀j:Int,0<=j->j<4->rd (bytesOf m) j=rd (Ah m) j:=λj j0 j1=>by unfold bytesOf;exact zd j0 (by simp[Ah];omega)
 have hw:=Th (w:=m.W) U U;have hh:=Th (w:=m.H) U U;refine⟨by simp,by simp,by simp,λz=>by simp at z,λz=>by simp at z,λz=>by simp at z,λ_=>⟨J,J⟩,λ_=>⟨ZB hm,by simp only;omega,?_,?_,?_⟩⟩
 ·have:dP m.W m.H<=3*3:=by
   unfold dP bn;rw[af hm.ok.1];exact kt (by simp only;omega) (by simp only;omega) (by simp only;omega) (by simp only;omega)
  simp only;omega
 ·simp only;rw[e 0 U U,e 1 U U]
  show bP m.W+256*bP (Int.fdiv m.W (2^8))<=40
  omega
 ·simp only;rw[e 2 U U,e 3 U U]
  show bP m.H+256*bP (Int.fdiv m.H (2^8))<=40
  omega
theorem UB {m:aJ} (hm:wv m) (h1:m.W<=40) (h2:m.H<=40):1<=m.C.length/\m.C.length<=1600:=by
 have hp:=xf hm.ok.1;have:=hm.ok.2.1;have ND:=hm.ok.1;have:m.W*m.H<=40*40:=kt U U h1 h2;omega
theorem ahP (w h:Int) {c:List Int} (hc: ∀y∈c,eP y) (l:List sG): ∀(n k:Nat) (a b:Int) (C:List Int) (x:List dn) (N i:Int),(60-i).toNat<=n->n<k->0<=i->1<=N->N<=1600->(x.length:Int)<=1+i->i<=60->(∀o∈x,rj o)->x≠[]->
 Ok (nD.l0 k w h c l a b C x N i) (λr=>r≠[]/\r.length<=61/\ ∀o∈r,rj o):=by
 have fin: ∀(k:Nat) (a b:Int) (C:List Int) (x:List dn) (N i:Int),¬(i<l.length/\i<60)->(x.length:Int)<=1+i->i<=60->(∀o∈x,rj o)->x≠[]->Ok (nD.l0 (k+1) w h c l a b C x N i) (λr=>r≠[]/\r.length<=61/\ ∀o∈r,rj o):=λk a b C x N i hi hx dT ha bH=>by
  rw[nD.l0,ah (by simpa using hi)]
  exact Ok.pure ⟨bH,by omega,ha⟩
 intro n
 induction n with
 |zero=>
  intro k a b C x N i hn hk h0 n1 n2 hx dT ha bH;obtain⟨k,rfl⟩:=bh hk;exact fin k a b C x N i U hx dT ha bH
 |succ n ih=>
  intro k a b C x N i hn hk h0 n1 n2 hx dT ha bH;obtain⟨k,rfl⟩:=bh hk
  by_cases aP:i<l.length/\i<60
  ·rw[nD.l0,af (by simpa using aP),af ⟨h0,aP.1⟩,wi (x:=N-1) U U,wi (x:=i+1) U U]
   obtain⟨p,ep,p0,p1⟩:=xY (n:=(rd l i).A) (lo:=0) (hi:=N-1) U U U;obtain⟨q,eq,q0,q1⟩:=xY (n:=(rd l i).B) (lo:=0) (hi:=N-1) U U U;obtain⟨v,ev,v0,v1⟩:=xY (n:=(rd l i).Kind) (lo:=0) (hi:=15) U U U;obtain⟨s,es,s0,s1⟩:=xY (n:=(rd l i).A) (lo:=0) (hi:=9) U U U;obtain⟨t,et,t0,t1⟩:=xY (n:=(rd l i).B) (lo:=0) (hi:=200) U U U;rw[ep,eq,ev,es,et];simp only[aK];refine Ok.bind (P:=λr:Int×Int×List Int×Int×Int×Int×Int×List Int=>1<=r.2.2.2.1/\r.2.2.2.1<=1600/\rj ⟨r.2.2.2.2.1,r.2.2.2.2.2.1,r.2.2.2.2.2.2.1,r.2.2.2.2.2.2.2⟩) ?_ λr hr=>Ok.cx U (ih k _ _ _ _ _ (i+1) U U U hr.1 hr.2.1 bl U (λo ho=>?_) bk)
   ·have e3:(if(v==0)=true then(some (v==0)) else(if(v==1)=true then(some (v==1)) else(some (v==2))))=some (decide (v=0∨v=1∨v=2)):=by
     by_cases z:v=0
     ·simp[z]
     ·by_cases z':v=1<;>simp[z,z']
      rw[Bool.eq_iff_iff];simp
    refine Ok.eq e3 (Ok.ite (λz=>Ok.pure ⟨n1,n2,by simp,by simp only;omega,by simp only;omega,λ_=>rfl,λz=>by simp at z,λz=>by simp at z,λz=>by simp at z,λz=>by simp at z⟩) λz=>?_)
    refine Ok.ite (λz=>Ok.pure ⟨n1,n2,by simp,by simp only;omega,by simp only;omega,λ_=>rfl,λz=>by simp at z,λz=>by simp at z,λz=>by simp at z,λz=>by simp at z⟩) λz=>?_
    refine Ok.ite (λz=>Ok.pure ⟨n1,n2,by simp,by simp only;omega,by simp,λ_=>rfl,λz=>by simp at z,λ_=>rfl,λz=>by simp at z,λz=>by simp at z⟩) λz=>?_
    have e4:(if(v==5)=true then(some (v==5)) else(some (v==6)))=some (decide (v=5∨v=6)):=by
     by_cases z:v=5<;>simp[z]
     rw[Bool.eq_iff_iff];simp
    refine Ok.eq e4 (Ok.ite (λz=>?_) λz=>?_)
    ·have TT:=Pq (rd l i).B;obtain⟨u,eu,u0,u1⟩:=OE TT.1 TT.2;refine Ok.eq eu (Ok.pure ⟨n1,n2,by simp,by simp only;omega,by simp only;rw[wi U U];omega,λ_=>rfl,λ_=>by simp only;rw[wi U U];omega,λz=>by simp at z,λz=>by simp at z,λz=>by simp at z⟩)
    have e5:(if(v==7)=true then(some (v==7)) else(some (v==8)))=some (decide (v=7∨v=8)):=by
     by_cases z:v=7<;>simp[z]
     rw[Bool.eq_iff_iff];simp
    refine Ok.eq e5 (Ok.ite (λz=>Ok.pure ⟨n1,n2,by simp,by simp only;omega,by simp only;omega,λ_=>rfl,λz=>by simp at z,λz=>by simp at z,λz=>by simp at z,λz=>by simp at z⟩) λz=>?_)
    refine Ok.ite (λz=>Ok.pure ⟨n1,n2,by simp,by simp,by simp,λ_=>rfl,λz=>by simp at z,λz=>by simp at z,λ_=>⟨J,J⟩,λz=>by simp at z⟩) λz=>?_
    refine Ok.ite (λz=>Ok.ite (λz=>?_) λz=>?_) λz=>Ok.ite (λz=>?_) λz=>?_
    ·obtain⟨m,em,hm,m1,m2⟩:=V_ (aa (w+(aa (Int.tdiv (rd l i).A 4)))) (aa (h+(rd l i).B)) hc;have:=UB hm m1 m2;exact Ok.eq em (Ok.eq (Wc hm) (Ok.pure ⟨by simp only;omega,by simp only;omega,UA hm m1 m2⟩))
    ·exact Ok.pure ⟨n1,n2,by simp,by simp only;rw[wi U U];omega,by simp,λ_=>rfl,λz=>by simp at z,λz=>by simp at z,λz=>by simp at z,λz=>by simp at z⟩
    ·exact(aik (rd l i) n1 n2).bind λo ho=>Ok.pure ⟨n1,n2,ho⟩
    ·exact Ok.pure ⟨n1,n2,by simp,by simp,by simp,λ_=>rfl,λz=>by simp at z,λz=>by simp at z,λ_=>⟨J,J⟩,λz=>by simp at z⟩
   ·rcases List.mem_append.1 ho with z |z
    ·exact ha o z
    ·simp only[List.mem_cons,List.not_mem_nil,or_false] at z;rw[z];exact hr.2.2
  ·exact fin k a b C x N i aP hx dT ha bH
theorem ahO (w h:Int) {c:List Int} (hc: ∀y∈c,eP y) (l:List sG):Ok (nD.f w h c l) (λr=>r≠[]/\r.length<=61/\ ∀o∈r,rj o):=by
 unfold nD.f;obtain⟨m,em,hm,m1,m2⟩:=V_ w h hc;have:=UB hm m1 m2;refine Ok.eq em (Ok.eq (Wc hm) (ahP w h hc l 60 fuel _ _ _ _ _ 0 U (by rw[cH];omega) U U U bk U (λo ho=>?_) bk))
 simp only[List.mem_cons,List.not_mem_nil,or_false] at ho;rw[ho];exact UA hm m1 m2
end
structure US (u:eV) (most:Int) (L:List aF):Prop where
 Kb:u.most=most
 mb:1<=most/\most<=65536
 next:0<=u.next/\u.next<=1000000
 keys:(u.live.map (·.1)).Nodup
 len:u.live.length=L.length
 has: ∀k,bQ u.live k=true-> ∃x∈L,x.Id=k
 val: ∀x∈L,cY u.live x.Id=some x
 ord:u.order.filter (λk=>bQ u.live k)=L.map (·.Id)
 aY: ∀k∈u.order,0<=k/\k<u.next
 GS:(u.order.length:Int)<=u.next
 up:(L.map (·.Id)).Pairwise (· < ·)
def nM (L:List aF) (k:Int):Option aF:=L.find? (λx=>x.Id==k)
def zv (L:List aF) (k:Int):aF×Bool:=match nM L k with
 |some x=>(x,true)
 |none=>(⟨0,0,0⟩,false)
def A_ (L:List aF) (k:Int):Bool:=(nM L k).isSome
def lY (L:List aF) (k:Int):List aF:=L.filter (λx=>x.Id !=k)
def gC (L:List aF) (k:Int) (f:aF->aF):List aF:=L.map (λx=>if x.Id=k then f x else x)
theorem A9 {L:List aF} {k:Int} {x:aF} (h:nM L k=some x):x∈L/\x.Id=k:=
 ⟨List.mem_of_find?_eq_some h,by simpa using List.find?_some h⟩
theorem HF {L:List aF} {k:Int} (h:nM L k=none): ∀x∈L,x.Id≠k:=by
 intro x hx e;have:=List.find?_eq_none.1 h x hx;simp[e] at this
theorem B5 {L:List aF} (h:(L.map (·.Id)).Pairwise (· < ·)) {x y:aF} (hx:x∈L) (hy:y∈L) (e:x.Id=y.Id):x=y:=by
 obtain⟨i,hi,rfl⟩:=List.mem_iff_getElem.1 hx;obtain⟨j,hj,rfl⟩:=List.mem_iff_getElem.1 hy;have key:=List.pairwise_iff_getElem.1 h;have:i=j:=by
  rcases Nat.lt_trichotomy i j with q |q |q
  ·have:=key i j (by simpa using hi) (by simpa using hj) q
   simp at this;omega
  ·exact q
  ·have:=key j i (by simpa using hj) (by simpa using hi) q
   simp at this;omega
 subst this;rfl
theorem Ph {L:List aF} (h:(L.map (·.Id)).Pairwise (· < ·)) {x:aF} (hx:x∈L):nM L x.Id=some x:=by
 cases hf:nM L x.Id with
 |none=>exact absurd J (HF hf x hx)
 |some y=>
  obtain⟨h1,h2⟩:=A9 hf;rw[B5 h h1 hx h2]
variable {u : eV} {most : Int} {L : List aF}
theorem US.get (h:US u most L) (k:Int):cY u.live k=nM L k:=by
 cases hf:nM L k with
 |some x=>
  obtain⟨h1,h2⟩:=A9 hf;rw[<-h2];exact h.val x h1
 |none=>
  cases hg:cY u.live k with
  |none=>rfl
  |some v=>
   obtain⟨x,hx,e⟩:=h.has k (GL hg);exact absurd e (HF hf x hx)
theorem US.eH (h:US u most L):(L.length:Int)<=u.next:=by
 have h1:(L.map (·.Id)).length<=u.order.length:=by rw[<-h.ord];exact List.length_filter_le ..
 have:=h.GS;simp at h1;omega
theorem af2 (most:Int):xP.f most=some (if 1<=most/\most<=65536 then some (eV.mk most 0 [] []) else none):=by
 unfold xP.f
 by_cases h:1<=most/\most<=65536
 ·rw[ah bl,af h]
 ·rw[af bl,ah h]
theorem af5 (h:1<=most/\most<=65536):US (eV.mk most 0 [] []) most []:=
 ⟨J,h,by simp,by simp,J,by simp[bQ,cY],by simp,by simp,by simp,by simp,by simp⟩
theorem XY (hb:u.order.length<=1000000): ∀(n k:Nat) (i:Int) (xs:List Int),i+n=u.order.length->0<=i->n<k->(xs.length:Int)<=i->
 lG.l0 k u xs i=some (xs++(u.order.drop i.toNat).filter (λq=>bQ u.live q)):=by
 intro n
 induction n with
 |zero=>
  intro k i xs hi h0 hk hx;obtain⟨k,rfl⟩:=bh hk;rw[lG.l0,ah U,List.drop_of_length_le U];simp
 |succ n ih=>
  intro k i xs hi h0 hk hx;obtain⟨k,rfl⟩:=bh hk;rw[lG.l0,af U,af U,wi U U,BH h0 U]
  by_cases hm:bQ u.live (rd u.order i)=true
  ·rw[af hm,af U,ih k (i+1) _ U U U bl];simp[hm]
  ·rw[ah hm,ih k (i+1) _ U U U U];simp[hm]
theorem XX (hb:u.order.length<=1000000):lG.f u=some (u.order.filter (λq=>bQ u.live q)):=by
 unfold lG.f;rw[XY hb u.order.length fuel 0 [] U U (by rw[cH];omega) bk];simp
theorem US.ob (h:US u most L):u.order.length<=1000000:=by have:=h.GS;have:=h.next;omega
theorem PW (h:US u most L):lG.f u=some (L.map (·.Id)):=by rw[XX h.ob,h.ord]
theorem X1 {v:List Int} (hb:v.length<=1000000): ∀(n k:Nat) (i:Int) (xs:List aF),i+n=v.length->0<=i->n<k->(xs.length:Int)<=i->
 oy.l0 k u v xs i=some (xs++(v.drop i.toNat).map (λq=>aO u.live q)):=by
 intro n
 induction n with
 |zero=>
  intro k i xs hi h0 hk hx;obtain⟨k,rfl⟩:=bh hk;rw[oy.l0,ah U,List.drop_of_length_le U];simp
 |succ n ih=>
  intro k i xs hi h0 hk hx;obtain⟨k,rfl⟩:=bh hk;rw[oy.l0,af U,af U,af U,wi U U,BH h0 U,ih k (i+1) _ U U U bl];simp
theorem XZ (h:US u most L):oy.f u=some L:=by
 unfold oy.f;have hc:=h.eH;have hn:=h.next
 rw[PW h,aK,X1 bl L.length fuel 0 [] bk U (by rw[cH];omega) bk]
 simp only[List.nil_append,Int.toNat_zero,List.drop_zero,List.map_map]
 congr 1
 conv=>rhs;rw[<-List.map_id L]
 refine List.map_congr_left λx hx=>?_
 simp only[Function.comp,id];exact afS (h.val x hx)
theorem afk (h:US u most L):v_.f u=some (L.length:Int):=by unfold v_.f;rw[h.len]
theorem DA (h:US u most L) (k:Int):oz.f u k=some (zv L k):=by
 unfold oz.f zv;have hg:=h.get k
 cases hf:nM L k with
 |some x=>rw[hf] at hg;simp[aO,bQ,hg]
 |none=>rw[hf] at hg;simp[aO,bQ,hg];exact⟨J,J,J⟩
theorem XS (h:US u most L) (hn:u.next<1000000) (c g:Int):(most<=L.length->vZ.f u c g=some (0,false,u))/\
 ((L.length:Int)<most-> ∃u',vZ.f u c g=some (u.next,true,u')/\u'.next=u.next+1/\US u' most (L++[⟨u.next,c,g⟩])):=by
 have hb:=h.next
 have ho:=h.ob;unfold vZ.f;rw[h.len,h.Kb];refine⟨λhl=>by rw[af hl],λhl=>?_⟩
 have Ng:=h.eH;have gz:cY u.live u.next=none:=by
  rw[h.get]
  cases hf:nM L u.next with
  |none=>rfl
  |some x=>
   obtain⟨h1,h2⟩:=A9 hf;have:x.Id∈u.order.filter (λk=>bQ u.live k):=by rw[h.ord];exact List.mem_map.2 ⟨x,h1,J⟩
   have:=h.aY _ (List.mem_filter.1 this).1;omega
 have Tu: ∀k,bQ (cC u.live u.next ⟨u.next,c,g⟩) k=(decide (u.next=k)||bQ u.live k):=λk=>xh ..
 refine⟨_,by rw[ah U,af U],by simp only;rw[wi U U],?_⟩
 rw[wi U U];refine⟨J,h.mb,by simp only;omega,Ci h.keys _ _,?_,?_,?_,?_,?_,?_,?_⟩
 ·simp only;rw[UG,ah (by simp[bQ,gz]),h.len];simp
 ·intro k hk;rw[Tu] at hk;rcases Bool.or_eq_true_iff.1 hk with hk |hk
  ·exact⟨⟨u.next,c,g⟩,by simp,by simpa using hk⟩
  ·obtain⟨x,hx,e⟩:=h.has k hk;exact⟨x,by simp[hx],e⟩
 ·intro x hx;simp only[yY];rcases List.mem_append.1 hx with hx |hx
  ·rw[ah (λe=>by rw[e,h.val x hx] at gz;cases gz)];exact h.val x hx
  ·simp at hx;subst hx;simp
 ·simp only[Tu,List.filter_append,List.map_append]
  congr 1
  ·rw[<-h.ord];refine List.filter_congr λk hk=>?_
   have:=h.aY k hk;have:decide (u.next=k)=false:=by simp;omega
   rw[this];rfl
  ·simp
 ·intro k hk;simp only at hk⊢;rcases List.mem_append.1 hk with hk |hk
  ·have:=h.aY k hk;omega
  ·simp at hk;omega
 ·have:=h.GS;simp;omega
 ·rw[List.map_append,List.pairwise_append];refine⟨h.up,by simp,λa ha b jw=>?_⟩
  simp at jw;rw[<-h.ord] at ha;have:=h.aY a (List.mem_filter.1 ha).1;omega
theorem ai0 {f:aF->aF} (hf: ∀x,(f x).Id=x.Id) (k:Int):(gC L k f).map (·.Id)=L.map (·.Id):=by
 unfold gC;rw[List.map_map];refine List.map_congr_left λx _=>?_
 simp only[Function.comp];split
 ·exact hf x
 ·rfl
theorem WU (h:US u most L) {k:Int} {x:aF} (hx:nM L k=some x) (f:aF->aF) (hf: ∀x,(f x).Id=x.Id):
 US (eV.mk u.most u.next (cC u.live k (f x)) u.order) most (gC L k f):=by
 obtain⟨h1,h2⟩:=A9 hx;have hg:cY u.live k=some x:=by rw[h.get,hx]
 have hh: ∀q,bQ (cC u.live k (f x)) q=bQ u.live q:=λq=>by
  rw[xh]
  by_cases e:k=q
  ·subst e;simp[GL hg]
  ·simp[e]
 have DR:=ai0 (L:=L) hf k;refine⟨h.Kb,h.mb,h.next,Ci h.keys _ _,?_,?_,?_,?_,h.aY,h.GS,by rw[DR];exact h.up⟩
 ·simp only;rw[UG,af (GL hg),h.len];simp[gC]
 ·intro q hq;rw[hh] at hq;obtain⟨y,hy,e⟩:=h.has q hq;have:q∈(gC L k f).map (·.Id):=by rw[DR];exact List.mem_map.2 ⟨y,hy,e⟩
  obtain⟨z,hz,e⟩:=List.mem_map.1 this;exact⟨z,hz,e⟩
 ·intro y hy;unfold gC at hy;obtain⟨z,hz,rfl⟩:=List.mem_map.1 hy;simp only[yY]
  by_cases e:z.Id=k
  ·rw[af e,hf,e,af J];have:z=x:=B5 h.up hz h1 (e.trans h2.symm);rw[this]
  ·rw[ah e,ah (λq=>e q.symm)];exact h.val z hz
 ·simp only[hh];rw[h.ord,DR]
theorem XW (h:US u most L) (k g:Int): ∃u',xQ.f u k g=some (A_ L k,u')/\u'.next=u.next/\US u' most (gC L k (λx=>⟨x.Id,x.Cell,g⟩)):=by
 unfold xQ.f A_
 first |unfold xU.f |unfold xV.f
 rw[DA h];unfold zv
 cases hf:nM L k with
 |some x=>exact⟨_,J,J,WU h hf (λx=>⟨x.Id,x.Cell,g⟩) (λ_=>rfl)⟩
 |none=>
  refine⟨u,J,J,?_⟩;have:gC L k (λx=>⟨x.Id,x.Cell,g⟩)=L:=by
   unfold gC
   conv=>rhs;rw[<-List.map_id L]
   refine List.map_congr_left λx hx=>?_
   rw[ah (HF hf x hx)];rfl
  rw[this];exact h
theorem afL (h:US u most L) (k g:Int): ∃u',xS.f u k g=some (A_ L k,u')/\u'.next=u.next/\US u' most (gC L k (λx=>⟨x.Id,g,x.Goal⟩)):=by
 unfold xS.f A_
 first |unfold xV.f |unfold xU.f
 rw[DA h];unfold zv
 cases hf:nM L k with
 |some x=>exact⟨_,J,J,WU h hf (λx=>⟨x.Id,g,x.Goal⟩) (λ_=>rfl)⟩
 |none=>
  refine⟨u,J,J,?_⟩;have:gC L k (λx=>⟨x.Id,g,x.Goal⟩)=L:=by
   unfold gC
   conv=>rhs;rw[<-List.map_id L]
   refine List.map_congr_left λx hx=>?_
   rw[ah (HF hf x hx)];rfl
  rw[this];exact h
theorem aiZ {k:Int} (hf:nM L k=none):lY L k=L:=by
 unfold lY;rw[List.filter_eq_self];intro x hx;simpa using HF hf x hx
theorem KR (h:(L.map (·.Id)).Pairwise (· < ·)) {k:Int} {x:aF} (hx:nM L k=some x):(lY L k).length+1=L.length:=by
 obtain⟨h1,h2⟩:=A9 hx;clear hx
 induction L with
 |nil=>cases h1
 |cons y r ih=>
  rw[List.map_cons,List.pairwise_cons] at h;unfold lY at ih⊢
  by_cases e:y.Id=k
  ·have:r.filter (λz=>z.Id !=k)=r:=by
    rw[List.filter_eq_self];intro z hz;have:=h.1 z.Id (List.mem_map.2 ⟨z,hz,J⟩);simp;omega
   simp[e,this]
  ·have hxr:x∈r:=by
    rcases List.mem_cons.1 h1 with q |q
    ·subst q;exact absurd h2 e
    ·exact q
   have:=ih h.2 hxr;simp[e];omega
theorem aaV (h:US u most L) (k:Int): ∃u',xR.f u k=some (A_ L k,u')/\u'.next=u.next/\US u' most (lY L k):=by
 unfold xR.f A_;rw[DA h];unfold zv
 cases hf:nM L k with
 |none=>rw[aiZ hf];exact⟨u,J,J,h⟩
 |some x=>
  obtain⟨h1,h2⟩:=A9 hf;have hg:cY u.live k=some x:=by rw[h.get,hf]
  have hh: ∀q,bQ (dJ u.live k) q=(!decide (k=q)&&bQ u.live q):=λq=>afE h.keys ..
  have B0:u.order.filter (λq=>bQ (dJ u.live k) q)=(lY L k).map (·.Id):=by
   simp only[hh];rw[<-List.filter_filter,h.ord];unfold lY;rw[List.filter_map]
   congr 1
   refine List.filter_congr λy _=>?_
   simp only[Function.comp]
   by_cases e:y.Id=k
   ·simp[e]
   ·have: ¬k=y.Id:=λq=>e q.symm
    simp[e,this]
  have wX:US (eV.mk u.most u.next (dJ u.live k) u.order) most (lY L k):=by
   refine⟨h.Kb,h.mb,h.next,J8 h.keys _,?_,?_,?_,B0,h.aY,h.GS,?_⟩
   ·simp only;rw[afz,af (GL hg),h.len];have:=KR h.up hf;omega
   ·intro q hq;rw[hh] at hq;simp only[Bool.and_eq_true,Bool.not_eq_true',decide_eq_false_iff_not] at hq;obtain⟨y,hy,e⟩:=h.has q hq.2;exact⟨y,by unfold lY;rw[List.mem_filter];exact⟨hy,by simp;omega⟩,e⟩
   ·intro y hy;unfold lY at hy;rw[List.mem_filter] at hy;have:y.Id≠k:=by simpa using hy.2
    simp only;rw[J_ h.keys,ah (λq=>this q.symm)];exact h.val y hy.1
   ·exact h.up.sublist ((List.filter_sublist).map _)
  have hn:=h.next
  have hob:=h.ob;have hc:=h.eH;have BT:=KR h.up hf;simp only[aK,Bool.not_true,Bool.false_eq_true,if_false];have NB:((dJ u.live k).length:Int)=(lY L k).length:=by have:=wX.len;simp only at this;omega
  split
  ·rw[PW wX];refine⟨_,J,J,?_⟩;have hl:((lY L k).length:Int)<=u.next:=wX.eH
   refine⟨h.Kb,h.mb,h.next,wX.keys,wX.len,wX.has,wX.val,?_,?_,by simpa using hl,wX.up⟩
   ·simp only;rw[List.filter_eq_self];intro q hq;obtain⟨y,hy,rfl⟩:=List.mem_map.1 hq;exact GL (wX.val y hy)
   ·intro q hq;simp only at hq⊢;rw[<-B0] at hq;exact h.aY q (List.mem_filter.1 hq).1
  ·exact⟨_,J,J,wX⟩
def rW (n:Int) (f:fy):Prop:=(f.words.length:Int)=n/\ ∀c,0<=c->c<n->0<=rd f.words c/\rd f.words c<=4294967295
def mu (n:Int) (f:fy) (c:Int):Int:=if 0<=c/\c<n then rd f.words c-1 else-1
def ry (n:Int) (f:fy) (c:Int):Prop:=0<=c/\c<n/\rd f.words c=0
instance (n:Int) (f:fy) (c:Int):Decidable (ry n f c):=by unfold ry;infer_instance
def iw (f:fy) (c v k:Int):fy:=fy.mk (List.set f.words (Int.toNat c) v) (f.count+k)
theorem abc (n:Int):sC.f n=some (if 1<=n/\n<=1048576 then some (fy.mk (List.replicate n.toNat 0) 0) else none):=by
 unfold sC.f
 by_cases h:1<=n/\n<=1048576
 ·rw[ah bl,af h,af U]
 ·rw[af bl,ah h]
theorem abd {n:Int} (h:1<=n):rW n (fy.mk (List.replicate n.toNat 0) 0):=by
 refine⟨by simp;omega,λc c0 c1=>?_⟩
 rw[vD c0 U];omega
variable {n : Int} {f : fy}
theorem Rl (hf:rW n f) (c:Int):yz.f f c=some (decide (0<=c/\c<n)):=by
 unfold yz.f;rw[hf.1]
 by_cases h:0<=c
 ·rw[af U];simp[h]
 ·rw[ah U];simp[h]
theorem Rs (hf:rW n f) (c:Int):yy.f f c=some (decide (ry n f c)):=by
 unfold yy.f;rw[Rl hf,hf.1]
 by_cases h:0<=c/\c<n
 ·by_cases q:rd f.words c=0
  ·have:ry n f c:=⟨h.1,h.2,q⟩;simp[h,q,this]
  ·have: ¬ry n f c:=λz=>q z.2.2
   simp[h,q,this]
 ·have: ¬ry n f c:=λz=>h ⟨z.1,z.2.1⟩
  simp[h,this]
theorem K2 (hf:rW n f) (c:Int):qt.f f c=some (mu n f c):=by
 unfold qt.f mu;rw[Rl hf,hf.1]
 by_cases h:0<=c/\c<n
 ·have:=hf.2 c h.1 h.2;simp only[aK,decide_eq_true h,Bool.not_true,Bool.false_eq_true,if_false,af h];rw[wi (x:=rd f.words c) U U,wi U U]
 ·simp only[aK,decide_eq_false h,Bool.not_false,if_true,ah h]
theorem Hh (hf:rW n f) {c v k:Int} (h0:0<=c) (h1:c<n) (v0:0<=v) (v1:v<=4294967295):rW n (iw f c v k):=by
 refine⟨by simp[iw,hf.1],λd d0 d1=>?_⟩
 unfold iw;simp only;rw[kV h0 (by rw[hf.1];exact h1) d0]
 split
 ·exact⟨v0,v1⟩
 ·exact hf.2 d d0 d1
theorem AJ (hf:rW n f) {c v k d:Int} (h0:0<=c) (h1:c<n) (d0:0<=d):rd (iw f c v k).words d=if d=c then v else rd f.words d:=by
 unfold iw;simp only;rw[kV h0 (by rw[hf.1];exact h1) d0]
def Dw (n:Int) (f:fy) (c id:Int):Bool×fy:=if ry n f c/\0<=id/\id<4294967295 then(true,iw f c (id+1) 1) else(false,f)
def Dx (n:Int) (f:fy) (c:Int):Int×fy:=if mu n f c= -1 then(-1,f) else(mu n f c,iw f c 0 (-1))
theorem Vk (hf:rW n f) (hc:0<=f.count/\f.count<=2000000) (c id:Int):sx.f f c id=some (Dw n f c id):=by
 unfold sx.f Dw;rw[Rs hf]
 by_cases h:ry n f c
 ·by_cases h2:0<=id/\id<4294967295
  ·obtain⟨q1,q2,q3⟩:=h;have h:ry n f c:=⟨q1,q2,q3⟩;simp only[aK,decide_eq_true h,Bool.not_true];rw[ah bl,af (by rw[hf.1];omega),af ⟨h,h2⟩,wi (x:=id+1) U U,ai5 U U,wi U U]
   rfl
  ·simp only[aK,decide_eq_true h,Bool.not_true];rw[af bl,ah (λq=>h2 q.2)]
 ·simp only[aK,decide_eq_false h,Bool.not_false,Bool.true_or,if_true];rw[ah (λq=>h q.1)]
theorem WL (hf:rW n f) (hc: -2000000<=f.count/\f.count<=2000000) (c:Int):sB.f f c=some (Dx n f c):=by
 unfold sB.f Dx;rw[K2 hf]
 by_cases h:mu n f c= -1
 ·simp[h]
 ·have cu:0<=c/\c<n:=by
   unfold mu at h
   by_cases q:0<=c/\c<n
   ·exact q
   ·rw[ah q] at h;exact absurd J h
  simp only[aK];rw[af (by simpa using h),af (by rw[hf.1];omega),ah h,wi U U]
  rfl
def IZ (n:Int) (f:fy) (a b:Int):Bool×fy:=if mu n f a≠ -1/\ry n f b then(true,iw (iw f a 0 (-1)) b (mu n f a+1) 1) else(false,f)
theorem ai9 {c:Int} (h:mu n f c≠ -1):0<=c/\c<n/\mu n f c=rd f.words c-1:=by
 unfold mu at h⊢
 by_cases q:0<=c/\c<n
 ·rw[af q];exact⟨q.1,q.2,J⟩
 ·rw[ah q] at h;exact absurd J h
theorem ah9 (hf:rW n f) (hc:1<=f.count/\f.count<=2000000) (a b:Int):wN.f f a b=some (IZ n f a b):=by
 unfold wN.f IZ;rw[K2 hf,Rs hf]
 by_cases h1:mu n f a= -1
 ·simp[h1]
 ·by_cases h2:ry n f b
  ·obtain⟨a0,a1,a2⟩:=ai9 h1;have hr:=hf.2 a a0 a1;have hs:rW n (iw f a 0 (-1)):=Hh hf a0 a1 U U;have bH:b≠a:=λe=>by have:=h2.2.2;rw[e] at this;omega
   have h3:ry n (iw f a 0 (-1)) b:=⟨h2.1,h2.2.1,by rw[AJ hf a0 a1 h2.1,ah bH];exact h2.2.2⟩
   have e:Dx n f a=(mu n f a,iw f a 0 (-1)):=by unfold Dx;rw[ah h1]
   have e2:Dw n (iw f a 0 (-1)) b (mu n f a)=(true,iw (iw f a 0 (-1)) b (mu n f a+1) 1):=by
    unfold Dw;rw[af ⟨h3,by omega,by omega⟩]
   have q1:(mu n f a== -1)=false:=by simpa using h1
   simp only[aK,q1,Bool.false_eq_true,if_false,decide_eq_true h2,Bool.not_true,WL hf (by omega: -2000000<=f.count/\f.count<=2000000),e]
   rw[Vk hs (by simp[iw];omega),e2,af ⟨h1,h2⟩];rfl
  ·simp[h1,h2]
theorem agl {s:List Int} (hb:s.length<=4611686018427387000): ∀(n k:Nat) (i:Int),i+n=s.length->0<=i->n<k->
 ∃r,qN.l0 k s i=some r/\(r≥0↔ ∃j,i<=j/\j<s.length/\(rd s j<0∨rd s j>5)):=by
 intro n
 induction n with
 |zero=>
  intro k i hi h0 hk;obtain⟨k,rfl⟩:=bh hk;exact⟨-1,by rw[qN.l0,ah U],⟨λq=>by omega,λ⟨j,j0,j1,_⟩=>by omega⟩⟩
 |succ n ih=>
  intro k i hi h0 hk;obtain⟨k,rfl⟩:=bh hk;rw[qN.l0,af U,af U];simp only[D5.f,aK]
  by_cases e:rd s i<0∨rd s i>5
  ·rw[af (by simpa using e)]
   exact⟨i,J,⟨λ_=>⟨i,by omega,by omega,e⟩,λ_=>by omega⟩⟩
  ·rw[ah (by simpa using e),wi U U]
   obtain⟨r,r1,r2⟩:=ih k (i+1) U U U;refine⟨r,r1,r2.trans ⟨λ⟨j,j0,j1,j2⟩=>⟨j,by omega,j1,j2⟩,λ⟨j,j0,j1,j2⟩=>?_⟩⟩
   by_cases z:j=i
   ·subst z;exact absurd j2 e
   ·exact⟨j,by omega,j1,j2⟩
theorem agk {s:List Int} (hb:s.length<=4611686018427387000): ∃r,CV.f s=some r/\(r=true↔ ∃d∈s,d<0∨d>5):=by
 unfold CV.f qN.f;obtain⟨r,r1,r2⟩:=agl hb s.length fuel 0 U U (by rw[cH];omega)
 rw[r1,aK];refine⟨decide (r≥0),J,?_⟩;rw[decide_eq_true_iff,r2];constructor
 ·rintro⟨j,j0,j1,j2⟩;exact⟨_,dN j0 j1,j2⟩
 ·rintro⟨d,hd,h⟩;obtain⟨j,j0,j1,rfl⟩:=jJ hd;exact⟨j,j0,j1,h⟩
abbrev yc:=List aF×List fc×List Int
def dx (w h:Int) (u:aF) (d:Int):Int:=if 0<=d/\d<=3 then cD w h u.Cell d else-1
def mv (w h:Int) (now:List aF) (u:aF) (d:Int):Prop:=0<=dx w h u d/\ ∀x∈now,x.Cell≠dx w h u d
instance (w h:Int) (now:List aF) (u:aF) (d:Int):Decidable (mv w h now u d):=by unfold mv;infer_instance
def kO (w h:Int) (s:yc) (i:Int) (u:aF) (d:Int):yc:=
 if mv w h s.1 u d then(s.1.set i.toNat ⟨u.Id,if dx w h u d=u.Goal then-1 else dx w h u d,u.Goal⟩,s.2.1++[⟨u.Id,dx w h u d⟩],if dx w h u d=u.Goal then s.2.2++[u.Id] else s.2.2) else s
def dG (w h:Int) (l:List aF) (aL:List Int):Nat->yc
 |0=>(l,[],[])
 |n+1=>kO w h (dG w h l aL n) n (rd l (n:Int)) (rd aL (n:Int))
def gL (w h:Int) (l:List aF) (aL:List Int):List aF×List fc×List Int:=
 ((dG w h l aL l.length).1.filter (λx=>decide (0<=x.Cell)),(dG w h l aL l.length).2.1,(dG w h l aL l.length).2.2)
structure Bg (w h:Int) (l:List aF) (n:Nat) (s:yc):Prop where
 len:s.1.length=l.length
 rest: ∀j:Int,n<=j->j<l.length->rd s.1 j=rd l j
 same: ∀j:Int,0<=j->j<l.length->(rd s.1 j).Id=(rd l j).Id/\(rd s.1 j).Goal=(rd l j).Goal
 cell: ∀j:Int,0<=j->j<l.length->(rd s.1 j).Cell= -1∨bU w h (rd s.1 j).Cell
 apart: ∀i j:Int,0<=i->i<l.length->0<=j->j<l.length->i≠j->0<=(rd s.1 i).Cell->(rd s.1 i).Cell≠(rd s.1 j).Cell
 Ka:s.2.1.length<=n
 Mv:s.2.2.length<=n
theorem aiE {w h c d:Int} (hs:0<=cD w h c d):bU w h (cD w h c d):=by
 unfold cD at hs⊢;split
 ·unfold po at hs⊢;rename_i q;rw[af q] at hs;split
  ·rename_i z;exact⟨z.1,sm z.2.1 z.2.2.1 z.2.2.2.1 z.2.2.2.2⟩
  ·rename_i z;rw[ah z] at hs;omega
 ·rename_i q;rw[ah q] at hs;omega
theorem RP {w h:Int} {u:aF} {d:Int} (hs:0<=dx w h u d):bU w h (dx w h u d):=by
 unfold dx at hs⊢;split
 ·rename_i q;rw[af q] at hs;exact aiE hs
 ·rename_i q;rw[ah q] at hs;omega
theorem abk {w h:Int} {l:List aF} (hm:il w h l):Bg w h l 0 (l,[],[]):=
 ⟨J,λ_ _ _=>rfl,λ_ _ _=>⟨J,J⟩,λj j0 j1=> .inr (hm.cell j0 j1),λi j i0 i1 j0 j1 rE _=>hm.apart i0 i1 j0 j1 rE,by simp,by simp⟩
theorem Rv {w h:Int} {l:List aF} {n:Nat} {s:yc} (hi:Bg w h l n s) (hn:n<l.length) (d:Int):Bg w h l (n+1) (kO w h s n (rd l (n:Int)) d):=by
 unfold kO
 by_cases hc:mv w h s.1 (rd l (n:Int)) d
 ·rw[af hc];obtain⟨c1,c2⟩:=hc;have ez:=RP c1;have hlen:=hi.len;have hr: ∀j:Int,0<=j->rd (s.1.set (n:Int).toNat ⟨(rd l (n:Int)).Id,if dx w h (rd l (n:Int)) d=(rd l (n:Int)).Goal then-1 else dx w h (rd l (n:Int)) d,(rd l (n:Int)).Goal⟩) j=
   if j=n then⟨(rd l (n:Int)).Id,if dx w h (rd l (n:Int)) d=(rd l (n:Int)).Goal then-1 else dx w h (rd l (n:Int)) d,(rd l (n:Int)).Goal⟩ else rd s.1 j:=
   λj j0=>kV U U j0
  generalize dx w h (rd l (n:Int)) d=to at*;have gz: ∀j:Int,0<=j->j<l.length->(rd s.1 j).Cell≠to:=λj j0 j1=>c2 _ (dN j0 U);refine⟨by simpa using hlen,λj j0 j1=>?_,λj j0 j1=>?_,λj j0 j1=>?_,λi j i0 i1 j0 j1 rE hp=>?_,by simpa using hi.Ka,?_⟩
  ·simp only;rw[hr j U,ah U];exact hi.rest j U j1
  ·simp only;rw[hr j j0]
   by_cases q:j=n
   ·rw[af q,q];exact⟨J,J⟩
   ·rw[ah q];exact hi.same j j0 j1
  ·simp only;rw[hr j j0]
   by_cases q:j=n
   ·rw[af q];simp only;split
    ·exact .inl J
    ·exact .inr ez
   ·rw[ah q];exact hi.cell j j0 j1
  ·simp only at hp⊢;rw[hr i i0] at hp⊢;rw[hr j j0]
   by_cases qi:i=n
   ·rw[af qi] at hp⊢;rw[ah (show ¬j=(n:Int) from λq=>rE U)]
    simp only at hp⊢
    by_cases z:to=(rd l (n:Int)).Goal
    ·rw[af z] at hp;omega
    ·rw[ah z];exact λe=>gz j j0 j1 e.symm
   ·rw[ah qi] at hp⊢
    by_cases qj:j=n
    ·rw[af qj];simp only;split
     ·omega
     ·exact gz i i0 i1
    ·rw[ah qj];exact hi.apart i j i0 i1 j0 j1 rE hp
  ·simp only;have:=hi.Mv;split<;>simp<;>omega
 ·rw[ah hc];exact⟨hi.len,λj j0 j1=>hi.rest j U j1,hi.same,hi.cell,hi.apart,by have:=hi.Ka;omega,by have:=hi.Mv;omega⟩
theorem yA {w h:Int} {l:List aF} (hm:il w h l) (aL:List Int): ∀n:Nat,n<=l.length->Bg w h l n (dG w h l aL n)
 |0,_=>abk hm
 |n+1,hn=>Rv (yA hm aL n U) U _
def Stood (m:List (Int×Bool)) (now:List aF):Prop:=(m.map (·.1)).Nodup/\ ∀c:Int,0<=c->(aO m c=true↔ ∃x∈now,x.Cell=c)
def Rg (f:me) (u:aF) (d:Int):Option (Bool×me×aF):=(lZ.f f.w f.h u.Cell d).bind λv2=>(if v2<0 then(some true) else(some (aO f.jQ v2))).bind λx3=>if x3=true then(some (true,f,u)) else(if(List.length f.kq+1<=1099511627776) then(if(v2==u.Goal)=true then(if(List.length f.gone+1<=1099511627776) then(some (false,(me.mk f.w f.h (dJ f.jQ u.Cell) (f.kq++[(fc.mk u.Id v2)]) (f.gone++[u.Id])),(aF.mk u.Id v2 u.Goal))) else none) else(some (true,(me.mk f.w f.h (cC (dJ f.jQ u.Cell) v2 true) (f.kq++[(fc.mk u.Id v2)]) f.gone),(aF.mk u.Id v2 u.Goal)))) else none)
theorem abi (f:me) (u:aF) {d:Int} (hd:0<=d/\d<=3):vr.f f u d=Rg f u d:=by
 have:d=0∨d=1∨d=2∨d=3:=U;rcases this with rfl |rfl |rfl |rfl<;>rfl
theorem abh {w h:Int} {l:List aF} {n:Nat} {s:yc} (hi:Bg w h l n s) (hn:n<l.length) (hl:l.length<=1000000) (hc:bU w h (rd l (n:Int)).Cell) {m:List (Int×Bool)} (mc:Stood m s.1) (d:Int):
 ∃m',vr.f ⟨w,h,m,s.2.1,s.2.2⟩ (rd l (n:Int)) d=some (decide (0<=(rd (kO w h s n (rd l (n:Int)) d).1 (n:Int)).Cell),⟨w,h,m',(kO w h s n (rd l (n:Int)) d).2.1,(kO w h s n (rd l (n:Int)) d).2.2⟩,
  ⟨(rd l (n:Int)).Id,if mv w h s.1 (rd l (n:Int)) d then dx w h (rd l (n:Int)) d else(rd l (n:Int)).Cell,(rd l (n:Int)).Goal⟩)/\Stood m' (kO w h s n (rd l (n:Int)) d).1:=by
 have hlen:=hi.len;have sH:rd s.1 (n:Int)=rd l (n:Int):=hi.rest n U U;have NB:=hi.Ka;have mz:=hi.Mv;unfold kO;generalize hu:rd l (n:Int)=u at*;have stay: ¬mv w h s.1 u d->(some (true,me.mk w h m s.2.1 s.2.2,u):Option (Bool×me×aF))=
  some (decide (0<=(rd (if mv w h s.1 u d then(s.1.set (n:Int).toNat ⟨u.Id,if dx w h u d=u.Goal then-1 else dx w h u d,u.Goal⟩,s.2.1++[⟨u.Id,dx w h u d⟩],if dx w h u d=u.Goal then s.2.2++[u.Id] else s.2.2) else s).1 (n:Int)).Cell),
   ⟨w,h,m,(if mv w h s.1 u d then(s.1.set (n:Int).toNat ⟨u.Id,if dx w h u d=u.Goal then-1 else dx w h u d,u.Goal⟩,s.2.1++[⟨u.Id,dx w h u d⟩],if dx w h u d=u.Goal then s.2.2++[u.Id] else s.2.2) else s).2.1,(if mv w h s.1 u d then(s.1.set (n:Int).toNat ⟨u.Id,if dx w h u d=u.Goal then-1 else dx w h u d,u.Goal⟩,s.2.1++[⟨u.Id,dx w h u d⟩],if dx w h u d=u.Goal then s.2.2++[u.Id] else s.2.2) else s).2.2⟩,
   ⟨u.Id,if mv w h s.1 u d then dx w h u d else u.Cell,u.Goal⟩):=by
  intro q;rw[ah q,ah q,sH];have:decide (0<=u.Cell)=true:=by simpa using hc.2.1
  rw[this]
 by_cases hd:0<=d/\d<=3
 ·have vm:dx w h u d=cD w h u.Cell d:=by unfold dx;rw[af hd]
  rw[abi _ u hd];unfold Rg;simp only[Hz,aK];rw[<-vm];have hbl:((if dx w h u d<0 then some true else some (aO m (dx w h u d))):Option Bool)=some (!decide (mv w h s.1 u d)):=by
   unfold mv
   by_cases q:dx w h u d<0
   ·rw[af q];have:decide (0<=dx w h u d/\ ∀x∈s.1,x.Cell≠dx w h u d)=false:=by
     rw[decide_eq_false_iff_not];intro z;omega
    rw[this];rfl
   ·rw[ah q]
    congr 1
    have h0:=mc.2 (dx w h u d) U
    by_cases z:aO m (dx w h u d)=true
    ·rw[z];obtain⟨x,hx,e⟩:=h0.1 z;have:decide (0<=dx w h u d/\ ∀x∈s.1,x.Cell≠dx w h u d)=false:=by
      rw[decide_eq_false_iff_not];intro y;exact y.2 x hx e
     rw[this];rfl
    ·have z':aO m (dx w h u d)=false:=by simpa using z
     rw[z'];have:decide (0<=dx w h u d/\ ∀x∈s.1,x.Cell≠dx w h u d)=true:=by
      rw[decide_eq_true_iff];exact⟨by omega,λx hx e=>z (h0.2 ⟨x,hx,e⟩)⟩
     rw[this];rfl
  rw[hbl];simp only[aK]
  by_cases yF:mv w h s.1 u d
  ·have adX:=yF;obtain⟨c1,c2⟩:=adX;rw[ah (by simpa using yF),af U]
   simp only[af yF];have hr: ∀(v:aF) (j:Int),0<=j->rd (s.1.set (n:Int).toNat v) j=if j=n then v else rd s.1 j:=λv j j0=>kV U U j0
   have ajH:u.Cell≠dx w h u d:=λe=>c2 u (by rw[<-sH];exact dN U U) e
   have jg: ∀(v:aF) (c:Int),(∃x∈s.1.set (n:Int).toNat v,x.Cell=c)↔v.Cell=c∨ ∃j:Int,0<=j/\j<l.length/\j≠n/\(rd s.1 j).Cell=c:=by
    intro v c;constructor
    ·rintro⟨x,hx,e⟩;obtain⟨j,j0,j1,rfl⟩:=jJ hx;rw[hr v j j0] at e;rw[List.length_set] at j1
     by_cases q:j=n
     ·rw[af q] at e;exact .inl e
     ·rw[ah q] at e;exact .inr ⟨j,j0,by omega,q,e⟩
    ·rintro(e |⟨j,j0,j1,j2,e⟩)
     ·refine⟨rd (s.1.set (n:Int).toNat v) (n:Int),dN U (by rw[List.length_set];omega),?_⟩
      rw[hr v n U,af J];exact e
     ·refine⟨rd (s.1.set (n:Int).toNat v) j,dN j0 (by rw[List.length_set];omega),?_⟩
      rw[hr v j j0,ah j2];exact e
   have hold: ∀c:Int,0<=c->(aO m c=true↔u.Cell=c∨ ∃j:Int,0<=j/\j<l.length/\j≠n/\(rd s.1 j).Cell=c):=by
    intro c c0;rw[mc.2 c c0];constructor
    ·rintro⟨x,hx,e⟩;obtain⟨j,j0,j1,rfl⟩:=jJ hx
     by_cases q:j=n
     ·subst q;rw[sH] at e;exact .inl e
     ·exact .inr ⟨j,j0,by omega,q,e⟩
    ·rintro(e |⟨j,j0,j1,j2,e⟩)
     ·exact⟨rd s.1 (n:Int),dN U U,by rw[sH];exact e⟩
     ·exact⟨rd s.1 j,dN j0 U,e⟩
   have Sa: ∀j:Int,0<=j->j<l.length->j≠n->(rd s.1 j).Cell≠u.Cell:=by
    intro j j0 j1 j2 e;have:=hi.apart n j U U j0 j1 (λz=>j2 z.symm) (by rw[sH];exact hc.2.1)
    rw[sH] at this;exact this e.symm
   by_cases hg:dx w h u d=u.Goal
   ·rw[af (by simpa using hg),af U]
    refine⟨dJ m u.Cell,?_,J8 mc.1 _,λc c0=>?_⟩
    ·simp only[af hg];rw[hr _ n U,af J];simp
    ·rw[UH mc.1,af hg,jg];simp only
     by_cases q:u.Cell=c
     ·rw[af q];constructor
      ·intro z;cases z
      ·rintro(z |⟨j,j0,j1,j2,e⟩)
       ·omega
       ·exact absurd (e.trans q.symm) (Sa j j0 j1 j2)
     ·rw[ah q,hold c c0];constructor
      ·rintro(z |z)
       ·exact absurd z q
       ·exact .inr z
      ·rintro(z |z)
       ·omega
       ·exact .inr z
   ·rw[ah (by simpa using hg)]
    refine⟨cC (dJ m u.Cell) (dx w h u d) true,?_,Ci (J8 mc.1 _) _ _,λc c0=>?_⟩
    ·simp only[ah hg];rw[hr _ n U,af J];simp[c1]
    ·rw[sM,UH mc.1,ah hg,jg];simp only
     by_cases z:dx w h u d=c
     ·rw[af z];exact⟨λ_=> .inl z,λ_=>rfl⟩
     ·rw[ah z]
      by_cases q:u.Cell=c
      ·rw[af q];constructor
       ·intro y;cases y
       ·rintro(y |⟨j,j0,j1,j2,e⟩)
        ·exact absurd y z
        ·exact absurd (e.trans q.symm) (Sa j j0 j1 j2)
      ·rw[ah q,hold c c0];constructor
       ·rintro(y |y)
        ·exact absurd y q
        ·exact .inr y
       ·rintro(y |y)
        ·exact absurd y z
        ·exact .inr y
  ·rw[af (by simpa using yF)]
   refine⟨m,stay yF,?_⟩;rw[ah yF];exact mc
 ·have yF: ¬mv w h s.1 u d:=by
   unfold mv dx;rw[ah hd];intro q;omega
  unfold vr.f;rw[ah bl,ah bl,ah bl,ah bl];refine⟨m,stay yF,?_⟩;rw[ah yF];exact mc
theorem aiL {w h:Int} {l:List aF} {aL:List Int} (hb:l.length<=1000000): ∀(n k:Nat) (i:Int) (m:List (Int×Bool)),i+n=l.length->0<=i->n<k->
 (m.map (·.1)).Nodup->(∀c,aO m c=true↔ ∃q,0<=q/\q<i/\(rd l q).Cell=c)->
 ∃m',jz.l0 k w h l aL m i=jz.l1 fuel w h l aL [] w h m' [] [] 0/\Stood m' l:=by
 intro n
 induction n with
 |zero=>
  intro k i m hi h0 hk hn hm;obtain⟨k,rfl⟩:=bh hk;refine⟨m,by rw[jz.l0,ah U],hn,λc _=>?_⟩
  rw[hm c];constructor
  ·rintro⟨q,q0,q1,e⟩;exact⟨_,dN q0 U,e⟩
  ·rintro⟨x,hx,e⟩;obtain⟨q,q0,q1,rfl⟩:=jJ hx;exact⟨q,q0,by omega,e⟩
 |succ n ih=>
  intro k i m hi h0 hk hn hm;obtain⟨k,rfl⟩:=bh hk;rw[jz.l0,af U,af U,wi U U];refine ih k (i+1) _ U U U (Ci hn _ _) (λc=>?_);rw[sM]
  by_cases e:(rd l i).Cell=c
  ·rw[af e];exact⟨λ_=>⟨i,h0,by omega,e⟩,λ_=>rfl⟩
  ·rw[ah e,hm c];constructor
   ·rintro⟨q,q0,q1,q2⟩;exact⟨q,q0,by omega,q2⟩
   ·rintro⟨q,q0,q1,q2⟩
    by_cases z:q=i
    ·subst z;exact absurd q2 e
    ·exact⟨q,q0,by omega,q2⟩
def pN (s:yc) (n:Nat):List aF:=(s.1.take n).filter (λx=>decide (0<=x.Cell))
theorem RN {w h:Int} {l:List aF} {n:Nat} {s:yc} (hi:Bg w h l n s) (hn:n<l.length) (d:Int):
 rd (kO w h s n (rd l (n:Int)) d).1 (n:Int)=⟨(rd l (n:Int)).Id,if mv w h s.1 (rd l (n:Int)) d then(if dx w h (rd l (n:Int)) d=(rd l (n:Int)).Goal then-1 else dx w h (rd l (n:Int)) d) else(rd l (n:Int)).Cell,(rd l (n:Int)).Goal⟩:=by
 have hlen:=hi.len;unfold kO
 by_cases hc:mv w h s.1 (rd l (n:Int)) d
 ·rw[af hc,af hc];rw[kV U U U,af J]
 ·rw[ah hc,ah hc,hi.rest n U U]
theorem Ru {w h:Int} {l:List aF} {n:Nat} {s:yc} (hi:Bg w h l n s) (hn:n<l.length) (d:Int):
 pN (kO w h s n (rd l (n:Int)) d) (n+1)=pN s n++(if 0<=(rd (kO w h s n (rd l (n:Int)) d).1 (n:Int)).Cell then[rd (kO w h s n (rd l (n:Int)) d).1 (n:Int)] else[]):=by
 have rD:=Rv hi hn d;have qw:=rD.len;have ht:(kO w h s n (rd l (n:Int)) d).1.take n=s.1.take n:=by
  unfold kO;split
  ·simp only;rw[show(n:Int).toNat=n by simp,List.take_set_of_le (Nat.le_refl _)]
  ·rfl
 unfold pN;have aP:n<(kO w h s n (rd l (n:Int)) d).1.length:=U;rw[List.take_add_one,ht,List.getElem?_eq_getElem aP,List.filter_append,Eh aP]
 congr 1
 simp only[Option.toList_some,List.filter_cons,List.filter_nil,decide_eq_true_eq]
theorem abB {w h:Int} {l:List aF} {aL:List Int} (hm:il w h l) (hb:l.length<=1000000) (hd:aL.length=l.length): ∀(m k:Nat) (n:Nat) (st:List (Int×Bool)),n+m=l.length->m<k->Stood st (dG w h l aL n).1->
 jz.l1 k w h l aL (pN (dG w h l aL n) n) w h st (dG w h l aL n).2.1 (dG w h l aL n).2.2 (n:Int)=some ((gL w h l aL).1,(gL w h l aL).2.1,(gL w h l aL).2.2,0):=by
 intro m
 induction m with
 |zero=>
  intro k n st hn hk mc;obtain⟨k,rfl⟩:=bh hk;have hi:=yA hm aL n U;rw[jz.l1,ah U];have:n=l.length:=U;subst this;unfold gL pN;rw[List.take_of_length_le (by rw[hi.len];omega)]
 |succ m ih=>
  intro k n st hn hk mc;obtain⟨k,rfl⟩:=bh hk;have hi:=yA hm aL n U;have aP:n<l.length:=U;rw[jz.l1,af U,af U,af U];obtain⟨st',e1,e2⟩:=abh hi aP hb (hm.cell U U) mc (rd aL (n:Int));have sF:=RN hi aP (rd aL (n:Int));have FL:=Ru hi aP (rd aL (n:Int));have ajC:(pN (dG w h l aL n) n).length<=n:=by
   unfold pN;refine Nat.le_trans (List.length_filter_le ..) bl
  simp only[e1,aK];rw[wi U U];have F7:(n:Int)+1=((n+1:Nat):Int):=U;have FZ:kO w h (dG w h l aL n) n (rd l (n:Int)) (rd aL (n:Int))=dG w h l aL (n+1):=rfl;rw[FZ] at FL sF e2;have:=ih k (n+1) st' U U e2
  by_cases hp:0<=(rd (dG w h l aL (n+1)).1 (n:Int)).Cell
  ·rw[af (by rw[FZ];simpa using hp),af U]
   rw[af hp] at FL;rw[F7,<-this,FL,FZ];have hu:(⟨(rd l (n:Int)).Id,if mv w h (dG w h l aL n).1 (rd l (n:Int)) (rd aL (n:Int)) then dx w h (rd l (n:Int)) (rd aL (n:Int)) else(rd l (n:Int)).Cell,(rd l (n:Int)).Goal⟩:aF)=rd (dG w h l aL (n+1)).1 (n:Int):=by
    rw[sF] at hp⊢;simp only at hp⊢
    by_cases hc:mv w h (dG w h l aL n).1 (rd l (n:Int)) (rd aL (n:Int))
    ·rw[af hc] at hp⊢;rw[af hc]
     by_cases hg:dx w h (rd l (n:Int)) (rd aL (n:Int))=(rd l (n:Int)).Goal
     ·rw[af hg] at hp;omega
     ·rw[ah hg]
    ·rw[ah hc,ah hc]
   rw[hu]
  ·rw[ah (by rw[FZ];simpa using hp)]
   rw[ah hp,List.append_nil] at FL;rw[F7,<-this,FL,FZ]
def K7 (aL:List Int) (n:Nat):Prop:=aL.length=n/\ ∀d∈aL,0<=d/\d<=5
theorem go_ok {w h:Int} {l:List aF} {aL:List Int} (hm:il w h l) (hb:l.length<=1000000) (hd:K7 aL l.length):
 jz.f w h l aL=some ((gL w h l aL).1,(gL w h l aL).2.1,(gL w h l aL).2.2,0):=by
 unfold jz.f;obtain⟨r,r1,r2⟩:=Vi (w:=w) (h:=h) (l:=l) U;obtain⟨o,o1,o2⟩:=agk (s:=aL) (by have:=hd.1;omega)
 have ho:o=false:=by
  rw[Bool.eq_false_iff];intro q;obtain⟨d,Tg,hx⟩:=o2.1 q;have:=hd.2 d Tg;omega
 rw[r1,aK,r2.2 hm,o1,ho];rw[ah (by simp[hd.1])]
 simp only[aK,Bool.false_eq_true,if_false];obtain⟨m',e1,e2⟩:=aiL (w:=w) (h:=h) (l:=l) (aL:=aL) hb l.length fuel 0 [] U U (by rw[cH];omega) bk (λc=>by
  constructor
  ·intro q;simp[aO,cY] at q
  ·rintro⟨q,q0,q1,_⟩;omega)
 rw[e1];exact abB hm hb hd.1 l.length fuel 0 m' U (by rw[cH];omega) e2
section
variable {w h : Int} {l : List aF} {aL : List Int}
abbrev sN (w h:Int) (l:List aF) (aL:List Int) (n:Nat):Prop:=mv w h (dG w h l aL n).1 (rd l (n:Int)) (rd aL (n:Int))
abbrev lE (w h:Int) (l:List aF) (aL:List Int) (n:Nat):Int:=dx w h (rd l (n:Int)) (rd aL (n:Int))
def D7 (w h:Int) (l:List aF) (aL:List Int) (n:Nat):Int:=if sN w h l aL n then(if lE w h l aL n=(rd l (n:Int)).Goal then-1 else lE w h l aL n) else(rd l (n:Int)).Cell
theorem N_ (n:Nat):(dG w h l aL (n+1)).2.1=(dG w h l aL n).2.1++(if sN w h l aL n then[⟨(rd l (n:Int)).Id,lE w h l aL n⟩] else[]):=by
 show(kO w h (dG w h l aL n) n (rd l (n:Int)) (rd aL (n:Int))).2.1=_
 unfold kO
 by_cases hc:sN w h l aL n
 ·rw[af hc,af hc]
 ·rw[ah hc,ah hc,List.append_nil]
theorem RJ (n:Nat):(dG w h l aL (n+1)).2.2=(dG w h l aL n).2.2++(if sN w h l aL n/\lE w h l aL n=(rd l (n:Int)).Goal then[(rd l (n:Int)).Id] else[]):=by
 show(kO w h (dG w h l aL n) n (rd l (n:Int)) (rd aL (n:Int))).2.2=_
 unfold kO
 by_cases hc:sN w h l aL n
 ·rw[af hc];simp only
  by_cases hg:lE w h l aL n=(rd l (n:Int)).Goal
  ·rw[af hg,af ⟨hc,hg⟩]
  ·rw[ah hg,ah (λq=>hg q.2),List.append_nil]
 ·rw[ah hc,ah (λq=>hc q.1),List.append_nil]
theorem YY (hm:il w h l) {n:Nat} (hn:n<l.length):rd (dG w h l aL (n+1)).1 (n:Int)=⟨(rd l (n:Int)).Id,D7 w h l aL n,(rd l (n:Int)).Goal⟩:=
 RN (yA hm aL n U) hn _
theorem Lv (hm:il w h l) {n:Nat} (hn:n<l.length):pN (dG w h l aL (n+1)) (n+1)=pN (dG w h l aL n) n++(if 0<=D7 w h l aL n then[⟨(rd l (n:Int)).Id,D7 w h l aL n,(rd l (n:Int)).Goal⟩] else[]):=by
 have:=Ru (yA hm aL n U) hn (rd aL (n:Int));have e:kO w h (dG w h l aL n) n (rd l (n:Int)) (rd aL (n:Int))=dG w h l aL (n+1):=rfl;rw[e,YY hm hn] at this;exact this
theorem aiO (hm:il w h l): ∀(d n:Nat),n+d=l.length-> ∃A M G,(gL w h l aL).1=pN (dG w h l aL n) n++A/\(gL w h l aL).2.1=(dG w h l aL n).2.1++M/\(gL w h l aL).2.2=(dG w h l aL n).2.2++G/\
 (∀m∈M,∃j:Int,n<=j/\j<l.length/\m.Id=(rd l j).Id)/\(∀g∈G,∃j:Int,n<=j/\j<l.length/\g=(rd l j).Id):=by
 intro d
 induction d with
 |zero=>
  intro n hn;have:n=l.length:=U;subst this;have hi:=yA hm aL l.length (Nat.le_refl _);refine⟨[],[],[],?_,by simp[gL],by simp[gL],by simp,by simp⟩
  unfold gL pN;rw[List.take_of_length_le (by rw[hi.len];omega),List.append_nil]
 |succ d ih=>
  intro n hn;obtain⟨A,M,G,h1,h2,h3,h4,h5⟩:=ih (n+1) U;rw[Lv hm U,List.append_assoc] at h1;rw[N_,List.append_assoc] at h2;rw[RJ,List.append_assoc] at h3;refine⟨_,_,_,h1,h2,h3,λm NC=>?_,λg hg=>?_⟩
  ·rcases List.mem_append.1 NC with q |q
   ·split at q
    ·simp at q;subst q;exact⟨n,by omega,by omega,rfl⟩
    ·cases q
   ·obtain⟨j,j0,j1,e⟩:=h4 m q;exact⟨j,by omega,j1,e⟩
  ·rcases List.mem_append.1 hg with q |q
   ·split at q
    ·simp at q;subst q;exact⟨n,by omega,by omega,rfl⟩
    ·cases q
   ·obtain⟨j,j0,j1,e⟩:=h5 g q;exact⟨j,by omega,j1,e⟩
theorem parts (hm:il w h l) {n:Nat} (hn:n<l.length): ∃A M G,(gL w h l aL).1=pN (dG w h l aL n) n++((if 0<=D7 w h l aL n then[⟨(rd l (n:Int)).Id,D7 w h l aL n,(rd l (n:Int)).Goal⟩] else[])++A)/\
 (gL w h l aL).2.1=(dG w h l aL n).2.1++((if sN w h l aL n then[⟨(rd l (n:Int)).Id,lE w h l aL n⟩] else[])++M)/\
 (gL w h l aL).2.2=(dG w h l aL n).2.2++((if sN w h l aL n/\lE w h l aL n=(rd l (n:Int)).Goal then[(rd l (n:Int)).Id] else[])++G)/\
 (∀m∈M,(rd l (n:Int)).Id<m.Id)/\(∀g∈G,(rd l (n:Int)).Id<g):=by
 obtain⟨A,M,G,h1,h2,h3,h4,h5⟩:=aiO (aL:=aL) hm (l.length-(n+1)) (n+1) U;rw[Lv hm U,List.append_assoc] at h1;rw[N_,List.append_assoc] at h2;rw[RJ,List.append_assoc] at h3;refine⟨A,M,G,h1,h2,h3,λm NC=>?_,λg hg=>?_⟩
 ·obtain⟨j,j0,j1,e⟩:=h4 m NC;rw[e];exact hm.B6 U U j1
 ·obtain⟨j,j0,j1,e⟩:=h5 g hg;rw[e];exact hm.B6 U U j1
theorem afM (hm:il w h l) {n:Nat} (hn:n<l.length):((dG w h l aL n).2.1.length<(gL w h l aL).2.1.length/\(rd (gL w h l aL).2.1 ((dG w h l aL n).2.1.length:Int)).Id=(rd l (n:Int)).Id↔sN w h l aL n)/\
 (sN w h l aL n->rd (gL w h l aL).2.1 ((dG w h l aL n).2.1.length:Int)=⟨(rd l (n:Int)).Id,lE w h l aL n⟩):=by
 obtain⟨A,M,G,_,h2,_,h4,_⟩:=parts (aL:=aL) hm hn;rw[h2]
 by_cases hc:sN w h l aL n
 ·rw[af hc];have e:rd ((dG w h l aL n).2.1++([⟨(rd l (n:Int)).Id,lE w h l aL n⟩]++M)) ((dG w h l aL n).2.1.length:Int)=⟨(rd l (n:Int)).Id,lE w h l aL n⟩:=by
   rw[mH U,Int.sub_self];rfl
  rw[e];exact⟨⟨λ_=>hc,λ_=>⟨by simp,J⟩⟩,λ_=>rfl⟩
 ·rw[ah hc,List.nil_append];refine⟨⟨λq=>?_,λq=>absurd q hc⟩,λq=>absurd q hc⟩
  obtain⟨q1,q2⟩:=q;rw[List.length_append] at q1;rw[mH U,Int.sub_self] at q2;have:=h4 _ (dN (a:=M) (i:=0) U U);omega
end
structure FS (f:fy) (n:Int) (L:List aF):Prop where
 fl:rW n f
 eH:f.count=L.length
 at_: ∀x∈L,0<=x.Cell/\x.Cell<n/\rd f.words x.Cell=x.Id+1
 only: ∀c,0<=c->c<n->rd f.words c≠0-> ∃x∈L,x.Cell=c
structure CS (c:d_) (w h most:Int) (L:List aF):Prop where
 w_:c.w=w
 h_:c.h=h
 m_:c.most=most
 may:iA w h
 us:US c.cT most L
 fl:FS c.floor (w*h) L
 ok: ∀x∈L,bU w h x.Cell/\bU w h x.Goal/\x.Cell≠x.Goal
 jd:(L.length:Int)<=most
def oL (L:List aF) (c:Int):Int:=match L.find? (λx=>x.Cell==c) with
 |some x=>x.Id
 |none=> -1
variable {c : d_} {w h most : Int} {L : List aF}
theorem US.Gk {u:eV} (hu:US u most L) {x:aF} (hx:x∈L):0<=x.Id/\x.Id<u.next:=by
 have:x.Id∈u.order.filter (λk=>bQ u.live k):=by rw[hu.ord];exact List.mem_map.2 ⟨x,hx,J⟩
 exact hu.aY _ (List.mem_filter.1 this).1
theorem CS.inj (hc:CS c w h most L) {x y:aF} (hx:x∈L) (hy:y∈L) (e:x.Cell=y.Cell):x=y:=by
 have h1:=(hc.fl.at_ x hx).2.2;have h2:=(hc.fl.at_ y hy).2.2;rw[e] at h1;exact B5 hc.us.up hx hy U
theorem Fs (hc:CS c w h most L) {x:aF} (hx:x∈L):oL L x.Cell=x.Id:=by
 unfold oL
 cases hf:L.find? (λy=>y.Cell==x.Cell) with
 |none=>have:=List.find?_eq_none.1 hf x hx;simp at this
 |some y=>
  have h1:=List.mem_of_find?_eq_some hf;have h2:y.Cell=x.Cell:=by simpa using List.find?_some hf
  simp only;rw[hc.inj h1 hx h2]
theorem LS {cell:Int} (h0: ∀x∈L,x.Cell≠cell):oL L cell= -1:=by
 unfold oL
 cases hf:L.find? (λy=>y.Cell==cell) with
 |none=>rfl
 |some y=>
  have h1:=List.mem_of_find?_eq_some hf;have h2:y.Cell=cell:=by simpa using List.find?_some hf
  exact absurd h2 (h0 y h1)
theorem ZP (hc:CS c w h most L) {cell:Int}:oL L cell= -1↔ ∀x∈L,x.Cell≠cell:=by
 constructor
 ·intro q x hx e;rw[<-e,Fs hc hx] at q;have:=(hc.us.Gk hx).1;omega
 ·exact LS
theorem K1 (hc:CS c w h most L) (cell:Int):mu (w*h) c.floor cell=oL L cell:=by
 unfold mu
 by_cases q:0<=cell/\cell<w*h
 ·rw[af q]
  by_cases z: ∃x∈L,x.Cell=cell
  ·obtain⟨x,hx,rfl⟩:=z;rw[Fs hc hx,(hc.fl.at_ x hx).2.2];omega
  ·have hn: ∀x∈L,x.Cell≠cell:=λx hx e=>z ⟨x,hx,e⟩
   rw[LS hn];have:rd c.floor.words cell=0:=Classical.byContradiction λy=>z (hc.fl.only cell q.1 q.2 y);omega
 ·rw[ah q,LS];intro x hx e;have:=hc.fl.at_ x hx;exact q ⟨by omega,by omega⟩
theorem aaH (hc:CS c w h most L) (cell:Int):z7.f c cell=some (oL L cell):=by
 unfold z7.f;rw[K2 hc.fl.fl,K1 hc];rfl
theorem QZ (hc:CS c w h most L):pI.f c=some L:=by
 unfold pI.f;rw[XZ hc.us];rfl
theorem LY (hc:CS c w h most L) (cell:Int):uQ.f c cell=some (decide (bU w h cell)):=by
 unfold uQ.f;rw[hc.w_,hc.h_,tj,aK]
 congr 1
 by_cases q:bU w h cell
 ·rw[decide_eq_true q,decide_eq_true_iff];have: ¬aX w h cell<0:=λz=>zn.1 z q
  omega
 ·rw[decide_eq_false q,decide_eq_false_iff_not];have:=zn.2 q;omega
theorem aan (w h most:Int): ∃r,uS.f w h most=some r/\(r.isSome=true↔iA w h/\1<=most/\most<=65536)/\ ∀c,r=some c->CS c w h most []/\c.cT.next=0:=by
 unfold uS.f;rw[AA,aK]
 by_cases q:iA w h/\1<=most/\most<=65536
 ·obtain⟨q1,q2,q3⟩:=q;have hp:=xf q1;rw[ah (by rw[decide_eq_true q1];simp;omega),af2,af ⟨q2,q3⟩,aK,wi U U]
  simp only[c_,abc];rw[af hp];refine⟨_,J,⟨λ_=>⟨q1,q2,q3⟩,λ_=>rfl⟩,λc e=>?_⟩
  simp only[Option.some.injEq] at e;subst e;refine⟨⟨J,J,J,q1,af5 ⟨q2,q3⟩,⟨abd hp.1,J,by simp,λd d0 d1 hd=>?_⟩,by simp,by simp;omega⟩,J⟩
  exact absurd (vD d0 U) hd
 ·refine⟨none,?_,⟨λz=>by simp at z,λz=>absurd z q⟩,λc e=>by cases e⟩
  rw[af]
  by_cases z:iA w h
  ·rw[decide_eq_true z];simp;omega
  ·rw[decide_eq_false z];simp
theorem CS.next (hc:CS c w h most L):0<=c.cT.next/\c.cT.next<=1000000:=hc.us.next
theorem abf {f:fy} {n:Int} (hf:FS f n L) {x:aF} (h0:0<=x.Cell) (h1:x.Cell<n) (gz: ∀y∈L,y.Cell≠x.Cell) (i0:0<=x.Id) (i1:x.Id<4294967295):FS (iw f x.Cell (x.Id+1) 1) n (L++[x]):=by
 refine⟨Hh hf.fl h0 h1 U U,by simp[iw,hf.eH],λy hy=>?_,λd d0 d1 hd=>?_⟩
 ·rcases List.mem_append.1 hy with q |q
  ·obtain⟨a,b,e⟩:=hf.at_ y q;refine⟨a,b,?_⟩;rw[AJ hf.fl h0 h1 a,ah (gz y q)];exact e
  ·simp at q;subst q;exact⟨h0,h1,by rw[AJ hf.fl h0 h1 h0,af J]⟩
 ·rw[AJ hf.fl h0 h1 d0] at hd
  by_cases q:d=x.Cell
  ·exact⟨x,by simp,q.symm⟩
  ·rw[ah q] at hd;obtain⟨y,hy,e⟩:=hf.only d d0 d1 hd;exact⟨y,by simp[hy],e⟩
theorem abj {f:fy} {n:Int} (hf:FS f n L) (Gi:(L.map (·.Id)).Pairwise (· < ·)) {x:aF} (hx:x∈L):FS (iw f x.Cell 0 (-1)) n (lY L x.Id):=by
 obtain⟨h0,h1,h2⟩:=hf.at_ x hx;have hl:=KR Gi (Ph Gi hx);refine⟨Hh hf.fl h0 h1 U U,by simp[iw,hf.eH];omega,λy hy=>?_,λd d0 d1 hd=>?_⟩
 ·unfold lY at hy;obtain⟨q1,q2⟩:=List.mem_filter.1 hy;have bH:y.Id≠x.Id:=by simpa using q2
  obtain⟨a,b,e⟩:=hf.at_ y q1;refine⟨a,b,?_⟩;rw[AJ hf.fl h0 h1 a,ah]
  ·exact e
  ·intro z;rw[z,h2] at e;omega
 ·rw[AJ hf.fl h0 h1 d0] at hd
  by_cases q:d=x.Cell
  ·rw[af q] at hd;exact absurd J hd
  ·rw[ah q] at hd;obtain⟨y,hy,e⟩:=hf.only d d0 d1 hd;refine⟨y,?_,e⟩;unfold lY;rw[List.mem_filter];refine⟨hy,?_⟩;have:y.Id≠x.Id:=λz=>q (by rw[<-e,B5 Gi hy hx z])
   simpa using this
theorem Mc {k:Int} {x:aF} (hx:x∈lY L k):x∈L:=(List.mem_filter.1 hx).1
theorem LX (hc:CS c w h most L) {x:aF} (hx:x∈L): ∃c',pJ.f c x=some c'/\CS c' w h most (lY L x.Id)/\c'.cT.next=c.cT.next:=by
 unfold pJ.f;obtain⟨u',e1,e2,e3⟩:=aaV hc.us x.Id;have l_:=hc.us.Gk hx;have hw:mu (w*h) c.floor x.Cell=x.Id:=by rw[K1 hc,Fs hc hx]
 have ko:=hc.us.eH;have F7:=hc.next
 have Ng:=hc.fl.eH;have et:Dx (w*h) c.floor x.Cell=(x.Id,iw c.floor x.Cell 0 (-1)):=by unfold Dx;rw[hw,ah U]
 rw[e1,aK,WL hc.fl.fl U,et];refine⟨_,J,⟨hc.w_,hc.h_,hc.m_,hc.may,e3,abj hc.fl hc.us.up hx,λy hy=>hc.ok y (Mc hy),?_⟩,e2⟩;have:=KR hc.us.up (Ph hc.us.up hx);have:=hc.jd;omega
def mZ (w h most:Int) (L:List aF) (next cell goal:Int):Int×Int×List aF:=
 if ¬bU w h cell∨ ¬bU w h goal then(-1,7,L) else if oL L cell≠ -1 then(-1,10,L) else if most<=L.length then(-1,11,L) else if cell=goal then(-1,13,L) else(next,0,L++[⟨next,cell,goal⟩])
theorem ajg (hc:CS c w h most L) (cell goal:Int):uR.f c 3 cell goal=some (if cell=goal then 13 else 0):=by
 unfold uR.f;rw[ah bk,ah bk,ah bk,af bk]
 by_cases q:cell=goal
 ·rw[af (by simpa using q),af q]
 ·rw[ah (by simpa using q),ah q]
theorem QY {next cell goal:Int} (a: ¬bU w h cell∨ ¬bU w h goal):mZ w h most L next cell goal=(-1,7,L):=by unfold mZ;rw[af a]
theorem aaB {next cell goal:Int} (a:bU w h cell) (b:bU w h goal) (d:oL L cell≠ -1):mZ w h most L next cell goal=(-1,10,L):=by
 unfold mZ;rw[ah (λq=>q.elim (λz=>z a) (λz=>z b)),af d]
theorem aaC {next cell goal:Int} (a:bU w h cell) (b:bU w h goal) (d:oL L cell= -1) (e:most<=L.length):mZ w h most L next cell goal=(-1,11,L):=by
 unfold mZ;rw[ah (λq=>q.elim (λz=>z a) (λz=>z b)),ah (λq=>q d),af e]
theorem aaD {next cell goal:Int} (a:bU w h cell) (b:bU w h goal) (d:oL L cell= -1) (e: ¬most<=L.length) (g:cell=goal):mZ w h most L next cell goal=(-1,13,L):=by
 unfold mZ;rw[ah (λq=>q.elim (λz=>z a) (λz=>z b)),ah (λq=>q d),ah e,af g]
theorem aaE {next cell goal:Int} (a:bU w h cell) (b:bU w h goal) (d:oL L cell= -1) (e: ¬most<=L.length) (g: ¬cell=goal):mZ w h most L next cell goal=(next,0,L++[⟨next,cell,goal⟩]):=by
 unfold mZ;rw[ah (λq=>q.elim (λz=>z a) (λz=>z b)),ah (λq=>q d),ah e,ah g]
theorem ajf (hc:CS c w h most L) (cell goal next:Int):uR.f c 0 cell goal=some (mZ w h most L next cell goal).2.1:=by
 unfold uR.f;rw[af bk,LY hc,LY hc];simp only[aK,K2 hc.fl.fl,K1 hc,afk hc.us,hc.m_]
 by_cases a:bU w h cell
 ·by_cases b:bU w h goal
  ·simp only[decide_eq_true a,decide_eq_true b,Bool.not_true,aK,Bool.false_eq_true,if_false]
   by_cases d:oL L cell= -1
   ·rw[ah (by simpa using d)]
    by_cases e:most<=(L.length:Int)
    ·rw[af U,aaC a b d e]
    ·rw[ah U]
     by_cases g:cell=goal
     ·rw[af (by simpa using g),aaD a b d e g]
     ·rw[ah (by simpa using g),aaE a b d e g]
   ·rw[af (by simpa using d),aaB a b d]
  ·rw[QY (.inr b)];simp only[decide_eq_true a,decide_eq_false b,Bool.not_true,Bool.not_false,aK,Bool.false_eq_true,if_false,if_true]
 ·rw[QY (.inl a)];simp only[decide_eq_false a,Bool.not_false,aK,if_true]
theorem aaF (hc:CS c w h most L) (hn:c.cT.next<1000000) (cell goal:Int): ∃c',wJ.f c cell goal=some ((mZ w h most L c.cT.next cell goal).1,(mZ w h most L c.cT.next cell goal).2.1,c')/\
 CS c' w h most (mZ w h most L c.cT.next cell goal).2.2/\c'.cT.next=c.cT.next+(if(mZ w h most L c.cT.next cell goal).2.1=0 then 1 else 0):=by
 unfold wJ.f;rw[ajf hc cell goal c.cT.next,aK]
 have F7:=hc.next
 unfold mZ
 by_cases a: ¬bU w h cell∨ ¬bU w h goal
 ·simp only[af a];rw[af bk];exact⟨c,J,hc,by simp⟩
 ·simp only[ah a]
  by_cases b:oL L cell≠ -1
  ·simp only[af b];rw[af bk];exact⟨c,J,hc,by simp⟩
  ·simp only[ah b]
   by_cases d:most<=(L.length:Int)
   ·simp only[af d];rw[af bk];exact⟨c,J,hc,by simp⟩
   ·simp only[ah d]
    by_cases e:cell=goal
    ·simp only[af e];rw[af bk];exact⟨c,J,hc,by simp⟩
    ·simp only[ah e];rw[ah bk];obtain⟨u',a1,a2,a3⟩:=(XS hc.us hn cell goal).2 U;have ez:bU w h cell:=Classical.byContradiction λz=>a (.inl z);have F2:bU w h goal:=Classical.byContradiction λz=>a (.inr z);have hw:oL L cell= -1:=Classical.byContradiction λz=>b z
     have gz:=(ZP hc).1 hw;have F0:ry (w*h) c.floor cell:=by
      refine⟨ez.2.1,ez.2.2,Classical.byContradiction λz=>?_⟩
      obtain⟨x,hx,q⟩:=hc.fl.only cell ez.2.1 ez.2.2 z;exact gz x hx q
     have Ng:=hc.fl.eH;have ko:=hc.us.eH;have ep:Dw (w*h) c.floor cell c.cT.next=(true,iw c.floor cell (c.cT.next+1) 1):=by
      unfold Dw;rw[af ⟨F0,by omega,by omega⟩]
     rw[a1,aK,Vk hc.fl.fl U,ep];refine⟨_,J,⟨hc.w_,hc.h_,hc.m_,hc.may,a3,?_,λy hy=>?_,by simp;omega⟩,by simp[a2]⟩
     ·exact abf (x:=⟨c.cT.next,cell,goal⟩) hc.fl ez.2.1 ez.2.2 gz (by simp only;omega) (by simp only;omega)
     ·rcases List.mem_append.1 hy with q |q
      ·exact hc.ok y q
      ·simp at q;subst q;exact⟨ez,F2,e⟩
def wF (L:List aF) (id:Int):Int×List aF:=if A_ L id=true then(0,lY L id) else(12,L)
theorem aab (hc:CS c w h most L) (id:Int): ∃c',wH.f c id=some ((wF L id).1,c')/\CS c' w h most (wF L id).2/\c'.cT.next=c.cT.next:=by
 unfold wH.f wF A_;rw[DA hc.us,aK];unfold zv
 cases hf:nM L id with
 |none=>
  exact⟨c,J,by simpa using hc,J⟩
 |some x=>
  obtain⟨h1,h2⟩:=A9 hf;obtain⟨c',e1,e2,e3⟩:=LX hc h1;simp only[Bool.not_true,Bool.false_eq_true,if_false,e1,aK];rw[h2] at e2;exact⟨c',J,by simpa using e2,e3⟩
def wG (w h:Int) (L:List aF) (id goal:Int):Int×List aF:=
 match nM L id with
 |none=>(12,L)
 |some x=>if ¬bU w h goal then(7,L) else if x.Cell=goal then(13,lY L id) else(0,gC L id (λx=>⟨x.Id,x.Cell,goal⟩))
theorem aay (hc:CS c w h most L) (id goal:Int): ∃c',wI.f c id goal=some ((wG w h L id goal).1,c')/\CS c' w h most (wG w h L id goal).2/\c'.cT.next=c.cT.next:=by
 unfold wI.f wG;rw[DA hc.us,aK];unfold zv
 cases hf:nM L id with
 |none=>
  exact⟨c,J,by simpa using hc,J⟩
 |some x=>
  obtain⟨h1,h2⟩:=A9 hf;simp only[Bool.not_true,Bool.false_eq_true,if_false,LY hc,aK,ajg hc]
  by_cases q:bU w h goal
  ·simp only[decide_eq_true q,Bool.not_true,Bool.false_eq_true,if_false]
   by_cases g:x.Cell=goal
   ·obtain⟨c',e1,e2,e3⟩:=LX hc h1;rw[h2] at e2;simp only[af g,e1,aK,ah (λz: ¬bU w h goal=>z q)];exact⟨c',J,e2,e3⟩
   ·obtain⟨u',e1,e2,e3⟩:=XW hc.us id goal;simp only[ah g,e1,aK,ah (λz: ¬bU w h goal=>z q)];refine⟨_,J,⟨hc.w_,hc.h_,hc.m_,hc.may,e3,⟨hc.fl.fl,by simp[gC,hc.fl.eH],λy hy=>?_,λd d0 d1 hd=>?_⟩,λy hy=>?_,by simpa[gC] using hc.jd⟩,e2⟩
    ·unfold gC at hy;obtain⟨z,hz,rfl⟩:=List.mem_map.1 hy;have:=hc.fl.at_ z hz;split<;>exact this
    ·obtain⟨z,hz,e⟩:=hc.fl.only d d0 d1 hd;refine⟨if z.Id=id then⟨z.Id,z.Cell,goal⟩ else z,List.mem_map.2 ⟨z,hz,J⟩,?_⟩
     split<;>exact e
    ·unfold gC at hy;obtain⟨z,hz,rfl⟩:=List.mem_map.1 hy;have TX:=hc.ok z hz;split
     ·rename_i y;have:z=x:=B5 hc.us.up hz h1 (y.trans h2.symm);exact⟨TX.1,q,by rw[this];exact g⟩
     ·exact TX
  ·simp only[decide_eq_false q,Bool.not_false,if_true,af q];exact⟨c,J,hc,J⟩
end Go.Proofs.YthodkonhneebbaaGreatDoor
