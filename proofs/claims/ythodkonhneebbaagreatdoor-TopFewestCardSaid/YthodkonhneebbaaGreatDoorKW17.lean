/- What the functions do, in plain Lean, on the objects that are kept in order. -/
import Derived.Laws.Strings
import Derived.Test.YthodkonhneebbaaGreatDoorKW14
import Derived.Test.YthodkonhneebbaaGreatDoorKW5
import Derived.Test.YthodkonhneebbaaGreatDoorKW6
import Derived.Test.YthodkonhneebbaaGreatDoorKW15
import Derived.Test.YthodkonhneebbaaGreatDoorKW12
import Derived.Test.YthodkonhneebbaaGreatDoorKW7
import Derived.Test.YthodkonhneebbaaGreatDoorKW16
namespace Go.Proofs.YthodkonhneebbaaGreatDoor
open Go.Hx
set_option linter.unusedVariables false
set_option linter.unusedSimpArgs false
theorem ae' {c:List Int} (hc:c.length<=100000) {a:Int} (a0:0<=a) (a1:a<c.length): ∀(n k:Nat) (x:Int),a+x+n=c.length->1<=x->n<k->(∀j:Int,a<=j->j<a+x->rd c j=rd c a)->
 ∃e,iD.l1 k c a x=some e/\x<=e/\a+e<=c.length/\(∀j:Int,a<=j->j<a+e->rd c j=rd c a)/\(a+e=c.length∨rd c (a+e)≠rd c a):=by
 intro n
 induction n with
 |zero=>
  intro k x hx x1 hk hr;obtain⟨k,rfl⟩:=bq hk;refine⟨x,?_,by omega,by omega,hr,.inl U⟩
  rw[iD.l1,bo U U,ah (c:=a+x<_) U,aK,ah bh]
 |succ n ih=>
  intro k x hx x1 hk hr;obtain⟨k,rfl⟩:=bq hk;rw[iD.l1,bo (x:=a+x) U U,af U,af U,af U,aK]
  by_cases hq:rd c (a+x)=rd c a
  ·rw[af (by simpa using hq),bo U U]
   obtain⟨e,h1,h2,h3,h4,h5⟩:=ih k (x+1) U U U (λj j0 j1=>by
    by_cases hj:j=a+x
    ·rw[hj,hq]
    ·exact hr j j0 U)
   exact⟨e,h1,by omega,h3,h4,h5⟩
  ·rw[ah (by simpa using hq)]
   exact⟨x,J,by omega,by omega,hr,.inr hq⟩
inductive Dt (c:List Int):Int->List Int->Prop
 |done:Dt c c.length []
 |run {a e:Int} {L:List Int} (a0:0<=a) (e1:1<=e) (he:a+e<=c.length) (same: ∀j:Int,a<=j->j<a+e->rd c j=rd c a) (stop:a+e=c.length∨rd c (a+e)≠rd c a) (rest:Dt c (a+e) L):Dt c a ((e-1)::rd c a::L)
theorem ahY {c:List Int} (hc:c.length<=256): ∀(n k:Nat) (a:Int) (x:List Int),a+n=c.length->0<=a->n<k->x.length<=1+2*a.toNat->
 ∃L,iD.l0 k c x a=some (x++L)/\(n=0->L=[])/\L.length<=2*n/\(∃q,L.length=2*q)/\(0<n->2<=L.length/\(L.length=2↔ ∀j:Int,a<=j->j<c.length->rd c j=rd c a))/\Dt c a L:=by
 intro n
 induction n using Nat.strongRecOn with
 |_ n ih=>
  intro k a x ha a0 hk hx;obtain⟨k,rfl⟩:=bq hk
  by_cases hn:n=0
  ·subst hn;have:a=c.length:=U;refine⟨[],by rw[iD.l0,ah U];simp,λ_=>rfl,by simp,⟨0,J⟩,λq=>by omega,by rw[this];exact .done⟩
  ·have a1:a<(c.length:Int):=U;obtain⟨e,h1,h2,h3,h4,h5⟩:=ae' (c:=c) U a0 a1 (n-1) fuel 1 U U (by rw[tX];omega) (λj j0 j1=>by rw[show j=a by omega])
   have ewu:bP (aa (e-1))=e-1:=by rw[bo U U,E3 U U]
   obtain⟨L,e1,e2,e3,⟨q,e4⟩,e5,e6⟩:=ih (n-e.toNat) U k (a+e) (x++[e-1,rd c a]) U U U bp;refine⟨(e-1)::rd c a::L,?_,λq=>by omega,by simp;omega,⟨q+1,by simp;omega⟩,λ_=>⟨by simp,?_⟩,.run a0 h2 h3 h4 h5 e6⟩
   ·rw[iD.l0,af a1,h1,aK,af ⟨a0,a1⟩,af U,bo (x:=a+e) U U,ewu];simp only[aK];rw[e1];simp
   ·constructor
    ·intro hl;have qF:L.length=0:=by simp at hl;simp[hl]
     have D9:a+e=c.length:=by
      by_cases hz:n-e.toNat=0
      ·omega
      ·have:=(e5 U).1;omega
     intro j j0 j1;exact h4 j j0 U
    ·intro tY;have D9:a+e=c.length:=by
      rcases h5 with h5 |h5
      ·exact h5
      ·by_cases hz:a+e=c.length
       ·exact hz
       ·exact absurd (tY (a+e) U U) h5
     have:=e2 U;rw[this];rfl
theorem ag1 (t:aM): ∀(k:Nat) (a x:Int),jo.l1 k t a x=iD.l1 k t.C a x:=by
 intro k
 induction k with
 |zero=>intro a x;rfl
 |succ k ih=>intro a x;simp only[jo.l1,iD.l1,ih]
theorem ag0 (t:aM): ∀(k:Nat) (x:List Int) (a:Int),jo.l0 k t x a=iD.l0 k t.C x a:=by
 intro k
 induction k with
 |zero=>intro x a;rfl
 |succ k ih=>intro x a;simp only[jo.l0,iD.l0,ih,ag1]
def wo (c:List Int):Prop:= ∀j:Int,0<=j->j<c.length->rd c j=rd c 0
theorem contains_diff (t:aM) (h1:1<=t.C.length) (hb:t.C.length<=100000): ∃b,Dc.f t.C t=some b/\(b=false↔wo t.C):=by
 unfold Dc.f qU.f;have key: ∀(n k:Nat) (i:Int),i+n=t.C.length->0<=i->n<k-> ∃r,qU.l0 k t.C t i=some r/\(r<0↔ ∀j:Int,i<=j->j<t.C.length->rd t.C j=rd t.C 0):=by
  intro n
  induction n with
  |zero=>
   intro k i hi h0 hk;obtain⟨k,rfl⟩:=bq hk;exact⟨-1,by rw[qU.l0,ah U],⟨λ_ j j0 j1=>by omega,λ_=>by omega⟩⟩
  |succ n ih=>
   intro k i hi h0 hk;obtain⟨k,rfl⟩:=bq hk;have e:CQ.f (rd t.C i) t=some (rd t.C i !=rd t.C 0):=by unfold CQ.f;rw[af U]
   rw[qU.l0,af U,af U,e,aK]
   by_cases hq:rd t.C i=rd t.C 0
   ·rw[ah (by simpa using hq),bo U U]
    obtain⟨r,r1,r2⟩:=ih k (i+1) U U U;refine⟨r,r1,?_⟩;rw[r2];constructor
    ·intro h j j0 j1
     by_cases hj:j=i
     ·rw[hj,hq]
     ·exact h j U j1
    ·intro h j j0 j1;exact h j U j1
   ·rw[af (by simpa using hq)]
    exact⟨i,J,⟨λh=>by omega,λh=>absurd (h i U U) hq⟩⟩
 obtain⟨r,r1,r2⟩:=key t.C.length fuel 0 U U (by rw[tX];omega)
 rw[r1,aK];refine⟨_,J,?_⟩;unfold wo;rw[<-r2];simp
structure Dy (t:aM) (L:List Int) (f:Int) (out:List Int):Prop where
 runs:iD.f t.C=some (2::L)
 two:L.length=2↔wo t.C
 even: ∃q,L.length=2*q
 enc:Dt t.C 0 L
 ge:2<=L.length
 le:L.length<=512
 PJ:wo t.C->f=0/\out=[0,rd t.C 0]
 Ot: ¬wo t.C-> ¬L.length<t.C.length->f=1/\out=1::t.C
 short: ¬wo t.C->L.length<t.C.length->f=2/\out=2::L
theorem afE (t:aM) (h1:1<=t.C.length) (hb:t.C.length<=256): ∃L f out,lj.f t=some (f,out)/\Dy t L f out:=by
 obtain⟨L,e1,_,e3,e4,e5,e8⟩:=ahY (c:=t.C) U t.C.length fuel 0 [2] U U (by rw[tX];omega) bh
 have e5:=e5 U;have e6:L.length=2↔wo t.C:=e5.2;obtain⟨b,c1,c2⟩:=contains_diff t h1 U;obtain⟨k,hk⟩: ∃k,fuel=k+4:=⟨fuel-4,by rw[tX]⟩
 have p0:jo.f t 0=some (if b=true then[] else[0,rd t.C 0]):=by
  unfold jo.f;have:bP 0=0:=E3 U U;rw[af (by rfl),c1,aK,this]
  cases b
  ·rw[ah bh,af U,af bh];rfl
  ·rfl
 have p1:jo.f t 1=some (1::t.C):=by
  unfold jo.f;have:bP 1=1:=E3 U U;rw[ah bh,af (by rfl),this,af bp];rfl
 have p2:jo.f t 2=some (2::L):=by
  unfold jo.f;have:bP 2=2:=E3 U U;rw[ah bh,ah bh,this,ag0,e1];rfl
 have n1:aa (0+1)=1:=bo U U;have n2:aa (1+1)=2:=bo U U;have n3:aa (2+1)=3:=bo U U;have nK:iD.f t.C=some (2::L):=by unfold iD.f;rw[e1];rfl
 unfold lj.f;rw[hk,lj.l0,af U,p0,aK,n1]
 by_cases hu:wo t.C
 ·have hbf:b=false:=c2.mpr hu;subst hbf;rw[ah (c:=false=true) bh];simp only[List.isEmpty_cons,List.isEmpty_nil,Bool.not_false,if_true,aK];rw[lj.l0,af U,p1,aK,n2];simp only[List.isEmpty_cons,Bool.not_false,if_true,Bool.false_eq_true,if_false,aK];rw[ah bp,lj.l0,af U,p2,aK,n3];simp only[List.isEmpty_cons,Bool.not_false,if_true,Bool.false_eq_true,if_false,aK];rw[ah bp,lj.l0,ah U];exact⟨L,0,[0,rd t.C 0],J,⟨nK,e6,e4,e8,e5.1,by omega,λ_=>⟨J,J⟩,λq=>absurd hu q,λq=>absurd hu q⟩⟩
 ·have hbt:b=true:=by
   cases hb:b
   ·exact absurd (c2.mp hb) hu
   ·rfl
  subst hbt;simp only[if_true,List.isEmpty_nil,Bool.not_true,Bool.false_eq_true,if_false,aK];rw[lj.l0,af U,p1,aK,n2];simp only[List.isEmpty_cons,List.isEmpty_nil,Bool.not_false,if_true,aK];rw[lj.l0,af U,p2,aK,n3];simp only[List.isEmpty_cons,Bool.not_false,if_true,Bool.false_eq_true,if_false,aK]
  by_cases hs:L.length<t.C.length
  ·rw[af bp,lj.l0,ah U];exact⟨L,2,2::L,J,⟨nK,e6,e4,e8,e5.1,by omega,λq=>absurd q hu,λ_ q=>absurd hs q,λ_ _=>⟨J,J⟩⟩⟩
  ·rw[ah bp,lj.l0,ah U];exact⟨L,1,1::t.C,J,⟨nK,e6,e4,e8,e5.1,by omega,λq=>absurd q hu,λ_ _=>⟨J,J⟩,λ_ q=>absurd q hs⟩⟩
theorem VR {t:aM} (h:sm t): ∃L f out,sX.f t=some (out,0)/\Dy t L f out:=by
 have hl:=oK h;obtain⟨L,f,out,e,hL⟩:=afE t hl.1 hl.2;refine⟨L,f,out,?_,hL⟩;unfold sX.f;rw[K5 t U,decide_eq_true h,aK,ah bh,e];rfl
theorem Qk {x:Int} (h0:0<=x) (h1:x<=4294967295):(((BitVec.ofInt (IntKind.bits .u64) x&&&BitVec.ofInt (IntKind.bits .u64) 4294967295).toNat:Nat):Int)=x:=by
 rw[BitVec.toNat_and];have e1:(BitVec.ofInt (IntKind.bits .u64) 4294967295).toNat=2^32-1:=by decide
 have e2:(BitVec.ofInt (IntKind.bits .u64) x).toNat=x.toNat:=by
  rw[BitVec.toNat_ofInt]
  show(x%((2^64:Nat):Int)).toNat=x.toNat
  rw[Int.emod_eq_of_lt h0 U]
 rw[e1,e2,Nat.and_two_pow_sub_one_eq_mod,Nat.mod_eq_of_lt U];omega
theorem MD {x:Int} (h0:0<=x) (h1:x<=4294967295):Int.fdiv x (2^32)=0:=by
 rw[Int.fdiv_eq_ediv_of_nonneg _ U];exact Int.ediv_eq_zero_of_lt h0 U
theorem QV {x y:Int} (hx:0<=x/\x<=1) (hy:0<=y/\y<=65536):sP.f x y=some (0,x*y):=by
 have GG:0<=x*y/\x*y<=65536:=by
  have:x=0∨x=1:=U;rcases this with rfl |rfl<;>omega
 unfold sP.f Cy.f;simp only[aK];rw[MD hx.1 U,MD hy.1 U];simp only[Int.zero_mul,Int.mul_zero];rw[Qk hx.1 U,Qk hy.1 U,rh hx.1 U,rh hy.1 U,rh GG.1 U,MD GG.1 U];have z:cY 0=0:=rh U U;simp only[Int.add_zero,z];have f0:Int.fdiv 0 (2^32)=0:=by decide
 rw[f0];have a0:(((BitVec.ofInt (IntKind.bits .u64) 0&&&BitVec.ofInt (IntKind.bits .u64) 4294967295).toNat:Nat):Int)=0:=by decide
 simp only[a0,z,Int.add_zero,f0]
theorem Z_ {c m:Int} {v1:Int×Int} (hv:aa v1.2=m) (hm:1<=m/\m<=8192): ∀(n k:Nat) (x:List Int) (p:Int),p+n=m->1<=p->n<k->(x.length:Int)=m->(∀j:Int,0<=j->j<p->rd x j=c)->
 lH.l0 k v1 m x p=some (List.replicate m.toNat c):=by
 intro n
 induction n using Nat.strongRecOn with
 |_ n ih=>
  intro k x p hp p1 hk hx hc;obtain⟨k,rfl⟩:=bq hk;rw[lH.l0,hv]
  by_cases hn:n=0
  ·rw[ah U]
   congr 1
   refine zp bp (λj j0 j1=>?_);rw[hc j j0 U,vR j0 U]
  ·have abl:(if m<p then m else p)=p:=by rw[ah U]
   rw[af U,abl,af U,af U];have yS:(aB x 0 p).length=p.toNat:=by simp[aB];omega
   have qF:(aB x p (x.length:Int)).length=(m-p).toNat:=by simp[aB];omega
   have lJ:(cg x p.toNat (min (aB x 0 p).length (aB x p (x.length:Int)).length) (aB x 0 p)).length=x.length:=Am U U;rw[yS,qF] at lJ⊢;rw[bo U U];refine ih (n-(min p.toNat (m-p).toNat)) U k _ _ U U U U (λj j0 j1=>?_);have JZ:rd (cg x p.toNat (min p.toNat (m-p).toNat) (aB x 0 p)) j=if j<p then rd x j else rd x (j-p):=by
    unfold cg
    by_cases hj:j<p
    ·rw[af hj,zq j0 bp];unfold rd;rw[List.getD_eq_getElem?_getD,List.getD_eq_getElem?_getD,List.getElem?_take_of_lt U]
    ·rw[ah hj,na bp,zq bp (by simp[aB];omega)]
     have e:j-((List.take p.toNat x).length:Int)=j-p:=by simp;omega
     rw[e];unfold rd aB;rw[List.getD_eq_getElem?_getD,List.getD_eq_getElem?_getD,List.getElem?_take_of_lt U,List.getElem?_take_of_lt U];simp
   rw[JZ]
   by_cases hj:j<p
   ·rw[af hj];exact hc j j0 hj
   ·rw[ah hj];exact hc (j-p) U U
theorem O9 {c m:Int} (hm:1<=m/\m<=8192):lH.f [c] m=some (List.replicate m.toNat c):=by
 unfold lH.f;have e1:cY ((List.length [c]:Nat):Int)=1:=rh bh bh;have e2:cY m=m:=rh U U;rw[ah bp,ah U,e1,e2,QV U U,aK,Int.one_mul];have e3:aa m=m:=bo U U;have hb:((decide ((0:Int)>0))||(decide (m>9223372036854775807)))=false:=by
  rw[decide_eq_false U,decide_eq_false U];rfl
 simp only[hb,e3];rw[ah bh,ah bh,ah U,aK,af U];refine Yy (agA m) (λx hx=>?_);obtain⟨hl,_⟩:=hx;rw[af U];have NT:min (List.length [c]) x.length=1:=by simp;omega
 rw[NT];have:=Z_ (c:=c) (v1:=(0,m)) (m:=m) e3 hm (m-1).toNat fuel (cg x 0 1 [c]) 1 U U (by rw[tX];omega) (by rw[Am U bh];omega) (λj j0 j1=>by
  have:j=0:=U;subst this;simp[cg];rfl)
 rw[show(((1:Nat):Int))=1 by rfl,this,aK]
theorem ahE {m:Int} (hm:1<=m/\m<=8192):lH.f [] m=some []:=by
 unfold lH.f;have e1:cY ((List.length ([]:List Int):Nat):Int)=0:=rh bh bh;have e2:cY m=m:=rh U U;rw[ah bp,ah U,e1,e2,QV U U,aK,Int.zero_mul];simp
theorem ahw {L:List Int} {lo hi j:Int} (h0:0<=lo) (j0:0<=j) (j1:lo+j<hi):rd (aB L lo hi) j=rd L (lo+j):=by
 unfold rd aB;rw[List.getD_eq_getElem?_getD,List.getD_eq_getElem?_getD,List.getElem?_take_of_lt U,List.getElem?_drop,show(lo+j).toNat=lo.toNat+j.toNat by omega]
theorem Bj {L:List Int} {lo hi:Int} (h0:0<=lo) (h1:lo<=hi) (h2:hi<=L.length):((aB L lo hi).length:Int)=hi-lo:=by rw[iP ⟨h0,h1,h2⟩];omega
theorem HY {L:List Int} {lo hi:Int} {P:Int->Prop} (h: ∀y∈L,P y): ∀y∈aB L lo hi,P y:=λy hy=>h y (List.mem_of_mem_drop (List.mem_of_mem_take hy))
theorem Xm {b:List Int} {a n:Int} (hb:b.length<=100000) (a0:0<=a) (a1:a<=b.length) (h:b.length<a+n):mZ.f ⟨b,a⟩ n=some ([],.eB 6,⟨b,a⟩):=by
 unfold mZ.f;simp only;rw[bo (x:=_-a) U U,af U]
theorem Xl {b:List Int} {a n:Int} (hb:b.length<=100000) (a0:0<=a) (n0:0<=n) (h:a+n<=b.length):mZ.f ⟨b,a⟩ n=some (aB b a (a+n),.nil,⟨b,a+n⟩):=by
 unfold mZ.f;simp only;rw[bo (x:=_-a) U U,ah U,bo (x:=a+n) U U,bo (x:=a+n-n) U U,af U,show a+n-n=a by omega]
inductive np where
 |short:np
 |form:np
 |ok:List Int->Int->np
theorem u8 {b:List Int} (hb: ∀y∈b,eU y) {i:Int} (h0:0<=i) (h1:i<b.length):0<=rd b i/\rd b i<=255:=by
 have:=hb _ (uw h0 h1);unfold eU at this;omega
theorem aaQ {b:List Int} {a n:Int} (hb:b.length<=100000) (a0:0<=a) (a1:a<=b.length) (h:b.length<a+n):qf.f ⟨b,a⟩ n=some ([],.eB 6,⟨b,a⟩):=by
 unfold qf.f;rw[Xm hb a0 a1 h];rfl
theorem aaP {b:List Int} {a n:Int} (hb:b.length<=100000) (a0:0<=a) (n0:0<=n) (h:a+n<=b.length):qf.f ⟨b,a⟩ n=some (aB b a (a+n),if 0∈aB b a (a+n) then .eB 5 else .nil,⟨b,a+n⟩):=by
 unfold qf.f;have hl:=Bj a0 (show a<=a+n by omega) h
 rw[Xl hb a0 n0 h,aK];simp only[Er.isNil,if_true];rw[Mj _ _ U];simp only[aK]
 by_cases hz:0∈aB b a (a+n)
 ·rw[af hz,af (by simpa using hz)]
 ·rw[ah hz,ah (by simpa using hz)]
theorem ahA {t:aM} {L:List Int} {f:Int} {out:List Int} (h1:1<=t.C.length) (hb:t.C.length<=256) (h:Dy t L f out):xF.f t=some (f,out):=by
 unfold xF.f;rw[h.runs,aK];have hge:=h.ge;have hle:=h.le;have hlen:(((2::L:List Int).length:Nat):Int)=L.length+1:=by simp
 rw[hlen]
 by_cases hu:wo t.C
 ·have:=h.two.mpr hu;obtain⟨e1,e2⟩:=h.PJ hu;rw[af bp,af U,e1,e2]
 ·have bI: ¬L.length=2:=λq=>hu (h.two.mp q);rw[ah bp,bo U U]
  by_cases hs:L.length<t.C.length
  ·obtain⟨e1,e2⟩:=h.short hu hs;rw[af U,e1,e2]
  ·obtain⟨e1,e2⟩:=h.Ot hu hs;rw[ah U,af bp,e1,e2];rfl
theorem ab0 {b:List Int} {w h n:Int} (hw:1<=w/\w<=16) (hh:1<=h/\h<=16) (hn:aa (w*h)=n) {x:List Int} {q:Int} (hx:x.length<=100000) (hr:sY.f ⟨b,0⟩ n=some (x,.eB 6,⟨b,q⟩)):qO.f b w h=some (⟨0,0,[]⟩,0,2):=by
 unfold qO.f vO.f nX.f;have e:(((decide (w<1)||decide (w>16))||decide (h<1))||decide (h>16))=false:=by simp;omega
 rw[hn,hr];simp only[e,Bool.false_eq_true,if_false,aK,Er.isNil];rw[af bp]
 rfl
theorem abY {b:List Int} {w h n:Int} (hw:1<=w/\w<=16) (hh:1<=h/\h<=16) (hn:aa (w*h)=n) {x:List Int} {q:Int} (hx:x.length<=100000) (hr:sY.f ⟨b,0⟩ n=some (x,.eB 5,⟨b,q⟩)):qO.f b w h=some (⟨0,0,[]⟩,0,3):=by
 unfold qO.f vO.f nX.f;have e:(((decide (w<1)||decide (w>16))||decide (h<1))||decide (h>16))=false:=by simp;omega
 rw[hn,hr];simp only[e,Bool.false_eq_true,if_false,aK,Er.isNil];rw[af bp]
 rfl
theorem abZ {b:List Int} {w h n:Int} (hw:1<=w/\w<=16) (hh:1<=h/\h<=16) (hn:aa (w*h)=n) {x:List Int} {p:Int} (hx:x.length<=100000) (hp:0<=p/\p<=b.length) (hr:sY.f ⟨b,0⟩ n=some (x,.nil,⟨b,p⟩)) {out:List Int} {f:Int} (aeF:sX.f ⟨w,h,x⟩=some (out,f)):
 qO.f b w h=some (if HW out (aB b 0 p)=true then(⟨w,h,x⟩,p,0) else(⟨0,0,[]⟩,0,3)):=by
 unfold qO.f vO.f nX.f DK.f;have e:(((decide (w<1)||decide (w>16))||decide (h<1))||decide (h>16))=false:=by simp;omega
 rw[hn,hr];simp only[e,Bool.false_eq_true,if_false,aK,Er.isNil,if_true,List.nil_append];rw[af bp];simp only[aK,Er.isNil,if_true];rw[aeF];simp only[aK];rw[af U]
 cases hs:HW out (aB b 0 p)
 ·rfl
 ·rfl
abbrev HI (w h s:Int):Nat:=((ax w h s).1*(ax w h s).2).toNat
theorem WS {w h s:Int} (hs:bK w h s):1<=HI w h s/\HI w h s<=256/\((HI w h s:Nat):Int)=(ax w h s).1*(ax w h s).2:=by
 obtain⟨z1,z2,z3,z4⟩:=qn hs;have h1:(ax w h s).1*(ax w h s).2<=16*16:=kJ U U z2 z4;have h2:1*1<=(ax w h s).1*(ax w h s).2:=kJ U U z1 z3;unfold HI;omega
theorem ahR {m:aM} (hm:tM m) (s:Int):nS.f m s=some (fO m s):=ajb hm s
def qJ (w h s c:Int):Prop:=16*(s%(bt w h).1)<=c%w/\c%w<16*(s%(bt w h).1)+(ax w h s).1/\16*(s/(bt w h).1)<=c/w/\c/w<16*(s/(bt w h).1)+(ax w h s).2
instance (w h s c:Int):Decidable (qJ w h s c):=by unfold qJ;infer_instance
def loc (w h s c:Int):Int:=(c/w-16*(s/(bt w h).1))*(ax w h s).1+(c%w-16*(s%(bt w h).1))
theorem ahL {w h s:Int} (hs:bK w h s):16*(s%(bt w h).1)+(ax w h s).1<=w/\16*(s/(bt w h).1)+(ax w h s).2<=h:=by
 unfold ax;rw[af hs];simp only;omega
theorem afJ {w h s c:Int} (hs:bK w h s) (hi:qJ w h s c):0<=loc w h s c/\loc w h s c<(ax w h s).1*(ax w h s).2:=by
 obtain⟨i1,i2,i3,i4⟩:=hi;unfold loc;exact sB U U U U
theorem aif {w h c:Int} (hc:bV w h c): ∃s,bK w h s/\qJ w h s c:=by
 have hs:=EL hc;obtain⟨a,b,d,e⟩:=EK hc;have hn:=qM (a:=(bt w h).1) (x:=c%w/16) (y:=c/w/16) a b;have hp:=vP hc;refine⟨_,hs,?_⟩;unfold qJ ax;rw[af hs,hn.1,hn.2];simp only;generalize c%w=x at*;generalize c/w=y at*;omega
theorem ahN {w a X tw c:Int} (hw:0<w) (X0:0<=X) (ht:X+tw<=w):(a*w+X<=c/\c<a*w+X+tw)↔(c/w=a/\X<=c%w/\c%w<X+tw):=by
 constructor
 ·rintro⟨h1,h2⟩;have:=qM (a:=w) (x:=c-a*w) (y:=a) U U;rw[show a*w+(c-a*w)=c by omega] at this
  obtain⟨e1,e2⟩:=this;rw[e1,e2];exact⟨J,by omega,by omega⟩
 ·rintro⟨rfl,h2,h3⟩;have:=Int.mul_ediv_add_emod c w;rw[Int.mul_comm] at this;omega
theorem ahv {x S:List Int} {p n c:Int} (p0:0<=p) (n0:0<=n) (hx:p+n<=x.length) (hS:n<=S.length) (c0:0<=c):rd (cg x p.toNat n.toNat S) c=if p<=c/\c<p+n then rd S (c-p) else rd x c:=by
 unfold cg
 by_cases h1:c<p
 ·rw[ah U,zq c0 bp];unfold rd;rw[List.getD_eq_getElem?_getD,List.getD_eq_getElem?_getD,List.getElem?_take_of_lt U]
 ·have e:c-((List.take p.toNat x).length:Int)=c-p:=by simp;omega
  rw[na bp,e]
  by_cases h2:c<p+n
  ·rw[af ⟨by omega,h2⟩,zq U bp]
   unfold rd;rw[List.getD_eq_getElem?_getD,List.getD_eq_getElem?_getD,List.getElem?_take_of_lt U]
  ·rw[ah U,na bp];have e2:c-p-((List.take n.toNat S).length:Int)=c-p-n:=by simp;omega
   rw[e2];unfold rd;rw[List.getD_eq_getElem?_getD,List.getD_eq_getElem?_getD,List.getElem?_drop,show p.toNat+n.toNat+(c-p-n).toNat=c.toNat by omega]
theorem afx {w h s:Int} (hs:bK w h s) {t:aM} (hW:t.W=(ax w h s).1) (hH:t.H=(ax w h s).2) (hC:(t.C.length:Int)=(ax w h s).1*(ax w h s).2) {x:List Int} (hx:(x.length:Int)=w*h):
 ∃x',ox.f ⟨w,h,x⟩ s t=some x'/\(x'.length:Int)=w*h/\ ∀c,0<=c->c<w*h->rd x' c=if qJ w h s c then rd t.C (loc w h s c) else rd x c:=by
 have hz:=qn hs;have NQ:=tq hs;have hmp:=xt NQ;obtain⟨r1,r2⟩:=ahL hs;obtain⟨p1,p2,p3,p4⟩:=uz hs;obtain⟨sn1,sn2,sn3⟩:=WS hs;unfold ox.f;simp only;rw[Jo,aK];have hg:db w h s 0=16*(s/(bt w h).1)*w+16*(s%(bt w h).1):=by
  unfold db;rw[af ⟨hs,by omega,by omega⟩,Int.zero_ediv,Int.zero_emod,Int.add_zero,Int.add_zero]
 rw[hg];generalize hX:16*(s%(bt w h).1)=X at*;generalize hY:16*(s/(bt w h).1)=Y at*;generalize N4:(ax w h s).1=tw at*;generalize Up:(ax w h s).2=th at*;have key: ∀(n k:Nat) (y:Int) (z:List Int),y+n=th->0<=y->n<k->(z.length:Int)=w*h->(∀c,0<=c->c<w*h->rd z c=if qJ w h s c/\c/w<Y+y then rd t.C (loc w h s c) else rd x c)->
  ∃x',ox.l0 k ⟨w,h,x⟩ t (Y*w+X) z y=some x'/\(x'.length:Int)=w*h/\ ∀c,0<=c->c<w*h->rd x' c=if qJ w h s c then rd t.C (loc w h s c) else rd x c:=by
  intro n
  induction n with
  |zero=>
   intro k y z hy y0 hk UB N_;obtain⟨k,rfl⟩:=bq hk;refine⟨z,by rw[ox.l0,ah U],UB,λc c0 c1=>?_⟩
   rw[N_ c c0 c1]
   by_cases hi:qJ w h s c
   ·have:c/w<Y+y:=by
     have⟨_,_,_,i4⟩:=hi;rw[hY,Up] at i4;omega
    rw[af ⟨hi,this⟩,af hi]
   ·rw[ah (λq=>hi q.1),ah hi]
  |succ n ih=>
   intro k y z hy y0 hk UB N_;obtain⟨k,rfl⟩:=bq hk;have e1:(Y+y)*w=Y*w+y*w:=Int.add_mul _ _ _;have e2:(y+1)*tw=y*tw+tw:=by rw[Int.add_mul,Int.one_mul]
   have e3:(Y+y+1)*w=(Y+y)*w+w:=by rw[Int.add_mul,Int.one_mul]
   have b1:(Y+y+1)*w<=h*w:=Int.mul_le_mul_of_nonneg_right U U;have b2:h*w=w*h:=Int.mul_comm _ _;have b3:(y+1)*tw<=th*tw:=Int.mul_le_mul_of_nonneg_right U U;have b4:th*tw=tw*th:=Int.mul_comm _ _;have b5:0<=y*tw:=nQ y0 U;have b6:0<=y*w:=nQ y0 U;have b7:0<=Y*w:=nQ U U;rw[ox.l0,hH,af U];simp only;rw[hW,bo (x:=y*w) U U,bo (x:=Y*w+X+y*w) U U,bo (x:=y*tw) U U,bo (x:=y+1) U U,bo (x:=(y+1)*tw) U U];have hpe:Y*w+X+y*w=(Y+y)*w+X:=U;rw[hpe,af U,af U];have l1:=Bj (L:=t.C) (lo:=y*tw) (hi:=(y+1)*tw) b5 U U;have l2:=Bj (L:=z) (lo:=(Y+y)*w+X) (hi:=(z.length:Int)) U U U;have NT:min (aB t.C (y*tw) ((y+1)*tw)).length (aB z ((Y+y)*w+X) (z.length:Int)).length=tw.toNat:=U;rw[NT];have lJ:(cg z ((Y+y)*w+X).toNat tw.toNat (aB t.C (y*tw) ((y+1)*tw))).length=z.length:=Am U U;refine ih k (y+1) _ U U U U (λc c0 c1=>?_);rw[ahv U U U U c0];have Ul:=ahN (w:=w) (a:=Y+y) (X:=X) (tw:=tw) (c:=c) U U r1
   by_cases xg:(Y+y)*w+X<=c/\c<(Y+y)*w+X+tw
   ·obtain⟨q1,q2,q3⟩:=Ul.mp xg;have ck:qJ w h s c:=by unfold qJ;rw[hX,hY,N4,Up];exact⟨q2,q3,by omega,by omega⟩
    rw[af xg,af ⟨ck,by omega⟩,ahw b5 U U]
    congr 1
    unfold loc;rw[hX,hY,N4,q1];have e4:(Y+y-Y)*tw=y*tw:=by rw[show Y+y-Y=y by omega]
    have:=Int.mul_ediv_add_emod c w;rw[Int.mul_comm,q1] at this;omega
   ·rw[ah xg,N_ c c0 c1]
    by_cases ck:qJ w h s c
    ·have⟨i1,i2,i3,i4⟩:=ck;rw[hX] at i1;rw[hX,N4] at i2;have bI:c/w≠Y+y:=λq=>xg (Ul.mpr ⟨q,i1,i2⟩)
     by_cases aR:c/w<Y+y
     ·rw[af ⟨ck,aR⟩,af ⟨ck,by omega⟩]
     ·rw[ah (λq=>aR q.2),ah (λq=>by have:=q.2;omega)]
    ·rw[ah (λq=>ck q.1),ah (λq=>ck q.1)]
 exact key th.toNat fuel 0 x U U (by rw[tX];omega) hx (λc c0 c1=>by
  by_cases hi:qJ w h s c
  ·have⟨_,_,i3,_⟩:=hi;rw[hY] at i3;rw[ah (λq=>by have:=q.2;omega)]
  ·rw[ah (λq=>hi q.1)])
theorem agI {x y:Nat} (hx:x<256):x|||(y*256)=x+256*y:=by
 have:=Nat.shiftLeft_add_eq_or_of_lt (b:=x) (i:=8) U y;rw[Nat.shiftLeft_eq] at this;have e8:(2:Nat)^8=256:=by decide
 rw[e8] at this;rw[Nat.or_comm,<-this];omega
theorem D6 {x y:Int} (hx:eU x) (hy:eU y):aa (BitVec.toNat (BitVec.ofInt (IntKind.bits .i64) (aa x)|||BitVec.ofInt (IntKind.bits .i64) (aa ((aa y)*2^8))))=x+256*y:=by
 unfold eU at hx hy;rw[bo (x:=x) U U,bo (x:=y) U U,bo (x:=y*2^8) U U,BitVec.toNat_or];have e: ∀z:Int,0<=z->z<=1000000->(BitVec.ofInt (IntKind.bits .i64) z).toNat=z.toNat:=by
  intro z z0 z1;rw[BitVec.toNat_ofInt]
  show(z%((2^64:Nat):Int)).toNat=z.toNat
  rw[Int.emod_eq_of_lt z0 U]
 rw[e x U U,e (y*2^8) U U];have e2:(y*2^8).toNat=y.toNat*256:=U;rw[e2,agI U,bo U U];omega
theorem PV {x:Int}:bP x=x%256:=by
 unfold bP IntKind.wrap IntKind.signed IntKind.bits;simp
structure wI (m:aM):Prop where
 ok:tM m
 sw: ∀y∈m.C,1<=y/\y<=255
theorem Pm {m:aM} (hm:wI m) {s:Int} (hs:bK m.W m.H s):sm (fO m s)/\ ∀y∈(fO m s).C,1<=y/\y<=255:=by
 have hz:=qn hs;obtain⟨n1,n2,n3⟩:=WS hs;have hb: ∀y∈(fO m s).C,1<=y/\y<=255:=by
  intro y hy;unfold fO kQ at hy;simp only[List.mem_map,List.mem_range] at hy;obtain⟨l,hl,rfl⟩:=hy;have hg:=Aw (l:=(l:Int)) hs U U;exact hm.sw _ (uw hg.1 (by rw[hm.ok.2.1];exact hg.2))
 refine⟨⟨hz.1,hz.2.1,hz.2.2.1,hz.2.2.2,?_,λq=>by have:=hb 0 q;omega⟩,hb⟩
 show((kQ m s (HI m.W m.H s)).length:Int)=_
 rw[Dl,n3]
def Hh (m:aM) (s:Int):List Int:=((sX.f (fO m s)).getD ([],0)).1
theorem Vz {m:aM} (hm:wI m) {s:Int} (hs:bK m.W m.H s): ∃L f,sX.f (fO m s)=some (Hh m s,0)/\Dy (fO m s) L f (Hh m s):=by
 obtain⟨L,f,out,e,hL⟩:=VR (Pm hm hs).1;have:Hh m s=out:=by unfold Hh;rw[e];rfl
 exact⟨L,f,by rw[this];exact e,by rw[this];exact hL⟩
theorem Vy {t:aM} (h:sm t) {L:List Int} {f:Int} {out:List Int} (hL:Dy t L f out):2<=out.length/\out.length<=1+t.C.length:=by
 have hl:=oK h;have h2:=hL.ge
 by_cases hu:wo t.C
 ·rw[(hL.PJ hu).2];simp;omega
 ·by_cases hs:L.length<t.C.length
  ·rw[(hL.short hu hs).2];simp;omega
  ·rw[(hL.Ot hu hs).2];simp;omega
theorem abm {t:aM} (h:sm t) (hu: ∀y∈t.C,1<=y/\y<=255) {i:Int} {L:List Int} (he:Dt t.C i L): ∀y∈L,eU y:=by
 have hl:=oK h
 induction he with
 |done=>intro y hy;simp at hy
 | @run i e L i0 e1 hie same stop rest ih=>
  intro y hy;simp only[List.mem_cons] at hy;have hm:=hu _ (uw i0 (show i<(t.C.length:Int) by omega))
  rcases hy with q |q |q
  ·rw[q];exact⟨by omega,by omega⟩
  ·rw[q];exact⟨by omega,by omega⟩
  ·exact ih y q
theorem agN {v:aM} (hv:sm v) (hu: ∀y∈v.C,1<=y/\y<=255) {L:List Int} {f:Int} {out:List Int} (hL:Dy v L f out): ∀y∈out,eU y:=by
 have hC: ∀y∈v.C,eU y:=λy hy=>by have:=hu y hy;exact⟨by omega,by omega⟩
 have Uu:=oK hv
 by_cases hn:wo v.C
 ·rw[(hL.PJ hn).2];intro y hy;simp only[List.mem_cons,List.not_mem_nil,or_false] at hy;rcases hy with q |q
  ·rw[q];exact⟨by omega,by omega⟩
  ·rw[q];exact hC _ (uw U U)
 ·by_cases hs:L.length<v.C.length
  ·rw[(hL.short hn hs).2];intro y hy;simp only[List.mem_cons] at hy;rcases hy with q |q
   ·rw[q];exact⟨by omega,by omega⟩
   ·exact abm hv hu hL.enc y q
  ·rw[(hL.Ot hn hs).2];intro y hy;simp only[List.mem_cons] at hy;rcases hy with q |q
   ·rw[q];exact⟨by omega,by omega⟩
   ·exact hC y q
def outs (m:aM):Nat->Int->List Int
 |0,_=>[]
 |n+1,s=>Hh m s++outs m n (s+1)
theorem VA {m:aM} (hm:wI m): ∀(n:Nat) (i:Int),i+n=d_ m.W m.H->0<=i->(2*n<=(outs m n i).length/\(outs m n i).length<=257*n)/\ ∀y∈outs m n i,eU y:=by
 intro n
 induction n with
 |zero=>intro i _ _;exact⟨by simp[outs],by simp[outs]⟩
 |succ n ih=>
  intro i hi i0;have hs:bK m.W m.H i:=⟨i0,by omega⟩
  obtain⟨L,f,e,hL⟩:=Vz hm hs;obtain⟨t1,t2⟩:=Pm hm hs;have hl:=Vy t1 hL;have hc:=oK t1;obtain⟨h1,h2⟩:=ih (i+1) U U;refine⟨by simp only[outs,List.length_append];omega,λy hy=>?_⟩
  simp only[outs,List.mem_append] at hy;rcases hy with q |q
  ·exact agN t1 t2 hL y q
  ·exact h2 y q
def AD (m:aM):List Int:=[bP m.W,bP (Int.fdiv m.W (2^8)),bP m.H,bP (Int.fdiv m.H (2^8))]
def bytesOf (m:aM):List Int:=AD m++outs m (d_ m.W m.H).toNat 0
theorem ahP {m:aM} (hm:wI m): ∀(n k:Nat) (i:Int) (x:List Int),i+n=d_ m.W m.H->0<=i->n<k->x.length<=10+257*i.toNat->lr.l0 k m x i=some (x++outs m n i):=by
 have jI:=pg m.W m.H;intro n
 induction n with
 |zero=>
  intro k i x hi i0 hk hx;obtain⟨k,rfl⟩:=bq hk;rw[lr.l0,OW,aK,ah U];simp[outs]
 |succ n ih=>
  intro k i x hi i0 hk hx;obtain⟨k,rfl⟩:=bq hk;have hs:bK m.W m.H i:=⟨i0,by omega⟩
  obtain⟨L,f,e,hL⟩:=Vz hm hs;obtain⟨t1,t2⟩:=Pm hm hs;have hl:=Vy t1 hL;have hc:=oK t1;rw[lr.l0,OW,aK,af U,ahR hm.ok,aK,ahA hc.1 hc.2 hL,aK];simp only;rw[af U,bo U U,ih k (i+1) _ U U U (by simp only[List.length_append];omega)]
  simp[outs]
theorem WH {m:aM} (hm:wI m):lr.f m=some (bytesOf m):=by
 have hc:=pg m.W m.H;unfold lr.f;exact ahP hm (d_ m.W m.H).toNat fuel 0 (AD m) U U (by rw[tX];omega) (by simp[AD])
theorem aek (m:aM): ∀y∈AD m,eU y:=by
 intro y hy;unfold AD at hy;simp only[List.mem_cons,List.not_mem_nil,or_false,PV] at hy;unfold eU;rcases hy with q |q |q |q<;>omega
theorem aac {m:aM} (hm:wI m): ∀y∈bytesOf m,eU y:=by
 intro y hy;have hc:=pg m.W m.H;unfold bytesOf at hy;rw[List.mem_append] at hy;rcases hy with q |q
 ·exact aek m y q
 ·exact(VA hm (d_ m.W m.H).toNat 0 U U).2 y q
theorem aab {m:aM} (hm:wI m):6<=(bytesOf m).length/\(bytesOf m).length<=4+257*(d_ m.W m.H).toNat:=by
 have hc:=pg m.W m.H;have hp:=aaR hm.ok.1;have:=(VA hm (d_ m.W m.H).toNat 0 U U).1;unfold bytesOf;rw[List.length_append];have:(AD m).length=4:=rfl;omega
theorem abu {x:Int} (h0:0<=x):Int.fdiv x (2^8)=x/256:=by
 rw[Int.fdiv_eq_ediv_of_nonneg _ U];rfl
theorem TS {w:Int} (h0:0<=w) (h1:w<=65535):bP w+256*bP (Int.fdiv w (2^8))=w:=by
 rw[abu h0,PV,PV];omega
def Ll (b:List Int) (n:Int) (r:List Int×Er×eV):Prop:=
 r.2.2.b=b/\0<=r.2.2.bc/\r.2.2.bc<=b.length/\r.1.length<=1000/\(r.2.1= .eB 5∨r.2.1= .eB 6∨(r.2.1= .nil/\(r.1.length:Int)=n/\ ∀y∈r.1,1<=y/\y<=255))
section
variable {b : List Int} {n : Int}
theorem PC (hl:b.length<=100000) {a m:Int} (a0:0<=a) (a1:a<=b.length) (m0:0<=m):(b.length<a+m/\mZ.f ⟨b,a⟩ m=some ([],.eB 6,⟨b,a⟩))∨(a+m<=b.length/\mZ.f ⟨b,a⟩ m=some (aB b a (a+m),.nil,⟨b,a+m⟩)):=by
 by_cases z:b.length<a+m
 ·exact .inl ⟨z,Xm hl a0 a1 z⟩
 ·exact .inr ⟨by omega,Xl hl a0 m0 U⟩
theorem Rj (hb: ∀y∈b,eU y) (hl:b.length<=100000) {a m:Int} (a0:0<=a) (a1:a<=b.length) (m0:0<=m) (m1:m<=256):Ok (qf.f ⟨b,a⟩ m) (λr=>Ll b m r/\(r.1.length:Int)<=m):=by
 by_cases z:b.length<a+m
 ·exact Ok.of (aaQ hl a0 a1 z) ⟨⟨J,a0,a1,by simp,.inr (.inl J)⟩,by simpa using m0⟩
 ·have hs:=Bj a0 (show a<=a+m by omega) (show a+m<=b.length by omega)
  refine Ok.of (aaP hl a0 m0 U) ⟨⟨J,by simp only;omega,by simp only;omega,by simp only;omega,?_⟩,by simp only;omega⟩
  simp only
  by_cases y:0∈aB b a (a+m)
  ·rw[af y];exact .inl J
  ·rw[ah y];refine .inr (.inr ⟨J,by omega,λx hx=>?_⟩)
   have h8:=HY (P:=eU) hb x hx;unfold eU at h8;have:x≠0:=λq=>y (by rw[<-q];exact hx)
   omega
theorem ahZ (hb: ∀y∈b,eU y) (hl:b.length<=100000) (n1:1<=n/\n<=256) (q:Int): ∀(m k:Nat) (a:Int) (x:List Int),(b.length-a).toNat<=m->m<k->0<=a->a<=b.length->(x.length:Int)<=n->(∀y∈x,1<=y/\y<=255)->
 Ok (pE.l0 k ⟨b,q⟩ n a x) (λz=>(∃e p,z= .inl ([],e,⟨b,p⟩)/\0<=p/\p<=b.length/\(e= .eB 5∨e= .eB 6))∨ ∃x' p,z= .inr (x',p)/\(x'.length:Int)=n/\0<=p/\p<=b.length/\ ∀y∈x',1<=y/\y<=255):=by
 intro m
 induction m with
 |zero=>
  intro k a x hm hk a0 a1 hx hy;obtain⟨k,rfl⟩:=bq hk;rw[pE.l0];refine Ok.ite (λz=>?_) λz=>Ok.pure (.inr ⟨x,a,J,by omega,a0,a1,hy⟩)
  rcases PC hl a0 a1 (show(0:Int)<=2 by omega) with⟨_,e⟩ |⟨t,e⟩
  ·exact Ok.eq e (Ok.pos J (Ok.pure (.inl ⟨_,_,J,a0,a1,.inr J⟩)))
  ·omega
 |succ m ih=>
  intro k a x hm hk a0 a1 hx hy;obtain⟨k,rfl⟩:=bq hk;rw[pE.l0];refine Ok.ite (λz=>?_) λz=>Ok.pure (.inr ⟨x,a,J,by omega,a0,a1,hy⟩)
  rcases PC hl a0 a1 (show(0:Int)<=2 by omega) with⟨_,e⟩ |⟨t,e⟩
  ·exact Ok.eq e (Ok.pos J (Ok.pure (.inl ⟨_,_,J,a0,a1,.inr J⟩)))
  ·refine Ok.eq e (Ok.neg (by simp[Er.isNil]) ?_)
   have hs:=Bj a0 (show a<=a+2 by omega) t
   have r0:=dZ (a:=aB b a (a+2)) (i:=0) U U;have r1:=dZ (a:=aB b a (a+2)) (i:=1) U U;have u0:=HY (P:=eU) hb _ r0;have u1:=HY (P:=eU) hb _ r1;unfold eU at u0 u1;simp only;generalize rd (aB b a (a+2)) 0=c at*;generalize rd (aB b a (a+2)) 1=v at*;rw[wi (x:=c) U U,wi (x:=c+1) U U,wi (x:=n-(x.length:Int)) U U,wi (x:=(x.length:Int)-1) U U];refine Ok.ct U (Ok.ct U ?_);refine Ok.bind (P:=λy:Bool=>y=false->v≠0/\c+1<=n-x.length) (Ok.ite (λy=>Ok.pure bh) λy=>?_) λy Ei=>?_
   ·have y: ¬(v=0∨c+1>n-x.length):=by simpa using y
    refine Ok.ite (λw=>Ok.ct U (Ok.pure λ_=>by omega)) λw=>Ok.pure λ_=>by omega
   ·refine Ok.ite (λw=>Ok.pure (.inl ⟨_,_,J,by omega,by omega,.inl J⟩)) λw=>?_
    obtain⟨v0,c1⟩:=Ei (by simpa using w)
    refine Ok.eq (O9 U) (Ok.ct bp (ih k (a+2) _ U U U U bp λy aeN=>?_));rcases List.mem_append.1 aeN with w |w
    ·exact hy y w
    ·have:=List.eq_of_mem_replicate w;omega
theorem ZZ (hb: ∀y∈b,eU y) (hl:b.length<=100000) (n1:1<=n/\n<=256):Ok (sY.f ⟨b,0⟩ n) (Ll b n):=by
 unfold sY.f;rcases PC (b:=b) hl (Int.le_refl 0) U (show(0:Int)<=1 by omega) with⟨_,e⟩ |⟨t,e⟩
 ·exact Ok.eq e (Ok.pos J (Ok.pure ⟨J,Int.le_refl _,by simp only;omega,by simp,.inr (.inl J)⟩))
 refine Ok.eq e (Ok.neg (by simp[Er.isNil]) ?_)
 have hs:=Bj (L:=b) (Int.le_refl 0) (show(0:Int)<=0+1 by omega) t
 refine Ok.ct (by simp only;omega) (Ok.ite (λz=>?_) λz=>Ok.ite (λz=>?_) λz=>Ok.ite (λz=>?_) λz=>Ok.pure ⟨J,by simp only;omega,by simp only;omega,by simp,.inl J⟩)
 ·refine(Rj hb hl (a:=0+1) (m:=1) U U U U).bind λr hr=>?_
  obtain⟨⟨h1,h2,h3,h4,h5⟩,h9⟩:=hr;rcases h5 with h5 |h5 |⟨h5,h6,h7⟩
  rotate_left 2
  ·obtain⟨y,hy⟩: ∃y,r.1=[y]:=List.length_eq_one_iff.1 U;have:=h7 y (by rw[hy];exact List.mem_cons_self ..)
   rw[hy];refine Ok.eq (O9 U) (Ok.pure ⟨J,h2,h3,by simp;omega,.inr (.inr ⟨h5,by simp;omega,λx hx=>?_⟩)⟩)
   have:=List.eq_of_mem_replicate hx;omega
  all_goals
   obtain⟨x,ex,lx⟩: ∃x,lH.f r.1 n=some x/\x.length<=1000:=by
    cases yS:r.1 with
    |nil=>exact⟨_,ahE U,by simp⟩
    |cons c l=>
     rw[yS] at h9;have:l=[]:=List.length_eq_zero_iff.1 (by simp at h9;omega)
     subst this;exact⟨_,O9 U,by simp;omega⟩
   exact Ok.eq ex (Ok.pure ⟨J,h2,h3,lx,by simp[h5]⟩)
 ·refine(Rj hb hl (a:=0+1) (m:=n) U U U U).bind λr hr=>Ok.pure ?_
  obtain⟨⟨h1,h2,h3,h4,h5⟩,_⟩:=hr;exact⟨J,h2,h3,h4,h5⟩
 ·unfold pE.f;refine Ok.bind (P:=Ll b n) ?_ λr hr=>Ok.pure ⟨J,hr.2.1,hr.2.2.1,hr.2.2.2.1,hr.2.2.2.2⟩
  refine(ahZ hb hl n1 (0+1) 100000 fuel (0+1) [] U (by rw[cO];omega) U U bp bh).bind λz hz=>?_
  rcases hz with⟨e',p,rfl,p0,p1,he⟩ |⟨x',p,rfl,hx,p0,p1,hy⟩
  ·exact Ok.pure ⟨J,p0,p1,by simp,he.imp id .inl⟩
  ·exact Ok.pure ⟨J,p0,p1,by simp only;omega,.inr (.inr ⟨J,hx,hy⟩)⟩
end
theorem O1 {x:Int} (h0:0<=x) (h1:x<=255): ∃v,vS.f x=some v/\1<=v/\v<=255:=by
 unfold vS.f;rw[nh h0,nh h0]
 by_cases h7:x%8=7
 ·rw[af (by simpa using h7)];exact⟨_,J,by omega,by omega⟩
 ·rw[ah (by simpa using h7)]
  by_cases h2:x<160
  ·rw[af h2,E3 U U];exact⟨_,J,by omega,by omega⟩
  ·rw[ah h2];exact⟨_,J,by omega,by omega⟩
theorem afN {c:List Int} (hc: ∀y∈c,0<=y/\y<=255) {w h:Int} (hw:1<=w/\w<=40) (hh:1<=h/\h<=40): ∀(n k:Nat) (x:List Int) (i:Int),i+n=w*h->i=x.length->n<k->(∀y∈x,1<=y/\y<=255)->
 ∃m,lp.l0 k c w h x i=some m/\m.W=w/\m.H=h/\(m.C.length:Int)=w*h/\ ∀y∈m.C,1<=y/\y<=255:=by
 have NO:w*h<=40*40:=kJ U U hw.2 hh.2;have Ci:0<=w*h:=nQ U U;intro n
 induction n with
 |zero=>
  intro k x i hi hx hk ha;obtain⟨k,rfl⟩: ∃q,k=q+1:=⟨k-1,by omega⟩
  rw[lp.l0,bo (x:=w*h) U U,ah U];exact⟨_,J,J,J,by simp only;omega,ha⟩
 |succ n ih=>
  intro k x i hi hx hk ha;obtain⟨k,rfl⟩: ∃q,k=q+1:=⟨k-1,by omega⟩
  rw[lp.l0,bo (x:=w*h) U U,af U];have next: ∀v,1<=v->v<=255-> ∃m,lp.l0 k c w h (x++[v]) (aa (i+1))=some m/\m.W=w/\m.H=h/\(m.C.length:Int)=w*h/\ ∀y∈m.C,1<=y/\y<=255:=by
   intro v v0 v1;rw[bo U U];refine ih k _ (i+1) U bp U (λy hy=>?_);rw[List.mem_append] at hy;rcases hy with hy |hy
   ·exact ha y hy
   ·simp at hy;omega
  by_cases hz:(c.length:Int)>0
  ·have bI: ¬(c.length:Int)=0:=U;rw[af hz,af bI,af bI];have AJ:0<=aa (i+aa (aa (Int.tdiv i c.length)*5)):=by
    have hd:0<=i/c.length/\i/c.length<=i:=⟨Int.ediv_nonneg U U,Int.ediv_le_self _ U⟩;rw[qZ U,bo (x:=i/_) U U,bo (x:=_*5) U U,bo U U];omega
   have r0:0<=Int.tmod (aa (i+aa (aa (Int.tdiv i c.length)*5))) c.length:=by rw[nh AJ];exact Int.emod_nonneg _ U
   have r1:Int.tmod (aa (i+aa (aa (Int.tdiv i c.length)*5))) c.length<c.length:=by rw[nh AJ];exact Int.emod_lt_of_pos _ U
   rw[af ⟨r0,r1⟩];have jk:=uw (a:=c) r0 r1;obtain⟨q0,q1⟩:=hc _ jk;obtain⟨v,e,v0,v1⟩:=O1 q0 q1;rw[e,aK,af U];exact next v v0 v1
  ·rw[ah hz];obtain⟨v,e,v0,v1⟩:=O1 (x:=1) U U;rw[e,aK,af U];exact next v v0 v1
theorem afM (w h:Int) {c:List Int} (hc: ∀y∈c,0<=y/\y<=255): ∃m,lp.f w h c=some m/\tM m/\m.W<=40/\m.H<=40/\ ∀y∈m.C,1<=y/\y<=255:=by
 unfold lp.f;have h1:=PT (n:=w) (lo:=1) (hi:=40) U;have h2:=PT (n:=h) (lo:=1) (hi:=40) U;rw[PS U U U U,PS U U U U];simp only[aK];generalize 1+w%(40-1+1)=a at h1⊢;generalize 1+h%(40-1+1)=b at h2⊢;have NO:a*b<=40*40:=kJ U U h1.2 h2.2;have Ci:0<=a*b:=nQ U U;obtain⟨m,e,e1,e2,e3,e4⟩:=afN hc h1 h2 (a*b).toNat fuel [] 0 U bh (by rw[tX];omega) bh
 refine⟨m,e,⟨⟨by omega,by omega,by omega,by omega⟩,by rw[e1,e2];exact e3,λh0=>?_⟩,by omega,by omega,e4⟩
 have:=e4 0 h0;omega
section
theorem abX {b:List Int} (hb: ∀y∈b,eU y) (hl:b.length<=100000) {w h:Int} (hw:1<=w/\w<=16) (hh:1<=h/\h<=16):
 Ok (qO.f b w h) (λr=>(r.2.2=2∨r.2.2=3)∨(r.2.2=0/\r.1.W=w/\r.1.H=h/\(r.1.C.length:Int)=w*h/\(∀y∈r.1.C,1<=y/\y<=255)/\0<=r.2.1/\r.2.1<=b.length)):=by
 have hn:1*1<=w*h:=kJ U U hw.1 hh.1;have Gp:w*h<=16*16:=kJ U U hw.2 hh.2;have N8:aa (w*h)=w*h:=wi U U;obtain⟨⟨x,e,rr⟩,hr,h1,h2,h3,h4,h5⟩:=ZZ hb hl (n:=w*h) U;simp only at h1 h2 h3 h4 h5;obtain⟨rb,p⟩:=rr;simp only at h1 h2 h3;subst h1;rcases h5 with rfl |rfl |⟨rfl,h6,h7⟩
 ·exact Ok.of (abY hw hh N8 U hr) (.inl (.inr J))
 ·exact Ok.of (ab0 hw hh N8 U hr) (.inl (.inl J))
 ·have ht:sm ⟨w,h,x⟩:=⟨hw.1,hw.2,hh.1,hh.2,h6,λq=>by have:=h7 0 q;omega⟩
  obtain⟨L,f,out,e,_⟩:=VR ht;refine Ok.of (abZ hw hh N8 U ⟨h2,h3⟩ hr e) ?_;split
  ·exact .inr ⟨J,J,J,h6,h7,h2,h3⟩
  ·exact .inl (.inr J)
theorem YG:yF.f .nil=some none:=rfl
theorem Qm (n:Int):yF.f (.num 243 n)=some (some n):=rfl
theorem YH (q n:Int):yF.f (.wrap 301 [q] (.num 243 n))=some (some n):=rfl
theorem ahx {w h:Int} (NQ:iE w h) {b:List Int} (hw:rd b 0+256*rd b 1=w) (hh:rd b 2+256*rd b 3=h) (u0:eU (rd b 0)) (u1:eU (rd b 1)) (u2:eU (rd b 2)) (u3:eU (rd b 3)):
 ∀(n k:Nat) (i:Int) (r x:List Int),i+n=d_ w h->0<=i->n<k->(∀y∈r,eU y)->r.length<=100000->(x.length:Int)=w*h->
 (∀c,0<=c->c<w*h->(∃s,0<=s/\s<i/\bK w h s/\qJ w h s c)->1<=rd x c/\rd x c<=255)->
 Ok (o0.l0 k b (d_ w h) r x i) (λres=>(∃e c,res=(⟨0,0,[]⟩,e)/\yF.f e=some (some c)/\(c=2∨c=3))∨ ∃x',res=(⟨w,h,x'⟩,.nil)/\(x'.length:Int)=w*h/\ ∀c,0<=c->c<w*h->1<=rd x' c/\rd x' c<=255):=by
 have jI:=pg w h;intro n
 induction n with
 |zero=>
  intro k i r x hi i0 hk hr Gy hx ha;obtain⟨k,rfl⟩:=bq hk;rw[o0.l0,D6 u0 u1,D6 u2 u3,hw,hh,ah U];refine Ok.ite (λhz=>Ok.pure (.inl ⟨_,3,J,J,.inr J⟩)) λhz=>Ok.pure (.inr ⟨x,J,hx,λc c0 c1=>?_⟩);obtain⟨s,s1,s2⟩:=aif (w:=w) (h:=h) (c:=c) ⟨NQ,c0,c1⟩;exact ha c c0 c1 ⟨s,s1.1,by have:=s1.2;omega,s1,s2⟩
 |succ n ih=>
  intro k i r x hi i0 hk hr Gy hx ha;obtain⟨k,rfl⟩:=bq hk;have hs:bK w h i:=⟨i0,by omega⟩
  have hz:=qn hs;rw[o0.l0,D6 u0 u1,D6 u2 u3,hw,hh];refine Ok.pos U (Ok.eq (HN ..) ((abX hr Gy ⟨hz.1,hz.2.1⟩ ⟨hz.2.2.1,hz.2.2.2⟩).bind λres N1=>?_));rcases N1 with q |⟨q1,tW,tH,tC,tB,p0,p1⟩
  ·exact Ok.pos (by rcases q with q |q<;>simp[q]) (Ok.pure (.inl ⟨_,res.2.2,rfl,YH _ _,q⟩))
  ·obtain⟨x1,f1,f2,f3⟩:=afx hs (t:=res.1) tW tH tC (x:=x) hx;have sl:=Bj (L:=r) (lo:=res.2.1) (hi:=(r.length:Int)) p0 p1 U;rw[wi (x:=i+1) U U];refine Ok.neg (by simp[q1]) (Ok.eq f1 (Ok.ct U (ih k (i+1) _ x1 U U U (HY hr) U f2 λc c0 c1 ⟨s,s0,s1,s2,s3⟩=>?_)))
   rw[f3 c c0 c1]
   by_cases z:qJ w h i c
   ·rw[af z];have hll:=afJ hs z;exact tB _ (uw hll.1 U)
   ·rw[ah z];refine ha c c0 c1 ⟨s,s0,?_,s2,s3⟩;have:s≠i:=λq=>z (by rw[<-q];exact s3)
    omega
theorem Yo {b:List Int} (hb: ∀y∈b,eU y) (hl:b.length<=100000):Ok (wN.f b) (λr=>(r.2=2∨r.2=3)∨(r.2=0/\tM r.1/\(∀c:Int,0<=c->c<r.1.W*r.1.H->1<=rd r.1.C c/\rd r.1.C c<=255)/\r.1.W=rd b 0+256*rd b 1/\r.1.H=rd b 2+256*rd b 3)):=by
 unfold wN.f o0.f
 by_cases h4:(b.length:Int)<4
 ·rw[af h4];exact Ok.eq J (Ok.eq (Qm 2) (Ok.pos J (Ok.pure (.inl (.inl J)))))
 have u0:eU (rd b 0):=hb _ (uw U U);have u1:eU (rd b 1):=hb _ (uw U U);have u2:eU (rd b 2):=hb _ (uw U U);have u3:eU (rd b 3):=hb _ (uw U U);rw[ah h4,af (show 0<=(0:Int)/\(0:Int)<(b.length:Int) by omega),af (show 0<=(1:Int)/\(1:Int)<(b.length:Int) by omega),af (show 0<=(2:Int)/\(2:Int)<(b.length:Int) by omega),af (show 0<=(3:Int)/\(3:Int)<(b.length:Int) by omega),D6 u0 u1,D6 u2 u3,AW,aK]
 generalize hw:rd b 0+256*rd b 1=w;generalize hh:rd b 2+256*rd b 3=h
 by_cases hm:iE w h
 ·have hp:=xt hm;have hc:=pg w h;rw[decide_eq_true hm,ah bh,af (show 0<=(4:Int)/\(4:Int)<=(b.length:Int)/\(b.length:Int)<=(b.length:Int) by omega),bo (x:=w*h) U U,af (show 0<=w*h/\w*h<=1099511627776 by omega)]
  have e:BO.f w h=some (d_ w h):=by
   unfold BO.f;rw[EM,aK];have e:(bt w h).1*(bt w h).2=d_ w h:=rfl;rw[e,wi U U]
  rw[e,aK];have sl:=Bj (L:=b) (lo:=4) (hi:=(b.length:Int)) U U U;refine(ahx hm hw hh u0 u1 u2 u3 (d_ w h).toNat fuel 0 (aB b 4 (b.length:Int)) (List.replicate (w*h).toNat 0) U U (by rw[cO];omega) (HY hb) U bp (λc _ _ ⟨s,s0,s1,_⟩=>by omega)).bind λres N1=>?_
  rcases N1 with⟨e',c,rfl,h1,h2⟩ |⟨x',rfl,xl,xb⟩
  ·exact Ok.eq h1 (Ok.pos J (Ok.pure (.inl h2)))
  ·refine Ok.eq YG (Ok.neg bh (Ok.pure (.inr ⟨J,⟨hm,xl,λq=>?_⟩,xb,J,J⟩)));obtain⟨c,c0,c1,e⟩:=jT q;have:=xb c c0 (by simp only at c1;omega)
   simp only at e;rw[e] at this;omega
 ·rw[decide_eq_false hm,af bh];exact Ok.eq J (Ok.eq (Qm 3) (Ok.pos J (Ok.pure (.inl (.inr J)))))
theorem WC (w h:Int) {c:List Int} (hc: ∀y∈c,eU y): ∃m,lp.f w h c=some m/\wI m/\m.W<=40/\m.H<=40:=by
 obtain⟨m,e,ok,w40,h40,hb⟩:=afM w h (c:=c) (λy hy=>by have:=hc y hy;unfold eU at this;omega)
 exact⟨m,e,⟨ok,hb⟩,w40,h40⟩
end
section
structure oS (o:cS):Prop where
 k:0<=o.Kind/\o.Kind<=8
 a:0<=o.A/\o.A<=1000000
 b:0<=o.B/\o.B<=1000000
 m:o.Kind≠1->o.Map=[]
 b2:o.Kind=2->o.B<=255
 b5:o.Kind=5->o.B=0
 z:o.Kind=1∨o.Kind=7∨o.Kind=8->o.A=0/\o.B=0
 ld:o.Kind=1->(∀y∈o.Map,eU y)/\4<=o.Map.length/\o.Map.length<=100000/\rd o.Map 0+256*rd o.Map 1<=40/\rd o.Map 2+256*rd o.Map 3<=40
theorem RO {n:Int} (h0:0<=n) (h1:n<=1000000):rQ.f n 4=some true:=by
 unfold rQ.f;have e:aa (1*(2^(min (Int.toNat (aa (8*4))) (IntKind.bits .i64))))=4294967296:=by decide
 rw[e,af h0,af (by decide),decide_eq_true U]
theorem abC {n:Int} (h0:0<=n) (h1:n<=255):rQ.f n 1=some true:=by
 unfold rQ.f;have e:aa (1*(2^(min (Int.toNat (aa (8*1))) (IntKind.bits .i64))))=256:=by decide
 rw[e,af h0,af (by decide),decide_eq_true U]
theorem Jf:rQ.f 0 0=some true:=by decide
theorem Vv {o:cS} (h:oS o) (hk:o.Kind≠0):CM.f o=some true:=by
 have hm:=h.m;have rL:=h.ld;have hz:=h.z;have h2:=h.b2;have h5:=h.b5;have ha:=RO h.a.1 h.a.2;have hb:=RO h.b.1 h.b.2;unfold CM.f;rw[ah (by simpa using hk)]
 have hc:o.Kind=1∨o.Kind=2∨o.Kind=3∨o.Kind=4∨o.Kind=5∨o.Kind=6∨o.Kind=7∨o.Kind=8:=by have:=h.k;omega
 rcases hc with e |e |e |e |e |e |e |e
 ·have:=hz (.inl e);have hl:=rL e;simp only[e,this.1,this.2,pD.f,beq_self_eq_true,if_true,aK,Jf]
  by_cases q:(o.Map.length:Int)=0
  ·omega
  ·rw[ah (by simpa using q)];simp;omega
 ·have D3:=abC h.b.1 (h2 e);simp[e,pD.f,ha,D3,hm U]
 ·simp[e,pD.f,ha,hb,hm U]
 ·simp[e,pD.f,ha,hb,hm U]
 ·simp[e,pD.f,ha,h5 e,Jf,hm U]
 ·simp[e,pD.f,ha,hb,hm U]
 ·have:=hz (.inr (.inl e));simp[e,pD.f,this.1,this.2,Jf,hm U]
 ·have:=hz (.inr (.inr e));simp[e,pD.f,this.1,this.2,Jf,hm U]
theorem yc {n lo hi:Int} (h0:0<=lo) (h1:lo<=hi) (h2:hi<=1000000): ∃r,fE.f n lo hi=some r/\lo<=r/\r<=hi:=
 ⟨_,PS U U h1 U,PT h1⟩
theorem PU (x:Int):0<=bP x/\bP x<=255:=ajn x
theorem aiE (x:sL) {n:Int} (n1:1<=n) (n2:n<=1600):Ok (xG.f x n) oS:=by
 obtain⟨a,ea,a0,a1⟩:=yc (n:=x.B) (lo:=1) (hi:=6) U U U;obtain⟨b,eb,b0,b1⟩:=yc (n:=x.A) (lo:=0) (hi:=5) U U U;obtain⟨c,ec,c0,c1⟩:=yc (n:=x.A) (lo:=0) (hi:=9) U U U;obtain⟨d,ed,d0,d1⟩:=yc (n:=x.A) (lo:=0) (hi:=n-1) U U U;obtain⟨e,ee,e0,e1⟩:=yc (n:=x.A) (lo:=0) (hi:=1) U U U;unfold xG.f;rw[ea,eb,ec,wi (x:=n-1) U U,ed,ee];simp only[aK];rw[wi (x:=n+b) U U,wi (x:=e*255) U U];have w1:=PU x.A;have w2:=PU x.B;refine Ok.ite (λq=>Ok.pure ?_) λq=>Ok.ite (λq'=>Ok.pure ?_) λq'=>Ok.ite (λCW=>Ok.pure ?_) λCW=>Ok.pure ?_
 ·have q:a=1:=by simpa using q
  subst q;refine⟨by simp,by simp,by simp,λz=>by simp at z,λz=>by simp at z,λz=>by simp at z,λ_=>⟨J,J⟩,λ_=>⟨λy hy=>?_,by simp,by simp,by simp[rd],by simp[rd]⟩⟩
  unfold eU;simp only[List.mem_cons,List.not_mem_nil,or_false] at hy;rcases hy with rfl |rfl |rfl |rfl |rfl |rfl |rfl<;>omega
 ·have q':a=2:=by simpa using q'
  subst q';exact⟨by simp,by simp only;omega,by simp only;omega,λ_=>rfl,λ_=>by simp only;omega,λz=>by simp at z,λz=>by simp at z,λz=>by simp at z⟩
 ·have CW:a=5:=by simpa using CW
  subst CW;exact⟨by simp,by simp only;omega,by simp,λ_=>rfl,λz=>by simp at z,λ_=>rfl,λz=>by simp at z,λz=>by simp at z⟩
 ·have q:a≠1:=by simpa using q
  have q':a≠2:=by simpa using q'
  have CW:a≠5:=by simpa using CW
  exact⟨by simp only;omega,by simp only;omega,by simp only;omega,λ_=>rfl,λz=>absurd z q',λz=>absurd z CW,λz=>by simp only at z;omega,λz=>absurd z q⟩
theorem U9 {m:aM} (hm:wI m) (h1:m.W<=40) (h2:m.H<=40):oS ⟨1,0,0,bytesOf m⟩:=by
 have NW:=hm.ok.1;have hl:=aab hm;have hc:=pg m.W m.H;have e: ∀j:Int,0<=j->j<4->rd (bytesOf m) j=rd (AD m) j:=λj j0 j1=>by unfold bytesOf;exact zq j0 (by simp[AD];omega)
 have hw:=TS (w:=m.W) U U;have hh:=TS (w:=m.H) U U;refine⟨by simp,by simp,by simp,λz=>by simp at z,λz=>by simp at z,λz=>by simp at z,λ_=>⟨J,J⟩,λ_=>⟨aac hm,by simp only;omega,?_,?_,?_⟩⟩
 ·have:d_ m.W m.H<=3*3:=by
   unfold d_ bt;rw[af hm.ok.1];exact kJ (by simp only;omega) (by simp only;omega) (by simp only;omega) (by simp only;omega)
  simp only;omega
 ·simp only;rw[e 0 U U,e 1 U U]
  show bP m.W+256*bP (Int.fdiv m.W (2^8))<=40
  omega
 ·simp only;rw[e 2 U U,e 3 U U]
  show bP m.H+256*bP (Int.fdiv m.H (2^8))<=40
  omega
theorem U_ {m:aM} (hm:wI m) (h1:m.W<=40) (h2:m.H<=40):1<=m.C.length/\m.C.length<=1600:=by
 have hp:=xt hm.ok.1;have:=hm.ok.2.1;have NW:=hm.ok.1;have:m.W*m.H<=40*40:=kJ U U h1 h2;omega
theorem ah' (w h:Int) {c:List Int} (hc: ∀y∈c,eU y) (l:List sL): ∀(n k:Nat) (a b:Int) (C:List Int) (x:List cS) (N i:Int),(60-i).toNat<=n->n<k->0<=i->1<=N->N<=1600->(x.length:Int)<=1+i->i<=60->(∀o∈x,oS o)->x≠[]->
 Ok (nT.l0 k w h c l a b C x N i) (λr=>r≠[]/\r.length<=61/\ ∀o∈r,oS o):=by
 have fin: ∀(k:Nat) (a b:Int) (C:List Int) (x:List cS) (N i:Int),¬(i<l.length/\i<60)->(x.length:Int)<=1+i->i<=60->(∀o∈x,oS o)->x≠[]->Ok (nT.l0 (k+1) w h c l a b C x N i) (λr=>r≠[]/\r.length<=61/\ ∀o∈r,oS o):=λk a b C x N i hi hx eD ha bI=>by
  rw[nT.l0,ah (by simpa using hi)]
  exact Ok.pure ⟨bI,by omega,ha⟩
 intro n
 induction n with
 |zero=>
  intro k a b C x N i hn hk h0 n1 n2 hx eD ha bI;obtain⟨k,rfl⟩:=bq hk;exact fin k a b C x N i U hx eD ha bI
 |succ n ih=>
  intro k a b C x N i hn hk h0 n1 n2 hx eD ha bI;obtain⟨k,rfl⟩:=bq hk
  by_cases aR:i<l.length/\i<60
  ·rw[nT.l0,af (by simpa using aR),af ⟨h0,aR.1⟩,wi (x:=N-1) U U,wi (x:=i+1) U U]
   obtain⟨p,ep,p0,p1⟩:=yc (n:=(rd l i).A) (lo:=0) (hi:=N-1) U U U;obtain⟨q,eq,q0,q1⟩:=yc (n:=(rd l i).B) (lo:=0) (hi:=N-1) U U U;obtain⟨v,ev,v0,v1⟩:=yc (n:=(rd l i).Kind) (lo:=0) (hi:=15) U U U;obtain⟨s,es,s0,s1⟩:=yc (n:=(rd l i).A) (lo:=0) (hi:=9) U U U;obtain⟨t,et,t0,t1⟩:=yc (n:=(rd l i).B) (lo:=0) (hi:=200) U U U;rw[ep,eq,ev,es,et];simp only[aK];refine Ok.bind (P:=λr:Int×Int×List Int×Int×Int×Int×Int×List Int=>1<=r.2.2.2.1/\r.2.2.2.1<=1600/\oS ⟨r.2.2.2.2.1,r.2.2.2.2.2.1,r.2.2.2.2.2.2.1,r.2.2.2.2.2.2.2⟩) ?_ λr hr=>Ok.ct U (ih k _ _ _ _ _ (i+1) U U U hr.1 hr.2.1 bp U (λo ho=>?_) bh)
   ·have e3:(if(v==0)=true then(some (v==0)) else(if(v==1)=true then(some (v==1)) else(some (v==2))))=some (decide (v=0∨v=1∨v=2)):=by
     by_cases z:v=0
     ·simp[z]
     ·by_cases z':v=1<;>simp[z,z']
      rw[Bool.eq_iff_iff];simp
    refine Ok.eq e3 (Ok.ite (λz=>Ok.pure ⟨n1,n2,by simp,by simp only;omega,by simp only;omega,λ_=>rfl,λz=>by simp at z,λz=>by simp at z,λz=>by simp at z,λz=>by simp at z⟩) λz=>?_)
    refine Ok.ite (λz=>Ok.pure ⟨n1,n2,by simp,by simp only;omega,by simp only;omega,λ_=>rfl,λz=>by simp at z,λz=>by simp at z,λz=>by simp at z,λz=>by simp at z⟩) λz=>?_
    refine Ok.ite (λz=>Ok.pure ⟨n1,n2,by simp,by simp only;omega,by simp,λ_=>rfl,λz=>by simp at z,λ_=>rfl,λz=>by simp at z,λz=>by simp at z⟩) λz=>?_
    have e4:(if(v==5)=true then(some (v==5)) else(some (v==6)))=some (decide (v=5∨v=6)):=by
     by_cases z:v=5<;>simp[z]
     rw[Bool.eq_iff_iff];simp
    refine Ok.eq e4 (Ok.ite (λz=>?_) λz=>?_)
    ·have Uw:=PU (rd l i).B;obtain⟨u,eu,u0,u1⟩:=O1 Uw.1 Uw.2;refine Ok.eq eu (Ok.pure ⟨n1,n2,by simp,by simp only;omega,by simp only;rw[wi U U];omega,λ_=>rfl,λ_=>by simp only;rw[wi U U];omega,λz=>by simp at z,λz=>by simp at z,λz=>by simp at z⟩)
    have e5:(if(v==7)=true then(some (v==7)) else(some (v==8)))=some (decide (v=7∨v=8)):=by
     by_cases z:v=7<;>simp[z]
     rw[Bool.eq_iff_iff];simp
    refine Ok.eq e5 (Ok.ite (λz=>Ok.pure ⟨n1,n2,by simp,by simp only;omega,by simp only;omega,λ_=>rfl,λz=>by simp at z,λz=>by simp at z,λz=>by simp at z,λz=>by simp at z⟩) λz=>?_)
    refine Ok.ite (λz=>Ok.pure ⟨n1,n2,by simp,by simp,by simp,λ_=>rfl,λz=>by simp at z,λz=>by simp at z,λ_=>⟨J,J⟩,λz=>by simp at z⟩) λz=>?_
    refine Ok.ite (λz=>Ok.ite (λz=>?_) λz=>?_) λz=>Ok.ite (λz=>?_) λz=>?_
    ·obtain⟨m,em,hm,m1,m2⟩:=WC (aa (w+(aa (Int.tdiv (rd l i).A 4)))) (aa (h+(rd l i).B)) hc;have:=U_ hm m1 m2;exact Ok.eq em (Ok.eq (WH hm) (Ok.pure ⟨by simp only;omega,by simp only;omega,U9 hm m1 m2⟩))
    ·exact Ok.pure ⟨n1,n2,by simp,by simp only;rw[wi U U];omega,by simp,λ_=>rfl,λz=>by simp at z,λz=>by simp at z,λz=>by simp at z,λz=>by simp at z⟩
    ·exact(aiE (rd l i) n1 n2).bind λo ho=>Ok.pure ⟨n1,n2,ho⟩
    ·exact Ok.pure ⟨n1,n2,by simp,by simp,by simp,λ_=>rfl,λz=>by simp at z,λz=>by simp at z,λ_=>⟨J,J⟩,λz=>by simp at z⟩
   ·rcases List.mem_append.1 ho with z |z
    ·exact ha o z
    ·simp only[List.mem_cons,List.not_mem_nil,or_false] at z;rw[z];exact hr.2.2
  ·exact fin k a b C x N i aR hx eD ha bI
theorem ah_ (w h:Int) {c:List Int} (hc: ∀y∈c,eU y) (l:List sL):Ok (nT.f w h c l) (λr=>r≠[]/\r.length<=61/\ ∀o∈r,oS o):=by
 unfold nT.f;obtain⟨m,em,hm,m1,m2⟩:=WC w h hc;have:=U_ hm m1 m2;refine Ok.eq em (Ok.eq (WH hm) (ah' w h hc l 60 fuel _ _ _ _ _ 0 U (by rw[cO];omega) U U U bh U (λo ho=>?_) bh))
 simp only[List.mem_cons,List.not_mem_nil,or_false] at ho;rw[ho];exact U9 hm m1 m2
end
structure US (u:fb) (most:Int) (L:List aD):Prop where
 Kt:u.most=most
 mb:1<=most/\most<=65536
 next:0<=u.next/\u.next<=1000000
 keys:(u.live.map (·.1)).Nodup
 len:u.live.length=L.length
 has: ∀k,bO u.live k=true-> ∃x∈L,x.Id=k
 val: ∀x∈L,cI u.live x.Id=some x
 ord:u.order.filter (λk=>bO u.live k)=L.map (·.Id)
 a_: ∀k∈u.order,0<=k/\k<u.next
 Hf:(u.order.length:Int)<=u.next
 up:(L.map (·.Id)).Pairwise (· < ·)
def oa (L:List aD) (k:Int):Option aD:=L.find? (λx=>x.Id==k)
def zK (L:List aD) (k:Int):aD×Bool:=match oa L k with
 |some x=>(x,true)
 |none=>(⟨0,0,0⟩,false)
def Bo (L:List aD) (k:Int):Bool:=(oa L k).isSome
def mg (L:List aD) (k:Int):List aD:=L.filter (λx=>x.Id !=k)
def gM (L:List aD) (k:Int) (f:aD->aD):List aD:=L.map (λx=>if x.Id=k then f x else x)
theorem Bn {L:List aD} {k:Int} {x:aD} (h:oa L k=some x):x∈L/\x.Id=k:=
 ⟨List.mem_of_find?_eq_some h,by simpa using List.find?_some h⟩
theorem H_ {L:List aD} {k:Int} (h:oa L k=none): ∀x∈L,x.Id≠k:=by
 intro x hx e;have:=List.find?_eq_none.1 h x hx;simp[e] at this
theorem Cm {L:List aD} (h:(L.map (·.Id)).Pairwise (· < ·)) {x y:aD} (hx:x∈L) (hy:y∈L) (e:x.Id=y.Id):x=y:=by
 obtain⟨i,hi,rfl⟩:=List.mem_iff_getElem.1 hx;obtain⟨j,hj,rfl⟩:=List.mem_iff_getElem.1 hy;have key:=List.pairwise_iff_getElem.1 h;have:i=j:=by
  rcases Nat.lt_trichotomy i j with q |q |q
  ·have:=key i j (by simpa using hi) (by simpa using hj) q
   simp at this;omega
  ·exact q
  ·have:=key j i (by simpa using hj) (by simpa using hi) q
   simp at this;omega
 subst this;rfl
theorem PH {L:List aD} (h:(L.map (·.Id)).Pairwise (· < ·)) {x:aD} (hx:x∈L):oa L x.Id=some x:=by
 cases hf:oa L x.Id with
 |none=>exact absurd J (H_ hf x hx)
 |some y=>
  obtain⟨h1,h2⟩:=Bn hf;rw[Cm h h1 hx h2]
variable {u : fb} {most : Int} {L : List aD}
theorem US.get (h:US u most L) (k:Int):cI u.live k=oa L k:=by
 cases hf:oa L k with
 |some x=>
  obtain⟨h1,h2⟩:=Bn hf;rw[<-h2];exact h.val x h1
 |none=>
  cases hg:cI u.live k with
  |none=>rfl
  |some v=>
   obtain⟨x,hx,e⟩:=h.has k (G7 hg);exact absurd e (H_ hf x hx)
theorem US.eI (h:US u most L):(L.length:Int)<=u.next:=by
 have h1:(L.map (·.Id)).length<=u.order.length:=by rw[<-h.ord];exact List.length_filter_le ..
 have:=h.Hf;simp at h1;omega
theorem agl (most:Int):xV.f most=some (if 1<=most/\most<=65536 then some (fb.mk most 0 [] []) else none):=by
 unfold xV.f
 by_cases h:1<=most/\most<=65536
 ·rw[ah bp,af h]
 ·rw[af bp,ah h]
theorem ago (h:1<=most/\most<=65536):US (fb.mk most 0 [] []) most []:=
 ⟨J,h,by simp,by simp,J,by simp[bO,cI],by simp,by simp,by simp,by simp,by simp⟩
theorem Ys (hb:u.order.length<=1000000): ∀(n k:Nat) (i:Int) (xs:List Int),i+n=u.order.length->0<=i->n<k->(xs.length:Int)<=i->
 lR.l0 k u xs i=some (xs++(u.order.drop i.toNat).filter (λq=>bO u.live q)):=by
 intro n
 induction n with
 |zero=>
  intro k i xs hi h0 hk hx;obtain⟨k,rfl⟩:=bq hk;rw[lR.l0,ah U,List.drop_of_length_le U];simp
 |succ n ih=>
  intro k i xs hi h0 hk hx;obtain⟨k,rfl⟩:=bq hk;rw[lR.l0,af U,af U,wi U U,BW h0 U]
  by_cases hm:bO u.live (rd u.order i)=true
  ·rw[af hm,af U,ih k (i+1) _ U U U bp];simp[hm]
  ·rw[ah hm,ih k (i+1) _ U U U U];simp[hm]
theorem Yr (hb:u.order.length<=1000000):lR.f u=some (u.order.filter (λq=>bO u.live q)):=by
 unfold lR.f;rw[Ys hb u.order.length fuel 0 [] U U (by rw[cO];omega) bh];simp
theorem US.ob (h:US u most L):u.order.length<=1000000:=by have:=h.Hf;have:=h.next;omega
theorem Qj (h:US u most L):lR.f u=some (L.map (·.Id)):=by rw[Yr h.ob,h.ord]
theorem Yu {v:List Int} (hb:v.length<=1000000): ∀(n k:Nat) (i:Int) (xs:List aD),i+n=v.length->0<=i->n<k->(xs.length:Int)<=i->
 oL.l0 k u v xs i=some (xs++(v.drop i.toNat).map (λq=>aQ u.live q)):=by
 intro n
 induction n with
 |zero=>
  intro k i xs hi h0 hk hx;obtain⟨k,rfl⟩:=bq hk;rw[oL.l0,ah U,List.drop_of_length_le U];simp
 |succ n ih=>
  intro k i xs hi h0 hk hx;obtain⟨k,rfl⟩:=bq hk;rw[oL.l0,af U,af U,af U,wi U U,BW h0 U,ih k (i+1) _ U U U bp];simp
theorem Yt (h:US u most L):oL.f u=some L:=by
 unfold oL.f;have hc:=h.eI;have hn:=h.next
 rw[Qj h,aK,Yu bp L.length fuel 0 [] bh U (by rw[cO];omega) bh]
 simp only[List.nil_append,Int.toNat_zero,List.drop_zero,List.map_map]
 congr 1
 conv=>rhs;rw[<-List.map_id L]
 refine List.map_congr_left λx hx=>?_
 simp only[Function.comp,id];exact agb (h.val x hx)
theorem afF (h:US u most L):wu.f u=some (L.length:Int):=by unfold wu.f;rw[h.len]
theorem DS (h:US u most L) (k:Int):oP.f u k=some (zK L k):=by
 unfold oP.f zK;have hg:=h.get k
 cases hf:oa L k with
 |some x=>rw[hf] at hg;simp[aQ,bO,hg]
 |none=>rw[hf] at hg;simp[aQ,bO,hg];exact⟨J,J,J⟩
theorem Ym (h:US u most L) (hn:u.next<1000000) (c g:Int):(most<=L.length->wq.f u c g=some (0,false,u))/\
 ((L.length:Int)<most-> ∃u',wq.f u c g=some (u.next,true,u')/\u'.next=u.next+1/\US u' most (L++[⟨u.next,c,g⟩])):=by
 have hb:=h.next
 have ho:=h.ob;unfold wq.f;rw[h.len,h.Kt];refine⟨λhl=>by rw[af hl],λhl=>?_⟩
 have NA:=h.eI;have gL:cI u.live u.next=none:=by
  rw[h.get]
  cases hf:oa L u.next with
  |none=>rfl
  |some x=>
   obtain⟨h1,h2⟩:=Bn hf;have:x.Id∈u.order.filter (λk=>bO u.live k):=by rw[h.ord];exact List.mem_map.2 ⟨x,h1,J⟩
   have:=h.a_ _ (List.mem_filter.1 this).1;omega
 have T8: ∀k,bO (cE u.live u.next ⟨u.next,c,g⟩) k=(decide (u.next=k)||bO u.live k):=λk=>Ep ..
 refine⟨_,by rw[ah U,af U],by simp only;rw[wi U U],?_⟩
 rw[wi U U];refine⟨J,h.mb,by simp only;omega,CC h.keys _ _,?_,?_,?_,?_,?_,?_,?_⟩
 ·simp only;rw[Vc,ah (by simp[bO,gL]),h.len];simp
 ·intro k hk;rw[T8] at hk;rcases Bool.or_eq_true_iff.1 hk with hk |hk
  ·exact⟨⟨u.next,c,g⟩,by simp,by simpa using hk⟩
  ·obtain⟨x,hx,e⟩:=h.has k hk;exact⟨x,by simp[hx],e⟩
 ·intro x hx;simp only[AX];rcases List.mem_append.1 hx with hx |hx
  ·rw[ah (λe=>by rw[e,h.val x hx] at gL;cases gL)];exact h.val x hx
  ·simp at hx;subst hx;simp
 ·simp only[T8,List.filter_append,List.map_append]
  congr 1
  ·rw[<-h.ord];refine List.filter_congr λk hk=>?_
   have:=h.a_ k hk;have:decide (u.next=k)=false:=by simp;omega
   rw[this];rfl
  ·simp
 ·intro k hk;simp only at hk⊢;rcases List.mem_append.1 hk with hk |hk
  ·have:=h.a_ k hk;omega
  ·simp at hk;omega
 ·have:=h.Hf;simp;omega
 ·rw[List.map_append,List.pairwise_append];refine⟨h.up,by simp,λa ha b jH=>?_⟩
  simp at jH;rw[<-h.ord] at ha;have:=h.a_ a (List.mem_filter.1 ha).1;omega
theorem ajh {f:aD->aD} (hf: ∀x,(f x).Id=x.Id) (k:Int):(gM L k f).map (·.Id)=L.map (·.Id):=by
 unfold gM;rw[List.map_map];refine List.map_congr_left λx _=>?_
 simp only[Function.comp];split
 ·exact hf x
 ·rfl
theorem Xs (h:US u most L) {k:Int} {x:aD} (hx:oa L k=some x) (f:aD->aD) (hf: ∀x,(f x).Id=x.Id):
 US (fb.mk u.most u.next (cE u.live k (f x)) u.order) most (gM L k f):=by
 obtain⟨h1,h2⟩:=Bn hx;have hg:cI u.live k=some x:=by rw[h.get,hx]
 have hh: ∀q,bO (cE u.live k (f x)) q=bO u.live q:=λq=>by
  rw[Ep]
  by_cases e:k=q
  ·subst e;simp[G7 hg]
  ·simp[e]
 have Eb:=ajh (L:=L) hf k;refine⟨h.Kt,h.mb,h.next,CC h.keys _ _,?_,?_,?_,?_,h.a_,h.Hf,by rw[Eb];exact h.up⟩
 ·simp only;rw[Vc,af (G7 hg),h.len];simp[gM]
 ·intro q hq;rw[hh] at hq;obtain⟨y,hy,e⟩:=h.has q hq;have:q∈(gM L k f).map (·.Id):=by rw[Eb];exact List.mem_map.2 ⟨y,hy,e⟩
  obtain⟨z,hz,e⟩:=List.mem_map.1 this;exact⟨z,hz,e⟩
 ·intro y hy;unfold gM at hy;obtain⟨z,hz,rfl⟩:=List.mem_map.1 hy;simp only[AX]
  by_cases e:z.Id=k
  ·rw[af e,hf,e,af J];have:z=x:=Cm h.up hz h1 (e.trans h2.symm);rw[this]
  ·rw[ah e,ah (λq=>e q.symm)];exact h.val z hz
 ·simp only[hh];rw[h.ord,Eb]
theorem Yq (h:US u most L) (k g:Int): ∃u',xW.f u k g=some (Bo L k,u')/\u'.next=u.next/\US u' most (gM L k (λx=>⟨x.Id,x.Cell,g⟩)):=by
 unfold xW.f Bo
 first |unfold xZ.f |unfold x_.f
 rw[DS h];unfold zK
 cases hf:oa L k with
 |some x=>exact⟨_,J,J,Xs h hf (λx=>⟨x.Id,x.Cell,g⟩) (λ_=>rfl)⟩
 |none=>
  refine⟨u,J,J,?_⟩;have:gM L k (λx=>⟨x.Id,x.Cell,g⟩)=L:=by
   unfold gM
   conv=>rhs;rw[<-List.map_id L]
   refine List.map_congr_left λx hx=>?_
   rw[ah (H_ hf x hx)];rfl
  rw[this];exact h
theorem af6 (h:US u most L) (k g:Int): ∃u',xY.f u k g=some (Bo L k,u')/\u'.next=u.next/\US u' most (gM L k (λx=>⟨x.Id,g,x.Goal⟩)):=by
 unfold xY.f Bo
 first |unfold x_.f |unfold xZ.f
 rw[DS h];unfold zK
 cases hf:oa L k with
 |some x=>exact⟨_,J,J,Xs h hf (λx=>⟨x.Id,g,x.Goal⟩) (λ_=>rfl)⟩
 |none=>
  refine⟨u,J,J,?_⟩;have:gM L k (λx=>⟨x.Id,g,x.Goal⟩)=L:=by
   unfold gM
   conv=>rhs;rw[<-List.map_id L]
   refine List.map_congr_left λx hx=>?_
   rw[ah (H_ hf x hx)];rfl
  rw[this];exact h
theorem ajg {k:Int} (hf:oa L k=none):mg L k=L:=by
 unfold mg;rw[List.filter_eq_self];intro x hx;simpa using H_ hf x hx
theorem K8 (h:(L.map (·.Id)).Pairwise (· < ·)) {k:Int} {x:aD} (hx:oa L k=some x):(mg L k).length+1=L.length:=by
 obtain⟨h1,h2⟩:=Bn hx;clear hx
 induction L with
 |nil=>cases h1
 |cons y r ih=>
  rw[List.map_cons,List.pairwise_cons] at h;unfold mg at ih⊢
  by_cases e:y.Id=k
  ·have:r.filter (λz=>z.Id !=k)=r:=by
    rw[List.filter_eq_self];intro z hz;have:=h.1 z.Id (List.mem_map.2 ⟨z,hz,J⟩);simp;omega
   simp[e,this]
  ·have hxr:x∈r:=by
    rcases List.mem_cons.1 h1 with q |q
    ·subst q;exact absurd h2 e
    ·exact q
   have:=ih h.2 hxr;simp[e];omega
theorem abh (h:US u most L) (k:Int): ∃u',xX.f u k=some (Bo L k,u')/\u'.next=u.next/\US u' most (mg L k):=by
 unfold xX.f Bo;rw[DS h];unfold zK
 cases hf:oa L k with
 |none=>rw[ajg hf];exact⟨u,J,J,h⟩
 |some x=>
  obtain⟨h1,h2⟩:=Bn hf;have hg:cI u.live k=some x:=by rw[h.get,hf]
  have hh: ∀q,bO (dU u.live k) q=(!decide (k=q)&&bO u.live q):=λq=>afZ h.keys ..
  have vy:u.order.filter (λq=>bO (dU u.live k) q)=(mg L k).map (·.Id):=by
   simp only[hh];rw[<-List.filter_filter,h.ord];unfold mg;rw[List.filter_map]
   congr 1
   refine List.filter_congr λy _=>?_
   simp only[Function.comp]
   by_cases e:y.Id=k
   ·simp[e]
   ·have: ¬k=y.Id:=λq=>e q.symm
    simp[e,this]
  have xh:US (fb.mk u.most u.next (dU u.live k) u.order) most (mg L k):=by
   refine⟨h.Kt,h.mb,h.next,Kn h.keys _,?_,?_,?_,vy,h.a_,h.Hf,?_⟩
   ·simp only;rw[afU,af (G7 hg),h.len];have:=K8 h.up hf;omega
   ·intro q hq;rw[hh] at hq;simp only[Bool.and_eq_true,Bool.not_eq_true',decide_eq_false_iff_not] at hq;obtain⟨y,hy,e⟩:=h.has q hq.2;exact⟨y,by unfold mg;rw[List.mem_filter];exact⟨hy,by simp;omega⟩,e⟩
   ·intro y hy;unfold mg at hy;rw[List.mem_filter] at hy;have:y.Id≠k:=by simpa using hy.2
    simp only;rw[Kq h.keys,ah (λq=>this q.symm)];exact h.val y hy.1
   ·exact h.up.sublist ((List.filter_sublist).map _)
  have hn:=h.next
  have hob:=h.ob;have hc:=h.eI;have B9:=K8 h.up hf;simp only[aK,Bool.not_true,Bool.false_eq_true,if_false];have NU:((dU u.live k).length:Int)=(mg L k).length:=by have:=xh.len;simp only at this;omega
  split
  ·rw[Qj xh];refine⟨_,J,J,?_⟩;have hl:((mg L k).length:Int)<=u.next:=xh.eI
   refine⟨h.Kt,h.mb,h.next,xh.keys,xh.len,xh.has,xh.val,?_,?_,by simpa using hl,xh.up⟩
   ·simp only;rw[List.filter_eq_self];intro q hq;obtain⟨y,hy,rfl⟩:=List.mem_map.1 hq;exact G7 (xh.val y hy)
   ·intro q hq;simp only at hq⊢;rw[<-vy] at hq;exact h.a_ q (List.mem_filter.1 hq).1
  ·exact⟨_,J,J,xh⟩
def sb (n:Int) (f:fJ):Prop:=(f.words.length:Int)=n/\ ∀c,0<=c->c<n->0<=rd f.words c/\rd f.words c<=4294967295
def mT (n:Int) (f:fJ) (c:Int):Int:=if 0<=c/\c<n then rd f.words c-1 else-1
def rE (n:Int) (f:fJ) (c:Int):Prop:=0<=c/\c<n/\rd f.words c=0
instance (n:Int) (f:fJ) (c:Int):Decidable (rE n f c):=by unfold rE;infer_instance
def iA (f:fJ) (c v k:Int):fJ:=fJ.mk (List.set f.words (Int.toNat c) v) (f.count+k)
theorem abH (n:Int):sH.f n=some (if 1<=n/\n<=1048576 then some (fJ.mk (List.replicate n.toNat 0) 0) else none):=by
 unfold sH.f
 by_cases h:1<=n/\n<=1048576
 ·rw[ah bp,af h,af U]
 ·rw[af bp,ah h]
theorem abI {n:Int} (h:1<=n):sb n (fJ.mk (List.replicate n.toNat 0) 0):=by
 refine⟨by simp;omega,λc c0 c1=>?_⟩
 rw[vR c0 U];omega
variable {n : Int} {f : fJ}
theorem RN (hf:sb n f) (c:Int):yH.f f c=some (decide (0<=c/\c<n)):=by
 unfold yH.f;rw[hf.1]
 by_cases h:0<=c
 ·rw[af U];simp[h]
 ·rw[ah U];simp[h]
theorem RX (hf:sb n f) (c:Int):yG.f f c=some (decide (rE n f c)):=by
 unfold yG.f;rw[RN hf,hf.1]
 by_cases h:0<=c/\c<n
 ·by_cases q:rd f.words c=0
  ·have:rE n f c:=⟨h.1,h.2,q⟩;simp[h,q,this]
  ·have: ¬rE n f c:=λz=>q z.2.2
   simp[h,q,this]
 ·have: ¬rE n f c:=λz=>h ⟨z.1,z.2.1⟩
  simp[h,this]
theorem Lj (hf:sb n f) (c:Int):qD.f f c=some (mT n f c):=by
 unfold qD.f mT;rw[RN hf,hf.1]
 by_cases h:0<=c/\c<n
 ·have:=hf.2 c h.1 h.2;simp only[aK,decide_eq_true h,Bool.not_true,Bool.false_eq_true,if_false,af h];rw[wi (x:=rd f.words c) U U,wi U U]
 ·simp only[aK,decide_eq_false h,Bool.not_false,if_true,ah h]
theorem HK (hf:sb n f) {c v k:Int} (h0:0<=c) (h1:c<n) (v0:0<=v) (v1:v<=4294967295):sb n (iA f c v k):=by
 refine⟨by simp[iA,hf.1],λd d0 d1=>?_⟩
 unfold iA;simp only;rw[ln h0 (by rw[hf.1];exact h1) d0]
 split
 ·exact⟨v0,v1⟩
 ·exact hf.2 d d0 d1
theorem A4 (hf:sb n f) {c v k d:Int} (h0:0<=c) (h1:c<n) (d0:0<=d):rd (iA f c v k).words d=if d=c then v else rd f.words d:=by
 unfold iA;simp only;rw[ln h0 (by rw[hf.1];exact h1) d0]
def DP (n:Int) (f:fJ) (c id:Int):Bool×fJ:=if rE n f c/\0<=id/\id<4294967295 then(true,iA f c (id+1) 1) else(false,f)
def DQ (n:Int) (f:fJ) (c:Int):Int×fJ:=if mT n f c= -1 then(-1,f) else(mT n f c,iA f c 0 (-1))
theorem VQ (hf:sb n f) (hc:0<=f.count/\f.count<=2000000) (c id:Int):sF.f f c id=some (DP n f c id):=by
 unfold sF.f DP;rw[RX hf]
 by_cases h:rE n f c
 ·by_cases h2:0<=id/\id<4294967295
  ·obtain⟨q1,q2,q3⟩:=h;have h:rE n f c:=⟨q1,q2,q3⟩;simp only[aK,decide_eq_true h,Bool.not_true];rw[ah bp,af (by rw[hf.1];omega),af ⟨h,h2⟩,wi (x:=id+1) U U,ajm U U,wi U U]
   rfl
  ·simp only[aK,decide_eq_true h,Bool.not_true];rw[af bp,ah (λq=>h2 q.2)]
 ·simp only[aK,decide_eq_false h,Bool.not_false,Bool.true_or,if_true];rw[ah (λq=>h q.1)]
theorem Xk (hf:sb n f) (hc: -2000000<=f.count/\f.count<=2000000) (c:Int):sG.f f c=some (DQ n f c):=by
 unfold sG.f DQ;rw[Lj hf]
 by_cases h:mT n f c= -1
 ·simp[h]
 ·have ck:0<=c/\c<n:=by
   unfold mT at h
   by_cases q:0<=c/\c<n
   ·exact q
   ·rw[ah q] at h;exact absurd J h
  simp only[aK];rw[af (by simpa using h),af (by rw[hf.1];omega),ah h,wi U U]
  rfl
def Jd (n:Int) (f:fJ) (a b:Int):Bool×fJ:=if mT n f a≠ -1/\rE n f b then(true,iA (iA f a 0 (-1)) b (mT n f a+1) 1) else(false,f)
theorem ajq {c:Int} (h:mT n f c≠ -1):0<=c/\c<n/\mT n f c=rd f.words c-1:=by
 unfold mT at h⊢
 by_cases q:0<=c/\c<n
 ·rw[af q];exact⟨q.1,q.2,J⟩
 ·rw[ah q] at h;exact absurd J h
theorem aiu (hf:sb n f) (hc:1<=f.count/\f.count<=2000000) (a b:Int):wZ.f f a b=some (Jd n f a b):=by
 unfold wZ.f Jd;rw[Lj hf,RX hf]
 by_cases h1:mT n f a= -1
 ·simp[h1]
 ·by_cases h2:rE n f b
  ·obtain⟨a0,a1,a2⟩:=ajq h1;have hr:=hf.2 a a0 a1;have hs:sb n (iA f a 0 (-1)):=HK hf a0 a1 U U;have bI:b≠a:=λe=>by have:=h2.2.2;rw[e] at this;omega
   have h3:rE n (iA f a 0 (-1)) b:=⟨h2.1,h2.2.1,by rw[A4 hf a0 a1 h2.1,ah bI];exact h2.2.2⟩
   have e:DQ n f a=(mT n f a,iA f a 0 (-1)):=by unfold DQ;rw[ah h1]
   have e2:DP n (iA f a 0 (-1)) b (mT n f a)=(true,iA (iA f a 0 (-1)) b (mT n f a+1) 1):=by
    unfold DP;rw[af ⟨h3,by omega,by omega⟩]
   have q1:(mT n f a== -1)=false:=by simpa using h1
   simp only[aK,q1,Bool.false_eq_true,if_false,decide_eq_true h2,Bool.not_true,Xk hf (by omega: -2000000<=f.count/\f.count<=2000000),e]
   rw[VQ hs (by simp[iA];omega),e2,af ⟨h1,h2⟩];rfl
  ·simp[h1,h2]
theorem agE {s:List Int} (hb:s.length<=4611686018427387000): ∀(n k:Nat) (i:Int),i+n=s.length->0<=i->n<k->
 ∃r,qV.l0 k s i=some r/\(r≥0↔ ∃j,i<=j/\j<s.length/\(rd s j<0∨rd s j>5)):=by
 intro n
 induction n with
 |zero=>
  intro k i hi h0 hk;obtain⟨k,rfl⟩:=bq hk;exact⟨-1,by rw[qV.l0,ah U],⟨λq=>by omega,λ⟨j,j0,j1,_⟩=>by omega⟩⟩
 |succ n ih=>
  intro k i hi h0 hk;obtain⟨k,rfl⟩:=bq hk;rw[qV.l0,af U,af U];simp only[En.f,aK]
  by_cases e:rd s i<0∨rd s i>5
  ·rw[af (by simpa using e)]
   exact⟨i,J,⟨λ_=>⟨i,by omega,by omega,e⟩,λ_=>by omega⟩⟩
  ·rw[ah (by simpa using e),wi U U]
   obtain⟨r,r1,r2⟩:=ih k (i+1) U U U;refine⟨r,r1,r2.trans ⟨λ⟨j,j0,j1,j2⟩=>⟨j,by omega,j1,j2⟩,λ⟨j,j0,j1,j2⟩=>?_⟩⟩
   by_cases z:j=i
   ·subst z;exact absurd j2 e
   ·exact⟨j,by omega,j1,j2⟩
theorem agD {s:List Int} (hb:s.length<=4611686018427387000): ∃r,Dd.f s=some r/\(r=true↔ ∃d∈s,d<0∨d>5):=by
 unfold Dd.f qV.f;obtain⟨r,r1,r2⟩:=agE hb s.length fuel 0 U U (by rw[cO];omega)
 rw[r1,aK];refine⟨decide (r≥0),J,?_⟩;rw[decide_eq_true_iff,r2];constructor
 ·rintro⟨j,j0,j1,j2⟩;exact⟨_,dZ j0 j1,j2⟩
 ·rintro⟨d,hd,h⟩;obtain⟨j,j0,j1,rfl⟩:=jT hd;exact⟨j,j0,j1,h⟩
abbrev yi:=List aD×List ff×List Int
def dF (w h:Int) (u:aD) (d:Int):Int:=if 0<=d/\d<=3 then cC w h u.Cell d else-1
def mV (w h:Int) (now:List aD) (u:aD) (d:Int):Prop:=0<=dF w h u d/\ ∀x∈now,x.Cell≠dF w h u d
instance (w h:Int) (now:List aD) (u:aD) (d:Int):Decidable (mV w h now u d):=by unfold mV;infer_instance
def kE (w h:Int) (s:yi) (i:Int) (u:aD) (d:Int):yi:=
 if mV w h s.1 u d then(s.1.set i.toNat ⟨u.Id,if dF w h u d=u.Goal then-1 else dF w h u d,u.Goal⟩,s.2.1++[⟨u.Id,dF w h u d⟩],if dF w h u d=u.Goal then s.2.2++[u.Id] else s.2.2) else s
def dE (w h:Int) (l:List aD) (aF:List Int):Nat->yi
 |0=>(l,[],[])
 |n+1=>kE w h (dE w h l aF n) n (rd l (n:Int)) (rd aF (n:Int))
def e_ (w h:Int) (l:List aD) (aF:List Int):List aD×List ff×List Int:=
 ((dE w h l aF l.length).1.filter (λx=>decide (0<=x.Cell)),(dE w h l aF l.length).2.1,(dE w h l aF l.length).2.2)
structure BA (w h:Int) (l:List aD) (n:Nat) (s:yi):Prop where
 len:s.1.length=l.length
 rest: ∀j:Int,n<=j->j<l.length->rd s.1 j=rd l j
 same: ∀j:Int,0<=j->j<l.length->(rd s.1 j).Id=(rd l j).Id/\(rd s.1 j).Goal=(rd l j).Goal
 cell: ∀j:Int,0<=j->j<l.length->(rd s.1 j).Cell= -1∨bV w h (rd s.1 j).Cell
 apart: ∀i j:Int,0<=i->i<l.length->0<=j->j<l.length->i≠j->0<=(rd s.1 i).Cell->(rd s.1 i).Cell≠(rd s.1 j).Cell
 Ks:s.2.1.length<=n
 ML:s.2.2.length<=n
theorem aiW {w h c d:Int} (hs:0<=cC w h c d):bV w h (cC w h c d):=by
 unfold cC at hs⊢;split
 ·unfold pI at hs⊢;rename_i q;rw[af q] at hs;split
  ·rename_i z;exact⟨z.1,sB z.2.1 z.2.2.1 z.2.2.2.1 z.2.2.2.2⟩
  ·rename_i z;rw[ah z] at hs;omega
 ·rename_i q;rw[ah q] at hs;omega
theorem Sj {w h:Int} {u:aD} {d:Int} (hs:0<=dF w h u d):bV w h (dF w h u d):=by
 unfold dF at hs⊢;split
 ·rename_i q;rw[af q] at hs;exact aiW hs
 ·rename_i q;rw[ah q] at hs;omega
theorem abP {w h:Int} {l:List aD} (hm:fv w h l):BA w h l 0 (l,[],[]):=
 ⟨J,λ_ _ _=>rfl,λ_ _ _=>⟨J,J⟩,λj j0 j1=> .inr (hm.cell j0 j1),λi j i0 i1 j0 j1 rK _=>hm.apart i0 i1 j0 j1 rK,by simp,by simp⟩
theorem R0 {w h:Int} {l:List aD} {n:Nat} {s:yi} (hi:BA w h l n s) (hn:n<l.length) (d:Int):BA w h l (n+1) (kE w h s n (rd l (n:Int)) d):=by
 unfold kE
 by_cases hc:mV w h s.1 (rd l (n:Int)) d
 ·rw[af hc];obtain⟨c1,c2⟩:=hc;have dW:=Sj c1;have hlen:=hi.len;have hr: ∀j:Int,0<=j->rd (s.1.set (n:Int).toNat ⟨(rd l (n:Int)).Id,if dF w h (rd l (n:Int)) d=(rd l (n:Int)).Goal then-1 else dF w h (rd l (n:Int)) d,(rd l (n:Int)).Goal⟩) j=
   if j=n then⟨(rd l (n:Int)).Id,if dF w h (rd l (n:Int)) d=(rd l (n:Int)).Goal then-1 else dF w h (rd l (n:Int)) d,(rd l (n:Int)).Goal⟩ else rd s.1 j:=
   λj j0=>ln U U j0
  generalize dF w h (rd l (n:Int)) d=to at*;have gL: ∀j:Int,0<=j->j<l.length->(rd s.1 j).Cell≠to:=λj j0 j1=>c2 _ (dZ j0 U);refine⟨by simpa using hlen,λj j0 j1=>?_,λj j0 j1=>?_,λj j0 j1=>?_,λi j i0 i1 j0 j1 rK hp=>?_,by simpa using hi.Ks,?_⟩
  ·simp only;rw[hr j U,ah U];exact hi.rest j U j1
  ·simp only;rw[hr j j0]
   by_cases q:j=n
   ·rw[af q,q];exact⟨J,J⟩
   ·rw[ah q];exact hi.same j j0 j1
  ·simp only;rw[hr j j0]
   by_cases q:j=n
   ·rw[af q];simp only;split
    ·exact .inl J
    ·exact .inr dW
   ·rw[ah q];exact hi.cell j j0 j1
  ·simp only at hp⊢;rw[hr i i0] at hp⊢;rw[hr j j0]
   by_cases qi:i=n
   ·rw[af qi] at hp⊢;rw[ah (show ¬j=(n:Int) from λq=>rK U)]
    simp only at hp⊢
    by_cases z:to=(rd l (n:Int)).Goal
    ·rw[af z] at hp;omega
    ·rw[ah z];exact λe=>gL j j0 j1 e.symm
   ·rw[ah qi] at hp⊢
    by_cases qj:j=n
    ·rw[af qj];simp only;split
     ·omega
     ·exact gL i i0 i1
    ·rw[ah qj];exact hi.apart i j i0 i1 j0 j1 rK hp
  ·simp only;have:=hi.ML;split<;>simp<;>omega
 ·rw[ah hc];exact⟨hi.len,λj j0 j1=>hi.rest j U j1,hi.same,hi.cell,hi.apart,by have:=hi.Ks;omega,by have:=hi.ML;omega⟩
theorem yI {w h:Int} {l:List aD} (hm:fv w h l) (aF:List Int): ∀n:Nat,n<=l.length->BA w h l n (dE w h l aF n)
 |0,_=>abP hm
 |n+1,hn=>R0 (yI hm aF n U) U _
def Stood (m:List (Int×Bool)) (now:List aD):Prop:=(m.map (·.1)).Nodup/\ ∀c:Int,0<=c->(aQ m c=true↔ ∃x∈now,x.Cell=c)
def RI (f:mC) (u:aD) (d:Int):Option (Bool×mC×aD):=(mh.f f.w f.h u.Cell d).bind λv2=>(if v2<0 then(some true) else(some (aQ f.j3 v2))).bind λx3=>if x3=true then(some (true,f,u)) else(if(List.length f.kI+1<=1099511627776) then(if(v2==u.Goal)=true then(if(List.length f.gone+1<=1099511627776) then(some (false,(mC.mk f.w f.h (dU f.j3 u.Cell) (f.kI++[(ff.mk u.Id v2)]) (f.gone++[u.Id])),(aD.mk u.Id v2 u.Goal))) else none) else(some (true,(mC.mk f.w f.h (cE (dU f.j3 u.Cell) v2 true) (f.kI++[(ff.mk u.Id v2)]) f.gone),(aD.mk u.Id v2 u.Goal)))) else none)
theorem abN (f:mC) (u:aD) {d:Int} (hd:0<=d/\d<=3):vG.f f u d=RI f u d:=by
 have:d=0∨d=1∨d=2∨d=3:=U;rcases this with rfl |rfl |rfl |rfl<;>rfl
theorem abM {w h:Int} {l:List aD} {n:Nat} {s:yi} (hi:BA w h l n s) (hn:n<l.length) (hl:l.length<=1000000) (hc:bV w h (rd l (n:Int)).Cell) {m:List (Int×Bool)} (gV:Stood m s.1) (d:Int):
 ∃m',vG.f ⟨w,h,m,s.2.1,s.2.2⟩ (rd l (n:Int)) d=some (decide (0<=(rd (kE w h s n (rd l (n:Int)) d).1 (n:Int)).Cell),⟨w,h,m',(kE w h s n (rd l (n:Int)) d).2.1,(kE w h s n (rd l (n:Int)) d).2.2⟩,
  ⟨(rd l (n:Int)).Id,if mV w h s.1 (rd l (n:Int)) d then dF w h (rd l (n:Int)) d else(rd l (n:Int)).Cell,(rd l (n:Int)).Goal⟩)/\Stood m' (kE w h s n (rd l (n:Int)) d).1:=by
 have hlen:=hi.len;have sM:rd s.1 (n:Int)=rd l (n:Int):=hi.rest n U U;have NU:=hi.Ks;have mv:=hi.ML;unfold kE;generalize hu:rd l (n:Int)=u at*;have stay: ¬mV w h s.1 u d->(some (true,mC.mk w h m s.2.1 s.2.2,u):Option (Bool×mC×aD))=
  some (decide (0<=(rd (if mV w h s.1 u d then(s.1.set (n:Int).toNat ⟨u.Id,if dF w h u d=u.Goal then-1 else dF w h u d,u.Goal⟩,s.2.1++[⟨u.Id,dF w h u d⟩],if dF w h u d=u.Goal then s.2.2++[u.Id] else s.2.2) else s).1 (n:Int)).Cell),
   ⟨w,h,m,(if mV w h s.1 u d then(s.1.set (n:Int).toNat ⟨u.Id,if dF w h u d=u.Goal then-1 else dF w h u d,u.Goal⟩,s.2.1++[⟨u.Id,dF w h u d⟩],if dF w h u d=u.Goal then s.2.2++[u.Id] else s.2.2) else s).2.1,(if mV w h s.1 u d then(s.1.set (n:Int).toNat ⟨u.Id,if dF w h u d=u.Goal then-1 else dF w h u d,u.Goal⟩,s.2.1++[⟨u.Id,dF w h u d⟩],if dF w h u d=u.Goal then s.2.2++[u.Id] else s.2.2) else s).2.2⟩,
   ⟨u.Id,if mV w h s.1 u d then dF w h u d else u.Cell,u.Goal⟩):=by
  intro q;rw[ah q,ah q,sM];have:decide (0<=u.Cell)=true:=by simpa using hc.2.1
  rw[this]
 by_cases hd:0<=d/\d<=3
 ·have vC:dF w h u d=cC w h u.Cell d:=by unfold dF;rw[af hd]
  rw[abN _ u hd];unfold RI;simp only[HU,aK];rw[<-vC];have hbl:((if dF w h u d<0 then some true else some (aQ m (dF w h u d))):Option Bool)=some (!decide (mV w h s.1 u d)):=by
   unfold mV
   by_cases q:dF w h u d<0
   ·rw[af q];have:decide (0<=dF w h u d/\ ∀x∈s.1,x.Cell≠dF w h u d)=false:=by
     rw[decide_eq_false_iff_not];intro z;omega
    rw[this];rfl
   ·rw[ah q]
    congr 1
    have h0:=gV.2 (dF w h u d) U
    by_cases z:aQ m (dF w h u d)=true
    ·rw[z];obtain⟨x,hx,e⟩:=h0.1 z;have:decide (0<=dF w h u d/\ ∀x∈s.1,x.Cell≠dF w h u d)=false:=by
      rw[decide_eq_false_iff_not];intro y;exact y.2 x hx e
     rw[this];rfl
    ·have z':aQ m (dF w h u d)=false:=by simpa using z
     rw[z'];have:decide (0<=dF w h u d/\ ∀x∈s.1,x.Cell≠dF w h u d)=true:=by
      rw[decide_eq_true_iff];exact⟨by omega,λx hx e=>z (h0.2 ⟨x,hx,e⟩)⟩
     rw[this];rfl
  rw[hbl];simp only[aK]
  by_cases yM:mV w h s.1 u d
  ·have aeg:=yM;obtain⟨c1,c2⟩:=aeg;rw[ah (by simpa using yM),af U]
   simp only[af yM];have hr: ∀(v:aD) (j:Int),0<=j->rd (s.1.set (n:Int).toNat v) j=if j=n then v else rd s.1 j:=λv j j0=>ln U U j0
   have ajZ:u.Cell≠dF w h u d:=λe=>c2 u (by rw[<-sM];exact dZ U U) e
   have jk: ∀(v:aD) (c:Int),(∃x∈s.1.set (n:Int).toNat v,x.Cell=c)↔v.Cell=c∨ ∃j:Int,0<=j/\j<l.length/\j≠n/\(rd s.1 j).Cell=c:=by
    intro v c;constructor
    ·rintro⟨x,hx,e⟩;obtain⟨j,j0,j1,rfl⟩:=jT hx;rw[hr v j j0] at e;rw[List.length_set] at j1
     by_cases q:j=n
     ·rw[af q] at e;exact .inl e
     ·rw[ah q] at e;exact .inr ⟨j,j0,by omega,q,e⟩
    ·rintro(e |⟨j,j0,j1,j2,e⟩)
     ·refine⟨rd (s.1.set (n:Int).toNat v) (n:Int),dZ U (by rw[List.length_set];omega),?_⟩
      rw[hr v n U,af J];exact e
     ·refine⟨rd (s.1.set (n:Int).toNat v) j,dZ j0 (by rw[List.length_set];omega),?_⟩
      rw[hr v j j0,ah j2];exact e
   have hold: ∀c:Int,0<=c->(aQ m c=true↔u.Cell=c∨ ∃j:Int,0<=j/\j<l.length/\j≠n/\(rd s.1 j).Cell=c):=by
    intro c c0;rw[gV.2 c c0];constructor
    ·rintro⟨x,hx,e⟩;obtain⟨j,j0,j1,rfl⟩:=jT hx
     by_cases q:j=n
     ·subst q;rw[sM] at e;exact .inl e
     ·exact .inr ⟨j,j0,by omega,q,e⟩
    ·rintro(e |⟨j,j0,j1,j2,e⟩)
     ·exact⟨rd s.1 (n:Int),dZ U U,by rw[sM];exact e⟩
     ·exact⟨rd s.1 j,dZ j0 U,e⟩
   have SF: ∀j:Int,0<=j->j<l.length->j≠n->(rd s.1 j).Cell≠u.Cell:=by
    intro j j0 j1 j2 e;have:=hi.apart n j U U j0 j1 (λz=>j2 z.symm) (by rw[sM];exact hc.2.1)
    rw[sM] at this;exact this e.symm
   by_cases hg:dF w h u d=u.Goal
   ·rw[af (by simpa using hg),af U]
    refine⟨dU m u.Cell,?_,Kn gV.1 _,λc c0=>?_⟩
    ·simp only[af hg];rw[hr _ n U,af J];simp
    ·rw[Vd gV.1,af hg,jk];simp only
     by_cases q:u.Cell=c
     ·rw[af q];constructor
      ·intro z;cases z
      ·rintro(z |⟨j,j0,j1,j2,e⟩)
       ·omega
       ·exact absurd (e.trans q.symm) (SF j j0 j1 j2)
     ·rw[ah q,hold c c0];constructor
      ·rintro(z |z)
       ·exact absurd z q
       ·exact .inr z
      ·rintro(z |z)
       ·omega
       ·exact .inr z
   ·rw[ah (by simpa using hg)]
    refine⟨cE (dU m u.Cell) (dF w h u d) true,?_,CC (Kn gV.1 _) _ _,λc c0=>?_⟩
    ·simp only[ah hg];rw[hr _ n U,af J];simp[c1]
    ·rw[um,Vd gV.1,ah hg,jk];simp only
     by_cases z:dF w h u d=c
     ·rw[af z];exact⟨λ_=> .inl z,λ_=>rfl⟩
     ·rw[ah z]
      by_cases q:u.Cell=c
      ·rw[af q];constructor
       ·intro y;cases y
       ·rintro(y |⟨j,j0,j1,j2,e⟩)
        ·exact absurd y z
        ·exact absurd (e.trans q.symm) (SF j j0 j1 j2)
      ·rw[ah q,hold c c0];constructor
       ·rintro(y |y)
        ·exact absurd y q
        ·exact .inr y
       ·rintro(y |y)
        ·exact absurd y z
        ·exact .inr y
  ·rw[af (by simpa using yM)]
   refine⟨m,stay yM,?_⟩;rw[ah yM];exact gV
 ·have yM: ¬mV w h s.1 u d:=by
   unfold mV dF;rw[ah hd];intro q;omega
  unfold vG.f;rw[ah bp,ah bp,ah bp,ah bp];refine⟨m,stay yM,?_⟩;rw[ah yM];exact gV
theorem ai3 {w h:Int} {l:List aD} {aF:List Int} (hb:l.length<=1000000): ∀(n k:Nat) (i:Int) (m:List (Int×Bool)),i+n=l.length->0<=i->n<k->
 (m.map (·.1)).Nodup->(∀c,aQ m c=true↔ ∃q,0<=q/\q<i/\(rd l q).Cell=c)->
 ∃m',jK.l0 k w h l aF m i=jK.l1 fuel w h l aF [] w h m' [] [] 0/\Stood m' l:=by
 intro n
 induction n with
 |zero=>
  intro k i m hi h0 hk hn hm;obtain⟨k,rfl⟩:=bq hk;refine⟨m,by rw[jK.l0,ah U],hn,λc _=>?_⟩
  rw[hm c];constructor
  ·rintro⟨q,q0,q1,e⟩;exact⟨_,dZ q0 U,e⟩
  ·rintro⟨x,hx,e⟩;obtain⟨q,q0,q1,rfl⟩:=jT hx;exact⟨q,q0,by omega,e⟩
 |succ n ih=>
  intro k i m hi h0 hk hn hm;obtain⟨k,rfl⟩:=bq hk;rw[jK.l0,af U,af U,wi U U];refine ih k (i+1) _ U U U (CC hn _ _) (λc=>?_);rw[um]
  by_cases e:(rd l i).Cell=c
  ·rw[af e];exact⟨λ_=>⟨i,h0,by omega,e⟩,λ_=>rfl⟩
  ·rw[ah e,hm c];constructor
   ·rintro⟨q,q0,q1,q2⟩;exact⟨q,q0,by omega,q2⟩
   ·rintro⟨q,q0,q1,q2⟩
    by_cases z:q=i
    ·subst z;exact absurd q2 e
    ·exact⟨q,q0,by omega,q2⟩
def p8 (s:yi) (n:Nat):List aD:=(s.1.take n).filter (λx=>decide (0<=x.Cell))
theorem Sh {w h:Int} {l:List aD} {n:Nat} {s:yi} (hi:BA w h l n s) (hn:n<l.length) (d:Int):
 rd (kE w h s n (rd l (n:Int)) d).1 (n:Int)=⟨(rd l (n:Int)).Id,if mV w h s.1 (rd l (n:Int)) d then(if dF w h (rd l (n:Int)) d=(rd l (n:Int)).Goal then-1 else dF w h (rd l (n:Int)) d) else(rd l (n:Int)).Cell,(rd l (n:Int)).Goal⟩:=by
 have hlen:=hi.len;unfold kE
 by_cases hc:mV w h s.1 (rd l (n:Int)) d
 ·rw[af hc,af hc];rw[ln U U U,af J]
 ·rw[ah hc,ah hc,hi.rest n U U]
theorem RZ {w h:Int} {l:List aD} {n:Nat} {s:yi} (hi:BA w h l n s) (hn:n<l.length) (d:Int):
 p8 (kE w h s n (rd l (n:Int)) d) (n+1)=p8 s n++(if 0<=(rd (kE w h s n (rd l (n:Int)) d).1 (n:Int)).Cell then[rd (kE w h s n (rd l (n:Int)) d).1 (n:Int)] else[]):=by
 have rJ:=R0 hi hn d;have qF:=rJ.len;have ht:(kE w h s n (rd l (n:Int)) d).1.take n=s.1.take n:=by
  unfold kE;split
  ·simp only;rw[show(n:Int).toNat=n by simp,List.take_set_of_le (Nat.le_refl _)]
  ·rfl
 unfold p8;have aR:n<(kE w h s n (rd l (n:Int)) d).1.length:=U;rw[List.take_add_one,ht,List.getElem?_eq_getElem aR,List.filter_append,EC aR]
 congr 1
 simp only[Option.toList_some,List.filter_cons,List.filter_nil,decide_eq_true_eq]
theorem ab4 {w h:Int} {l:List aD} {aF:List Int} (hm:fv w h l) (hb:l.length<=1000000) (hd:aF.length=l.length): ∀(m k:Nat) (n:Nat) (st:List (Int×Bool)),n+m=l.length->m<k->Stood st (dE w h l aF n).1->
 jK.l1 k w h l aF (p8 (dE w h l aF n) n) w h st (dE w h l aF n).2.1 (dE w h l aF n).2.2 (n:Int)=some ((e_ w h l aF).1,(e_ w h l aF).2.1,(e_ w h l aF).2.2,0):=by
 intro m
 induction m with
 |zero=>
  intro k n st hn hk gV;obtain⟨k,rfl⟩:=bq hk;have hi:=yI hm aF n U;rw[jK.l1,ah U];have:n=l.length:=U;subst this;unfold e_ p8;rw[List.take_of_length_le (by rw[hi.len];omega)]
 |succ m ih=>
  intro k n st hn hk gV;obtain⟨k,rfl⟩:=bq hk;have hi:=yI hm aF n U;have aR:n<l.length:=U;rw[jK.l1,af U,af U,af U];obtain⟨st',e1,e2⟩:=abM hi aR hb (hm.cell U U) gV (rd aF (n:Int));have sK:=Sh hi aR (rd aF (n:Int));have F7:=RZ hi aR (rd aF (n:Int));have ajU:(p8 (dE w h l aF n) n).length<=n:=by
   unfold p8;refine Nat.le_trans (List.length_filter_le ..) bp
  simp only[e1,aK];rw[wi U U];have Gr:(n:Int)+1=((n+1:Nat):Int):=U;have Gj:kE w h (dE w h l aF n) n (rd l (n:Int)) (rd aF (n:Int))=dE w h l aF (n+1):=rfl;rw[Gj] at F7 sK e2;have:=ih k (n+1) st' U U e2
  by_cases hp:0<=(rd (dE w h l aF (n+1)).1 (n:Int)).Cell
  ·rw[af (by rw[Gj];simpa using hp),af U]
   rw[af hp] at F7;rw[Gr,<-this,F7,Gj];have hu:(⟨(rd l (n:Int)).Id,if mV w h (dE w h l aF n).1 (rd l (n:Int)) (rd aF (n:Int)) then dF w h (rd l (n:Int)) (rd aF (n:Int)) else(rd l (n:Int)).Cell,(rd l (n:Int)).Goal⟩:aD)=rd (dE w h l aF (n+1)).1 (n:Int):=by
    rw[sK] at hp⊢;simp only at hp⊢
    by_cases hc:mV w h (dE w h l aF n).1 (rd l (n:Int)) (rd aF (n:Int))
    ·rw[af hc] at hp⊢;rw[af hc]
     by_cases hg:dF w h (rd l (n:Int)) (rd aF (n:Int))=(rd l (n:Int)).Goal
     ·rw[af hg] at hp;omega
     ·rw[ah hg]
    ·rw[ah hc,ah hc]
   rw[hu]
  ·rw[ah (by rw[Gj];simpa using hp)]
   rw[ah hp,List.append_nil] at F7;rw[Gr,<-this,F7,Gj]
def Lm (aF:List Int) (n:Nat):Prop:=aF.length=n/\ ∀d∈aF,0<=d/\d<=5
theorem go_ok {w h:Int} {l:List aD} {aF:List Int} (hm:fv w h l) (hb:l.length<=1000000) (hd:Lm aF l.length):
 jK.f w h l aF=some ((e_ w h l aF).1,(e_ w h l aF).2.1,(e_ w h l aF).2.2,0):=by
 unfold jK.f;obtain⟨r,r1,r2⟩:=OR (w:=w) (h:=h) (l:=l) U;obtain⟨o,o1,o2⟩:=agD (s:=aF) (by have:=hd.1;omega)
 have ho:o=false:=by
  rw[Bool.eq_false_iff];intro q;obtain⟨d,TR,hx⟩:=o2.1 q;have:=hd.2 d TR;omega
 rw[r1,aK,r2.2 hm,o1,ho];rw[ah (by simp[hd.1])]
 simp only[aK,Bool.false_eq_true,if_false];obtain⟨m',e1,e2⟩:=ai3 (w:=w) (h:=h) (l:=l) (aF:=aF) hb l.length fuel 0 [] U U (by rw[cO];omega) bh (λc=>by
  constructor
  ·intro q;simp[aQ,cI] at q
  ·rintro⟨q,q0,q1,_⟩;omega)
 rw[e1];exact ab4 hm hb hd.1 l.length fuel 0 m' U (by rw[cO];omega) e2
section
variable {w h : Int} {l : List aD} {aF : List Int}
abbrev sT (w h:Int) (l:List aD) (aF:List Int) (n:Nat):Prop:=mV w h (dE w h l aF n).1 (rd l (n:Int)) (rd aF (n:Int))
abbrev lM (w h:Int) (l:List aD) (aF:List Int) (n:Nat):Int:=dF w h (rd l (n:Int)) (rd aF (n:Int))
def Es (w h:Int) (l:List aD) (aF:List Int) (n:Nat):Int:=if sT w h l aF n then(if lM w h l aF n=(rd l (n:Int)).Goal then-1 else lM w h l aF n) else(rd l (n:Int)).Cell
theorem Oy (n:Nat):(dE w h l aF (n+1)).2.1=(dE w h l aF n).2.1++(if sT w h l aF n then[⟨(rd l (n:Int)).Id,lM w h l aF n⟩] else[]):=by
 show(kE w h (dE w h l aF n) n (rd l (n:Int)) (rd aF (n:Int))).2.1=_
 unfold kE
 by_cases hc:sT w h l aF n
 ·rw[af hc,af hc]
 ·rw[ah hc,ah hc,List.append_nil]
theorem Sd (n:Nat):(dE w h l aF (n+1)).2.2=(dE w h l aF n).2.2++(if sT w h l aF n/\lM w h l aF n=(rd l (n:Int)).Goal then[(rd l (n:Int)).Id] else[]):=by
 show(kE w h (dE w h l aF n) n (rd l (n:Int)) (rd aF (n:Int))).2.2=_
 unfold kE
 by_cases hc:sT w h l aF n
 ·rw[af hc];simp only
  by_cases hg:lM w h l aF n=(rd l (n:Int)).Goal
  ·rw[af hg,af ⟨hc,hg⟩]
  ·rw[ah hg,ah (λq=>hg q.2),List.append_nil]
 ·rw[ah hc,ah (λq=>hc q.1),List.append_nil]
theorem Zq (hm:fv w h l) {n:Nat} (hn:n<l.length):rd (dE w h l aF (n+1)).1 (n:Int)=⟨(rd l (n:Int)).Id,Es w h l aF n,(rd l (n:Int)).Goal⟩:=
 Sh (yI hm aF n U) hn _
theorem LK (hm:fv w h l) {n:Nat} (hn:n<l.length):p8 (dE w h l aF (n+1)) (n+1)=p8 (dE w h l aF n) n++(if 0<=Es w h l aF n then[⟨(rd l (n:Int)).Id,Es w h l aF n,(rd l (n:Int)).Goal⟩] else[]):=by
 have:=RZ (yI hm aF n U) hn (rd aF (n:Int));have e:kE w h (dE w h l aF n) n (rd l (n:Int)) (rd aF (n:Int))=dE w h l aF (n+1):=rfl;rw[e,Zq hm hn] at this;exact this
theorem ai7 (hm:fv w h l): ∀(d n:Nat),n+d=l.length-> ∃A M G,(e_ w h l aF).1=p8 (dE w h l aF n) n++A/\(e_ w h l aF).2.1=(dE w h l aF n).2.1++M/\(e_ w h l aF).2.2=(dE w h l aF n).2.2++G/\
 (∀m∈M,∃j:Int,n<=j/\j<l.length/\m.Id=(rd l j).Id)/\(∀g∈G,∃j:Int,n<=j/\j<l.length/\g=(rd l j).Id):=by
 intro d
 induction d with
 |zero=>
  intro n hn;have:n=l.length:=U;subst this;have hi:=yI hm aF l.length (Nat.le_refl _);refine⟨[],[],[],?_,by simp[e_],by simp[e_],by simp,by simp⟩
  unfold e_ p8;rw[List.take_of_length_le (by rw[hi.len];omega),List.append_nil]
 |succ d ih=>
  intro n hn;obtain⟨A,M,G,h1,h2,h3,h4,h5⟩:=ih (n+1) U;rw[LK hm U,List.append_assoc] at h1;rw[Oy,List.append_assoc] at h2;rw[Sd,List.append_assoc] at h3;refine⟨_,_,_,h1,h2,h3,λm NV=>?_,λg hg=>?_⟩
  ·rcases List.mem_append.1 NV with q |q
   ·split at q
    ·simp at q;subst q;exact⟨n,by omega,by omega,rfl⟩
    ·cases q
   ·obtain⟨j,j0,j1,e⟩:=h4 m q;exact⟨j,by omega,j1,e⟩
  ·rcases List.mem_append.1 hg with q |q
   ·split at q
    ·simp at q;subst q;exact⟨n,by omega,by omega,rfl⟩
    ·cases q
   ·obtain⟨j,j0,j1,e⟩:=h5 g q;exact⟨j,by omega,j1,e⟩
theorem parts (hm:fv w h l) {n:Nat} (hn:n<l.length): ∃A M G,(e_ w h l aF).1=p8 (dE w h l aF n) n++((if 0<=Es w h l aF n then[⟨(rd l (n:Int)).Id,Es w h l aF n,(rd l (n:Int)).Goal⟩] else[])++A)/\
 (e_ w h l aF).2.1=(dE w h l aF n).2.1++((if sT w h l aF n then[⟨(rd l (n:Int)).Id,lM w h l aF n⟩] else[])++M)/\
 (e_ w h l aF).2.2=(dE w h l aF n).2.2++((if sT w h l aF n/\lM w h l aF n=(rd l (n:Int)).Goal then[(rd l (n:Int)).Id] else[])++G)/\
 (∀m∈M,(rd l (n:Int)).Id<m.Id)/\(∀g∈G,(rd l (n:Int)).Id<g):=by
 obtain⟨A,M,G,h1,h2,h3,h4,h5⟩:=ai7 (aF:=aF) hm (l.length-(n+1)) (n+1) U;rw[LK hm U,List.append_assoc] at h1;rw[Oy,List.append_assoc] at h2;rw[Sd,List.append_assoc] at h3;refine⟨A,M,G,h1,h2,h3,λm NV=>?_,λg hg=>?_⟩
 ·obtain⟨j,j0,j1,e⟩:=h4 m NV;rw[e];exact hm.Cn U U j1
 ·obtain⟨j,j0,j1,e⟩:=h5 g hg;rw[e];exact hm.Cn U U j1
theorem af7 (hm:fv w h l) {n:Nat} (hn:n<l.length):((dE w h l aF n).2.1.length<(e_ w h l aF).2.1.length/\(rd (e_ w h l aF).2.1 ((dE w h l aF n).2.1.length:Int)).Id=(rd l (n:Int)).Id↔sT w h l aF n)/\
 (sT w h l aF n->rd (e_ w h l aF).2.1 ((dE w h l aF n).2.1.length:Int)=⟨(rd l (n:Int)).Id,lM w h l aF n⟩):=by
 obtain⟨A,M,G,_,h2,_,h4,_⟩:=parts (aF:=aF) hm hn;rw[h2]
 by_cases hc:sT w h l aF n
 ·rw[af hc];have e:rd ((dE w h l aF n).2.1++([⟨(rd l (n:Int)).Id,lM w h l aF n⟩]++M)) ((dE w h l aF n).2.1.length:Int)=⟨(rd l (n:Int)).Id,lM w h l aF n⟩:=by
   rw[na U,Int.sub_self];rfl
  rw[e];exact⟨⟨λ_=>hc,λ_=>⟨by simp,J⟩⟩,λ_=>rfl⟩
 ·rw[ah hc,List.nil_append];refine⟨⟨λq=>?_,λq=>absurd q hc⟩,λq=>absurd q hc⟩
  obtain⟨q1,q2⟩:=q;rw[List.length_append] at q1;rw[na U,Int.sub_self] at q2;have:=h4 _ (dZ (a:=M) (i:=0) U U);omega
end
structure FS (f:fJ) (n:Int) (L:List aD):Prop where
 fl:sb n f
 eI:f.count=L.length
 at_: ∀x∈L,0<=x.Cell/\x.Cell<n/\rd f.words x.Cell=x.Id+1
 only: ∀c,0<=c->c<n->rd f.words c≠0-> ∃x∈L,x.Cell=c
structure CS (c:eA) (w h most:Int) (L:List aD):Prop where
 w_:c.w=w
 h_:c.h=h
 m_:c.most=most
 may:iE w h
 us:US c.cP most L
 fl:FS c.floor (w*h) L
 ok: ∀x∈L,bV w h x.Cell/\bV w h x.Goal/\x.Cell≠x.Goal
 kD:(L.length:Int)<=most
def pd (L:List aD) (c:Int):Int:=match L.find? (λx=>x.Cell==c) with
 |some x=>x.Id
 |none=> -1
variable {c : eA} {w h most : Int} {L : List aD}
theorem US.GH {u:fb} (hu:US u most L) {x:aD} (hx:x∈L):0<=x.Id/\x.Id<u.next:=by
 have:x.Id∈u.order.filter (λk=>bO u.live k):=by rw[hu.ord];exact List.mem_map.2 ⟨x,hx,J⟩
 exact hu.a_ _ (List.mem_filter.1 this).1
theorem CS.inj (hc:CS c w h most L) {x y:aD} (hx:x∈L) (hy:y∈L) (e:x.Cell=y.Cell):x=y:=by
 have h1:=(hc.fl.at_ x hx).2.2;have h2:=(hc.fl.at_ y hy).2.2;rw[e] at h1;exact Cm hc.us.up hx hy U
theorem FM (hc:CS c w h most L) {x:aD} (hx:x∈L):pd L x.Cell=x.Id:=by
 unfold pd
 cases hf:L.find? (λy=>y.Cell==x.Cell) with
 |none=>have:=List.find?_eq_none.1 hf x hx;simp at this
 |some y=>
  have h1:=List.mem_of_find?_eq_some hf;have h2:y.Cell=x.Cell:=by simpa using List.find?_some hf
  simp only;rw[hc.inj h1 hx h2]
theorem L_ {cell:Int} (h0: ∀x∈L,x.Cell≠cell):pd L cell= -1:=by
 unfold pd
 cases hf:L.find? (λy=>y.Cell==cell) with
 |none=>rfl
 |some y=>
  have h1:=List.mem_of_find?_eq_some hf;have h2:y.Cell=cell:=by simpa using List.find?_some hf
  exact absurd h2 (h0 y h1)
theorem aaj (hc:CS c w h most L) {cell:Int}:pd L cell= -1↔ ∀x∈L,x.Cell≠cell:=by
 constructor
 ·intro q x hx e;rw[<-e,FM hc hx] at q;have:=(hc.us.GH hx).1;omega
 ·exact L_
theorem Li (hc:CS c w h most L) (cell:Int):mT (w*h) c.floor cell=pd L cell:=by
 unfold mT
 by_cases q:0<=cell/\cell<w*h
 ·rw[af q]
  by_cases z: ∃x∈L,x.Cell=cell
  ·obtain⟨x,hx,rfl⟩:=z;rw[FM hc hx,(hc.fl.at_ x hx).2.2];omega
  ·have hn: ∀x∈L,x.Cell≠cell:=λx hx e=>z ⟨x,hx,e⟩
   rw[L_ hn];have:rd c.floor.words cell=0:=Classical.byContradiction λy=>z (hc.fl.only cell q.1 q.2 y);omega
 ·rw[ah q,L_];intro x hx e;have:=hc.fl.at_ x hx;exact q ⟨by omega,by omega⟩
theorem aa3 (hc:CS c w h most L) (cell:Int):Ap.f c cell=some (pd L cell):=by
 unfold Ap.f;rw[Lj hc.fl.fl,Li hc];rfl
theorem Mn (hc:CS c w h most L):ph.f c=some L:=by
 unfold ph.f;rw[Yt hc.us];rfl
theorem Me (hc:CS c w h most L) (cell:Int):u_.f c cell=some (decide (bV w h cell)):=by
 unfold u_.f;rw[hc.w_,hc.h_,tr,aK]
 congr 1
 by_cases q:bV w h cell
 ·rw[decide_eq_true q,decide_eq_true_iff];have: ¬aX w h cell<0:=λz=>zF.1 z q
  omega
 ·rw[decide_eq_false q,decide_eq_false_iff_not];have:=zF.2 q;omega
theorem aaJ (w h most:Int): ∃r,vb.f w h most=some r/\(r.isSome=true↔iE w h/\1<=most/\most<=65536)/\ ∀c,r=some c->CS c w h most []/\c.cP.next=0:=by
 unfold vb.f;rw[AW,aK]
 by_cases q:iE w h/\1<=most/\most<=65536
 ·obtain⟨q1,q2,q3⟩:=q;have hp:=xt q1;rw[ah (by rw[decide_eq_true q1];simp;omega),agl,af ⟨q2,q3⟩,aK,wi U U]
  simp only[du,abH];rw[af hp];refine⟨_,J,⟨λ_=>⟨q1,q2,q3⟩,λ_=>rfl⟩,λc e=>?_⟩
  simp only[Option.some.injEq] at e;subst e;refine⟨⟨J,J,J,q1,ago ⟨q2,q3⟩,⟨abI hp.1,J,by simp,λd d0 d1 hd=>?_⟩,by simp,by simp;omega⟩,J⟩
  exact absurd (vR d0 U) hd
 ·refine⟨none,?_,⟨λz=>by simp at z,λz=>absurd z q⟩,λc e=>by cases e⟩
  rw[af]
  by_cases z:iE w h
  ·rw[decide_eq_true z];simp;omega
  ·rw[decide_eq_false z];simp
theorem CS.next (hc:CS c w h most L):0<=c.cP.next/\c.cP.next<=1000000:=hc.us.next
theorem abK {f:fJ} {n:Int} (hf:FS f n L) {x:aD} (h0:0<=x.Cell) (h1:x.Cell<n) (gL: ∀y∈L,y.Cell≠x.Cell) (i0:0<=x.Id) (i1:x.Id<4294967295):FS (iA f x.Cell (x.Id+1) 1) n (L++[x]):=by
 refine⟨HK hf.fl h0 h1 U U,by simp[iA,hf.eI],λy hy=>?_,λd d0 d1 hd=>?_⟩
 ·rcases List.mem_append.1 hy with q |q
  ·obtain⟨a,b,e⟩:=hf.at_ y q;refine⟨a,b,?_⟩;rw[A4 hf.fl h0 h1 a,ah (gL y q)];exact e
  ·simp at q;subst q;exact⟨h0,h1,by rw[A4 hf.fl h0 h1 h0,af J]⟩
 ·rw[A4 hf.fl h0 h1 d0] at hd
  by_cases q:d=x.Cell
  ·exact⟨x,by simp,q.symm⟩
  ·rw[ah q] at hd;obtain⟨y,hy,e⟩:=hf.only d d0 d1 hd;exact⟨y,by simp[hy],e⟩
theorem abO {f:fJ} {n:Int} (hf:FS f n L) (GC:(L.map (·.Id)).Pairwise (· < ·)) {x:aD} (hx:x∈L):FS (iA f x.Cell 0 (-1)) n (mg L x.Id):=by
 obtain⟨h0,h1,h2⟩:=hf.at_ x hx;have hl:=K8 GC (PH GC hx);refine⟨HK hf.fl h0 h1 U U,by simp[iA,hf.eI];omega,λy hy=>?_,λd d0 d1 hd=>?_⟩
 ·unfold mg at hy;obtain⟨q1,q2⟩:=List.mem_filter.1 hy;have bI:y.Id≠x.Id:=by simpa using q2
  obtain⟨a,b,e⟩:=hf.at_ y q1;refine⟨a,b,?_⟩;rw[A4 hf.fl h0 h1 a,ah]
  ·exact e
  ·intro z;rw[z,h2] at e;omega
 ·rw[A4 hf.fl h0 h1 d0] at hd
  by_cases q:d=x.Cell
  ·rw[af q] at hd;exact absurd J hd
  ·rw[ah q] at hd;obtain⟨y,hy,e⟩:=hf.only d d0 d1 hd;refine⟨y,?_,e⟩;unfold mg;rw[List.mem_filter];refine⟨hy,?_⟩;have:y.Id≠x.Id:=λz=>q (by rw[<-e,Cm GC hy hx z])
   simpa using this
theorem Mq {k:Int} {x:aD} (hx:x∈mg L k):x∈L:=(List.mem_filter.1 hx).1
theorem Md (hc:CS c w h most L) {x:aD} (hx:x∈L): ∃c',pY.f c x=some c'/\CS c' w h most (mg L x.Id)/\c'.cP.next=c.cP.next:=by
 unfold pY.f;obtain⟨u',e1,e2,e3⟩:=abh hc.us x.Id;have mw:=hc.us.GH hx;have hw:mT (w*h) c.floor x.Cell=x.Id:=by rw[Li hc,FM hc hx]
 have jI:=hc.us.eI;have Gr:=hc.next
 have NA:=hc.fl.eI;have et:DQ (w*h) c.floor x.Cell=(x.Id,iA c.floor x.Cell 0 (-1)):=by unfold DQ;rw[hw,ah U]
 rw[e1,aK,Xk hc.fl.fl U,et];refine⟨_,J,⟨hc.w_,hc.h_,hc.m_,hc.may,e3,abO hc.fl hc.us.up hx,λy hy=>hc.ok y (Mq hy),?_⟩,e2⟩;have:=K8 hc.us.up (PH hc.us.up hx);have:=hc.kD;omega
def ny (w h most:Int) (L:List aD) (next cell goal:Int):Int×Int×List aD:=
 if ¬bV w h cell∨ ¬bV w h goal then(-1,7,L) else if pd L cell≠ -1 then(-1,10,L) else if most<=L.length then(-1,11,L) else if cell=goal then(-1,13,L) else(next,0,L++[⟨next,cell,goal⟩])
theorem ajz (hc:CS c w h most L) (cell goal:Int):va.f c 3 cell goal=some (if cell=goal then 13 else 0):=by
 unfold va.f;rw[ah bh,ah bh,ah bh,af bh]
 by_cases q:cell=goal
 ·rw[af (by simpa using q),af q]
 ·rw[ah (by simpa using q),ah q]
theorem Rn {next cell goal:Int} (a: ¬bV w h cell∨ ¬bV w h goal):ny w h most L next cell goal=(-1,7,L):=by unfold ny;rw[af a]
theorem aaX {next cell goal:Int} (a:bV w h cell) (b:bV w h goal) (d:pd L cell≠ -1):ny w h most L next cell goal=(-1,10,L):=by
 unfold ny;rw[ah (λq=>q.elim (λz=>z a) (λz=>z b)),af d]
theorem aaY {next cell goal:Int} (a:bV w h cell) (b:bV w h goal) (d:pd L cell= -1) (e:most<=L.length):ny w h most L next cell goal=(-1,11,L):=by
 unfold ny;rw[ah (λq=>q.elim (λz=>z a) (λz=>z b)),ah (λq=>q d),af e]
theorem aaZ {next cell goal:Int} (a:bV w h cell) (b:bV w h goal) (d:pd L cell= -1) (e: ¬most<=L.length) (g:cell=goal):ny w h most L next cell goal=(-1,13,L):=by
 unfold ny;rw[ah (λq=>q.elim (λz=>z a) (λz=>z b)),ah (λq=>q d),ah e,af g]
theorem aa0 {next cell goal:Int} (a:bV w h cell) (b:bV w h goal) (d:pd L cell= -1) (e: ¬most<=L.length) (g: ¬cell=goal):ny w h most L next cell goal=(next,0,L++[⟨next,cell,goal⟩]):=by
 unfold ny;rw[ah (λq=>q.elim (λz=>z a) (λz=>z b)),ah (λq=>q d),ah e,ah g]
theorem ajy (hc:CS c w h most L) (cell goal next:Int):va.f c 0 cell goal=some (ny w h most L next cell goal).2.1:=by
 unfold va.f;rw[af bh,Me hc,Me hc];simp only[aK,Lj hc.fl.fl,Li hc,afF hc.us,hc.m_]
 by_cases a:bV w h cell
 ·by_cases b:bV w h goal
  ·simp only[decide_eq_true a,decide_eq_true b,Bool.not_true,aK,Bool.false_eq_true,if_false]
   by_cases d:pd L cell= -1
   ·rw[ah (by simpa using d)]
    by_cases e:most<=(L.length:Int)
    ·rw[af U,aaY a b d e]
    ·rw[ah U]
     by_cases g:cell=goal
     ·rw[af (by simpa using g),aaZ a b d e g]
     ·rw[ah (by simpa using g),aa0 a b d e g]
   ·rw[af (by simpa using d),aaX a b d]
  ·rw[Rn (.inr b)];simp only[decide_eq_true a,decide_eq_false b,Bool.not_true,Bool.not_false,aK,Bool.false_eq_true,if_false,if_true]
 ·rw[Rn (.inl a)];simp only[decide_eq_false a,Bool.not_false,aK,if_true]
theorem aa1 (hc:CS c w h most L) (hn:c.cP.next<1000000) (cell goal:Int): ∃c',wV.f c cell goal=some ((ny w h most L c.cP.next cell goal).1,(ny w h most L c.cP.next cell goal).2.1,c')/\
 CS c' w h most (ny w h most L c.cP.next cell goal).2.2/\c'.cP.next=c.cP.next+(if(ny w h most L c.cP.next cell goal).2.1=0 then 1 else 0):=by
 unfold wV.f;rw[ajy hc cell goal c.cP.next,aK]
 have Gr:=hc.next
 unfold ny
 by_cases a: ¬bV w h cell∨ ¬bV w h goal
 ·simp only[af a];rw[af bh];exact⟨c,J,hc,by simp⟩
 ·simp only[ah a]
  by_cases b:pd L cell≠ -1
  ·simp only[af b];rw[af bh];exact⟨c,J,hc,by simp⟩
  ·simp only[ah b]
   by_cases d:most<=(L.length:Int)
   ·simp only[af d];rw[af bh];exact⟨c,J,hc,by simp⟩
   ·simp only[ah d]
    by_cases e:cell=goal
    ·simp only[af e];rw[af bh];exact⟨c,J,hc,by simp⟩
    ·simp only[ah e];rw[ah bh];obtain⟨u',a1,a2,a3⟩:=(Ym hc.us hn cell goal).2 U;have dW:bV w h cell:=Classical.byContradiction λz=>a (.inl z);have Gl:bV w h goal:=Classical.byContradiction λz=>a (.inr z);have hw:pd L cell= -1:=Classical.byContradiction λz=>b z
     have gL:=(aaj hc).1 hw;have Cd:rE (w*h) c.floor cell:=by
      refine⟨dW.2.1,dW.2.2,Classical.byContradiction λz=>?_⟩
      obtain⟨x,hx,q⟩:=hc.fl.only cell dW.2.1 dW.2.2 z;exact gL x hx q
     have NA:=hc.fl.eI;have jI:=hc.us.eI;have ep:DP (w*h) c.floor cell c.cP.next=(true,iA c.floor cell (c.cP.next+1) 1):=by
      unfold DP;rw[af ⟨Cd,by omega,by omega⟩]
     rw[a1,aK,VQ hc.fl.fl U,ep];refine⟨_,J,⟨hc.w_,hc.h_,hc.m_,hc.may,a3,?_,λy hy=>?_,by simp;omega⟩,by simp[a2]⟩
     ·exact abK (x:=⟨c.cP.next,cell,goal⟩) hc.fl dW.2.1 dW.2.2 gL (by simp only;omega) (by simp only;omega)
     ·rcases List.mem_append.1 hy with q |q
      ·exact hc.ok y q
      ·simp at q;subst q;exact⟨dW,Gl,e⟩
def wR (L:List aD) (id:Int):Int×List aD:=if Bo L id=true then(0,mg L id) else(12,L)
theorem aax (hc:CS c w h most L) (id:Int): ∃c',wT.f c id=some ((wR L id).1,c')/\CS c' w h most (wR L id).2/\c'.cP.next=c.cP.next:=by
 unfold wT.f wR Bo;rw[DS hc.us,aK];unfold zK
 cases hf:oa L id with
 |none=>
  exact⟨c,J,by simpa using hc,J⟩
 |some x=>
  obtain⟨h1,h2⟩:=Bn hf;obtain⟨c',e1,e2,e3⟩:=Md hc h1;simp only[Bool.not_true,Bool.false_eq_true,if_false,e1,aK];rw[h2] at e2;exact⟨c',J,by simpa using e2,e3⟩
def wS (w h:Int) (L:List aD) (id goal:Int):Int×List aD:=
 match oa L id with
 |none=>(12,L)
 |some x=>if ¬bV w h goal then(7,L) else if x.Cell=goal then(13,mg L id) else(0,gM L id (λx=>⟨x.Id,x.Cell,goal⟩))
theorem aaU (hc:CS c w h most L) (id goal:Int): ∃c',wU.f c id goal=some ((wS w h L id goal).1,c')/\CS c' w h most (wS w h L id goal).2/\c'.cP.next=c.cP.next:=by
 unfold wU.f wS;rw[DS hc.us,aK];unfold zK
 cases hf:oa L id with
 |none=>
  exact⟨c,J,by simpa using hc,J⟩
 |some x=>
  obtain⟨h1,h2⟩:=Bn hf;simp only[Bool.not_true,Bool.false_eq_true,if_false,Me hc,aK,ajz hc]
  by_cases q:bV w h goal
  ·simp only[decide_eq_true q,Bool.not_true,Bool.false_eq_true,if_false]
   by_cases g:x.Cell=goal
   ·obtain⟨c',e1,e2,e3⟩:=Md hc h1;rw[h2] at e2;simp only[af g,e1,aK,ah (λz: ¬bV w h goal=>z q)];exact⟨c',J,e2,e3⟩
   ·obtain⟨u',e1,e2,e3⟩:=Yq hc.us id goal;simp only[ah g,e1,aK,ah (λz: ¬bV w h goal=>z q)];refine⟨_,J,⟨hc.w_,hc.h_,hc.m_,hc.may,e3,⟨hc.fl.fl,by simp[gM,hc.fl.eI],λy hy=>?_,λd d0 d1 hd=>?_⟩,λy hy=>?_,by simpa[gM] using hc.kD⟩,e2⟩
    ·unfold gM at hy;obtain⟨z,hz,rfl⟩:=List.mem_map.1 hy;have:=hc.fl.at_ z hz;split<;>exact this
    ·obtain⟨z,hz,e⟩:=hc.fl.only d d0 d1 hd;refine⟨if z.Id=id then⟨z.Id,z.Cell,goal⟩ else z,List.mem_map.2 ⟨z,hz,J⟩,?_⟩
     split<;>exact e
    ·unfold gM at hy;obtain⟨z,hz,rfl⟩:=List.mem_map.1 hy;have UA:=hc.ok z hz;split
     ·rename_i y;have:z=x:=Cm hc.us.up hz h1 (y.trans h2.symm);exact⟨UA.1,q,by rw[this];exact g⟩
     ·exact UA
  ·simp only[decide_eq_false q,Bool.not_false,if_true,af q];exact⟨c,J,hc,J⟩
end Go.Proofs.YthodkonhneebbaaGreatDoor
