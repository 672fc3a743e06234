/- What the functions do, in plain Lean, on the objects that are kept in order. -/
import Derived.Laws.Strings
import Derived.Test.YthodkonhneebbaaGreatDoorKF14
import Derived.Test.YthodkonhneebbaaGreatDoorKF5
import Derived.Test.YthodkonhneebbaaGreatDoorKF6
import Derived.Test.YthodkonhneebbaaGreatDoorKF15
import Derived.Test.YthodkonhneebbaaGreatDoorKF12
import Derived.Test.YthodkonhneebbaaGreatDoorKF7
import Derived.Test.YthodkonhneebbaaGreatDoorKF16
namespace Go.Proofs.YthodkonhneebbaaGreatDoor
open Go.Hx
set_option linter.unusedVariables false
set_option linter.unusedSimpArgs false
theorem ai5 {x:Int} (h1:0<=x) (h2:x<=4294967295):Bb x=x:=by
 unfold Bb IntKind.wrap IntKind.signed IntKind.bits;simp;omega
theorem aeD {c:List Int} (hc:c.length<=100000) {a:Int} (a0:0<=a) (a1:a<c.length): ∀(n k:Nat) (x:Int),a+x+n=c.length->1<=x->n<k->(∀j:Int,a<=j->j<a+x->rd c j=rd c a)->
 ∃e,iC.l1 k c a x=some e/\x<=e/\a+e<=c.length/\(∀j:Int,a<=j->j<a+e->rd c j=rd c a)/\(a+e=c.length∨rd c (a+e)≠rd c a):=by
 intro n
 induction n with
 |zero=>
  intro k x hx x1 hk hr;obtain⟨k,rfl⟩:=bl hk;refine⟨x,?_,by omega,by omega,hr,.inl U⟩
  rw[iC.l1,bj U U,ah (c:=a+x<_) U,aL,ah bk]
 |succ n ih=>
  intro k x hx x1 hk hr;obtain⟨k,rfl⟩:=bl hk;rw[iC.l1,bj (x:=a+x) U U,af U,af U,af U,aL]
  by_cases hq:rd c (a+x)=rd c a
  ·rw[af (by simpa using hq),bj U U]
   obtain⟨e,h1,h2,h3,h4,h5⟩:=ih k (x+1) U U U (λj j0 j1=>by
    by_cases hj:j=a+x
    ·rw[hj,hq]
    ·exact hr j j0 U)
   exact⟨e,h1,by omega,h3,h4,h5⟩
  ·rw[ah (by simpa using hq)]
   exact⟨x,J,by omega,by omega,hr,.inr hq⟩
inductive C_ (c:List Int):Int->List Int->Prop
 |done:C_ c c.length []
 |run {a e:Int} {L:List Int} (a0:0<=a) (e1:1<=e) (he:a+e<=c.length) (same: ∀j:Int,a<=j->j<a+e->rd c j=rd c a) (stop:a+e=c.length∨rd c (a+e)≠rd c a) (rest:C_ c (a+e) L):C_ c a ((e-1)::rd c a::L)
theorem aho {c:List Int} (hc:c.length<=256): ∀(n k:Nat) (a:Int) (x:List Int),a+n=c.length->0<=a->n<k->x.length<=1+2*a.toNat->
 ∃L,iC.l0 k c x a=some (x++L)/\(n=0->L=[])/\L.length<=2*n/\(∃q,L.length=2*q)/\(0<n->2<=L.length/\(L.length=2↔ ∀j:Int,a<=j->j<c.length->rd c j=rd c a))/\C_ c a L:=by
 intro n
 induction n using Nat.strongRecOn with
 |_ n ih=>
  intro k a x ha a0 hk hx;obtain⟨k,rfl⟩:=bl hk
  by_cases hn:n=0
  ·subst hn;have:a=c.length:=U;refine⟨[],by rw[iC.l0,ah U];simp,λ_=>rfl,by simp,⟨0,J⟩,λq=>by omega,by rw[this];exact .done⟩
  ·have a1:a<(c.length:Int):=U;obtain⟨e,h1,h2,h3,h4,h5⟩:=aeD (c:=c) U a0 a1 (n-1) fuel 1 U U (by rw[tD];omega) (λj j0 j1=>by rw[show j=a by omega])
   have ewu:bQ (aa (e-1))=e-1:=by rw[bj U U,EF U U]
   obtain⟨L,e1,e2,e3,⟨q,e4⟩,e5,e6⟩:=ih (n-e.toNat) U k (a+e) (x++[e-1,rd c a]) U U U bm;refine⟨(e-1)::rd c a::L,?_,λq=>by omega,by simp;omega,⟨q+1,by simp;omega⟩,λ_=>⟨by simp,?_⟩,.run a0 h2 h3 h4 h5 e6⟩
   ·rw[iC.l0,af a1,h1,aL,af ⟨a0,a1⟩,af U,bj (x:=a+e) U U,ewu];simp only[aL];rw[e1];simp
   ·constructor
    ·intro hl;have qv:L.length=0:=by simp at hl;simp[hl]
     have DM:a+e=c.length:=by
      by_cases hz:n-e.toNat=0
      ·omega
      ·have:=(e5 U).1;omega
     intro j j0 j1;exact h4 j j0 U
    ·intro tG;have DM:a+e=c.length:=by
      rcases h5 with h5 |h5
      ·exact h5
      ·by_cases hz:a+e=c.length
       ·exact hz
       ·exact absurd (tG (a+e) U U) h5
     have:=e2 U;rw[this];rfl
theorem ags (t:aJ): ∀(k:Nat) (a x:Int),jl.l1 k t a x=iC.l1 k t.C a x:=by
 intro k
 induction k with
 |zero=>intro a x;rfl
 |succ k ih=>intro a x;simp only[jl.l1,iC.l1,ih]
theorem agr (t:aJ): ∀(k:Nat) (x:List Int) (a:Int),jl.l0 k t x a=iC.l0 k t.C x a:=by
 intro k
 induction k with
 |zero=>intro x a;rfl
 |succ k ih=>intro x a;simp only[jl.l0,iC.l0,ih,ags]
def vT (c:List Int):Prop:= ∀j:Int,0<=j->j<c.length->rd c j=rd c 0
theorem contains_diff (t:aJ) (h1:1<=t.C.length) (hb:t.C.length<=100000): ∃b,CP.f t.C t=some b/\(b=false↔vT t.C):=by
 unfold CP.f qL.f;have key: ∀(n k:Nat) (i:Int),i+n=t.C.length->0<=i->n<k-> ∃r,qL.l0 k t.C t i=some r/\(r<0↔ ∀j:Int,i<=j->j<t.C.length->rd t.C j=rd t.C 0):=by
  intro n
  induction n with
  |zero=>
   intro k i hi h0 hk;obtain⟨k,rfl⟩:=bl hk;exact⟨-1,by rw[qL.l0,ah U],⟨λ_ j j0 j1=>by omega,λ_=>by omega⟩⟩
  |succ n ih=>
   intro k i hi h0 hk;obtain⟨k,rfl⟩:=bl hk;have e:Cv.f (rd t.C i) t=some (rd t.C i !=rd t.C 0):=by unfold Cv.f;rw[af U]
   rw[qL.l0,af U,af U,e,aL]
   by_cases hq:rd t.C i=rd t.C 0
   ·rw[ah (by simpa using hq),bj U U]
    obtain⟨r,r1,r2⟩:=ih k (i+1) U U U;refine⟨r,r1,?_⟩;rw[r2];constructor
    ·intro h j j0 j1
     by_cases hj:j=i
     ·rw[hj,hq]
     ·exact h j U j1
    ·intro h j j0 j1;exact h j U j1
   ·rw[af (by simpa using hq)]
    exact⟨i,J,⟨λh=>by omega,λh=>absurd (h i U U) hq⟩⟩
 obtain⟨r,r1,r2⟩:=key t.C.length fuel 0 U U (by rw[tD];omega)
 rw[r1,aL];refine⟨_,J,?_⟩;unfold vT;rw[<-r2];simp
structure De (t:aJ) (L:List Int) (f:Int) (out:List Int):Prop where
 runs:iC.f t.C=some (2::L)
 two:L.length=2↔vT t.C
 even: ∃q,L.length=2*q
 enc:C_ t.C 0 L
 ge:2<=L.length
 le:L.length<=512
 Pe:vT t.C->f=0/\out=[0,rd t.C 0]
 N2: ¬vT t.C-> ¬L.length<t.C.length->f=1/\out=1::t.C
 short: ¬vT t.C->L.length<t.C.length->f=2/\out=2::L
theorem ae8 (t:aJ) (h1:1<=t.C.length) (hb:t.C.length<=256): ∃L f out,kW.f t=some (f,out)/\De t L f out:=by
 obtain⟨L,e1,_,e3,e4,e5,e8⟩:=aho (c:=t.C) U t.C.length fuel 0 [2] U U (by rw[tD];omega) bk
 have e5:=e5 U;have e6:L.length=2↔vT t.C:=e5.2;obtain⟨b,c1,c2⟩:=contains_diff t h1 U;obtain⟨k,hk⟩: ∃k,fuel=k+4:=⟨fuel-4,by rw[tD]⟩
 have p0:jl.f t 0=some (if b=true then[] else[0,rd t.C 0]):=by
  unfold jl.f;have:bQ 0=0:=EF U U;rw[af (by rfl),c1,aL,this]
  cases b
  ·rw[ah bk,af U,af bk];rfl
  ·rfl
 have p1:jl.f t 1=some (1::t.C):=by
  unfold jl.f;have:bQ 1=1:=EF U U;rw[ah bk,af (by rfl),this,af bm];rfl
 have p2:jl.f t 2=some (2::L):=by
  unfold jl.f;have:bQ 2=2:=EF U U;rw[ah bk,ah bk,this,agr,e1];rfl
 have n1:aa (0+1)=1:=bj U U;have n2:aa (1+1)=2:=bj U U;have n3:aa (2+1)=3:=bj U U;have nq:iC.f t.C=some (2::L):=by unfold iC.f;rw[e1];rfl
 unfold kW.f;rw[hk,kW.l0,af U,p0,aL,n1]
 by_cases hu:vT t.C
 ·have hbf:b=false:=c2.mpr hu;subst hbf;rw[ah (c:=false=true) bk];simp only[List.isEmpty_cons,List.isEmpty_nil,Bool.not_false,if_true,aL];rw[kW.l0,af U,p1,aL,n2];simp only[List.isEmpty_cons,Bool.not_false,if_true,Bool.false_eq_true,if_false,aL];rw[ah bm,kW.l0,af U,p2,aL,n3];simp only[List.isEmpty_cons,Bool.not_false,if_true,Bool.false_eq_true,if_false,aL];rw[ah bm,kW.l0,ah U];exact⟨L,0,[0,rd t.C 0],J,⟨nq,e6,e4,e8,e5.1,by omega,λ_=>⟨J,J⟩,λq=>absurd hu q,λq=>absurd hu q⟩⟩
 ·have hbt:b=true:=by
   cases hb:b
   ·exact absurd (c2.mp hb) hu
   ·rfl
  subst hbt;simp only[if_true,List.isEmpty_nil,Bool.not_true,Bool.false_eq_true,if_false,aL];rw[kW.l0,af U,p1,aL,n2];simp only[List.isEmpty_cons,List.isEmpty_nil,Bool.not_false,if_true,aL];rw[kW.l0,af U,p2,aL,n3];simp only[List.isEmpty_cons,Bool.not_false,if_true,Bool.false_eq_true,if_false,aL]
  by_cases hs:L.length<t.C.length
  ·rw[af bm,kW.l0,ah U];exact⟨L,2,2::L,J,⟨nq,e6,e4,e8,e5.1,by omega,λq=>absurd q hu,λ_ q=>absurd hs q,λ_ _=>⟨J,J⟩⟩⟩
  ·rw[ah bm,kW.l0,ah U];exact⟨L,1,1::t.C,J,⟨nq,e6,e4,e8,e5.1,by omega,λq=>absurd q hu,λ_ _=>⟨J,J⟩,λ_ q=>absurd q hs⟩⟩
theorem Ve {t:aJ} (h:rV t): ∃L f out,sJ.f t=some (out,0)/\De t L f out:=by
 have hl:=ou h;obtain⟨L,f,out,e,hL⟩:=ae8 t hl.1 hl.2;refine⟨L,f,out,?_,hL⟩;unfold sJ.f;rw[KI t U,decide_eq_true h,aL,ah bk,e];rfl
theorem PU {x:Int} (h0:0<=x) (h1:x<=4294967295):(((BitVec.ofInt (IntKind.bits .u64) x&&&BitVec.ofInt (IntKind.bits .u64) 4294967295).toNat:Nat):Int)=x:=by
 rw[BitVec.toNat_and];have e1:(BitVec.ofInt (IntKind.bits .u64) 4294967295).toNat=2^32-1:=by decide
 have e2:(BitVec.ofInt (IntKind.bits .u64) x).toNat=x.toNat:=by
  rw[BitVec.toNat_ofInt]
  show(x%((2^64:Nat):Int)).toNat=x.toNat
  rw[Int.emod_eq_of_lt h0 U]
 rw[e1,e2,Nat.and_two_pow_sub_one_eq_mod,Nat.mod_eq_of_lt U];omega
theorem Mj {x:Int} (h0:0<=x) (h1:x<=4294967295):Int.fdiv x (2^32)=0:=by
 rw[Int.fdiv_eq_ediv_of_nonneg _ U];exact Int.ediv_eq_zero_of_lt h0 U
theorem Qr {x y:Int} (hx:0<=x/\x<=1) (hy:0<=y/\y<=65536):sD.f x y=some (0,x*y):=by
 have B2:0<=x*y/\x*y<=65536:=by
  have:x=0∨x=1:=U;rcases this with rfl |rfl<;>omega
 unfold sD.f Cf.f;simp only[aL];rw[Mj hx.1 U,Mj hy.1 U];simp only[Int.zero_mul,Int.mul_zero];rw[PU hx.1 U,PU hy.1 U,qS hx.1 U,qS hy.1 U,qS B2.1 U,Mj B2.1 U];have z:eB 0=0:=qS U U;simp only[Int.add_zero,z];have f0:Int.fdiv 0 (2^32)=0:=by decide
 rw[f0];have a0:(((BitVec.ofInt (IntKind.bits .u64) 0&&&BitVec.ofInt (IntKind.bits .u64) 4294967295).toNat:Nat):Int)=0:=by decide
 simp only[a0,z,Int.add_zero,f0]
theorem Zo {c m:Int} {v1:Int×Int} (hv:aa v1.2=m) (hm:1<=m/\m<=8192): ∀(n k:Nat) (x:List Int) (p:Int),p+n=m->1<=p->n<k->(x.length:Int)=m->(∀j:Int,0<=j->j<p->rd x j=c)->
 ly.l0 k v1 m x p=some (List.replicate m.toNat c):=by
 intro n
 induction n using Nat.strongRecOn with
 |_ n ih=>
  intro k x p hp p1 hk hx hc;obtain⟨k,rfl⟩:=bl hk;rw[ly.l0,hv]
  by_cases hn:n=0
  ·rw[ah U]
   congr 1
   refine GY bm (λj j0 j1=>?_);rw[hc j j0 U,vy j0 U]
  ·have aaP:(if m<p then m else p)=p:=by rw[ah U]
   rw[af U,aaP,af U,af U];have yA:(aA x 0 p).length=p.toNat:=by simp[aA];omega
   have qv:(aA x p (x.length:Int)).length=(m-p).toNat:=by simp[aA];omega
   have lC:(cg x p.toNat (min (aA x 0 p).length (aA x p (x.length:Int)).length) (aA x 0 p)).length=x.length:=zR U U;rw[yA,qv] at lC⊢;rw[bj U U];refine ih (n-(min p.toNat (m-p).toNat)) U k _ _ U U U U (λj j0 j1=>?_);have JE:rd (cg x p.toNat (min p.toNat (m-p).toNat) (aA x 0 p)) j=if j<p then rd x j else rd x (j-p):=by
    unfold cg
    by_cases hj:j<p
    ·rw[af hj,yW j0 bm];unfold rd;rw[List.getD_eq_getElem?_getD,List.getD_eq_getElem?_getD,List.getElem?_take_of_lt U]
    ·rw[ah hj,mO bm,yW bm (by simp[aA];omega)]
     have e:j-((List.take p.toNat x).length:Int)=j-p:=by simp;omega
     rw[e];unfold rd aA;rw[List.getD_eq_getElem?_getD,List.getD_eq_getElem?_getD,List.getElem?_take_of_lt U,List.getElem?_take_of_lt U];simp
   rw[JE]
   by_cases hj:j<p
   ·rw[af hj];exact hc j j0 hj
   ·rw[ah hj];exact hc (j-p) U U
theorem OC {c m:Int} (hm:1<=m/\m<=8192):ly.f [c] m=some (List.replicate m.toNat c):=by
 unfold ly.f;have e1:eB ((List.length [c]:Nat):Int)=1:=qS bk bk;have e2:eB m=m:=qS U U;rw[ah bm,ah U,e1,e2,Qr U U,aL,Int.one_mul];have e3:aa m=m:=bj U U;have hb:((decide ((0:Int)>0))||(decide (m>9223372036854775807)))=false:=by
  rw[decide_eq_false U,decide_eq_false U];rfl
 simp only[hb,e3];rw[ah bk,ah bk,ah U,aL,af U];refine XV (af4 m) (λx hx=>?_);obtain⟨hl,_⟩:=hx;rw[af U];have Nu:min (List.length [c]) x.length=1:=by simp;omega
 rw[Nu];have:=Zo (c:=c) (v1:=(0,m)) (m:=m) e3 hm (m-1).toNat fuel (cg x 0 1 [c]) 1 U U (by rw[tD];omega) (by rw[zR U bk];omega) (λj j0 j1=>by
  have:j=0:=U;subst this;simp[cg];rfl)
 rw[show(((1:Nat):Int))=1 by rfl,this,aL]
theorem ag7 {m:Int} (hm:1<=m/\m<=8192):ly.f [] m=some []:=by
 unfold ly.f;have e1:eB ((List.length ([]:List Int):Nat):Int)=0:=qS bk bk;have e2:eB m=m:=qS U U;rw[ah bm,ah U,e1,e2,Qr U U,aL,Int.zero_mul];simp
theorem agZ {L:List Int} {lo hi j:Int} (h0:0<=lo) (j0:0<=j) (j1:lo+j<hi):rd (aA L lo hi) j=rd L (lo+j):=by
 unfold rd aA;rw[List.getD_eq_getElem?_getD,List.getD_eq_getElem?_getD,List.getElem?_take_of_lt U,List.getElem?_drop,show(lo+j).toNat=lo.toNat+j.toNat by omega]
theorem A3 {L:List Int} {lo hi:Int} (h0:0<=lo) (h1:lo<=hi) (h2:hi<=L.length):((aA L lo hi).length:Int)=hi-lo:=by rw[iP ⟨h0,h1,h2⟩];omega
theorem HA {L:List Int} {lo hi:Int} {P:Int->Prop} (h: ∀y∈L,P y): ∀y∈aA L lo hi,P y:=λy hy=>h y (List.mem_of_mem_drop (List.mem_of_mem_take hy))
theorem WD {b:List Int} {a n:Int} (hb:b.length<=100000) (a0:0<=a) (a1:a<=b.length) (h:b.length<a+n):mN.f ⟨b,a⟩ n=some ([],.dW 6,⟨b,a⟩):=by
 unfold mN.f;simp only;rw[bj (x:=_-a) U U,af U]
theorem WC {b:List Int} {a n:Int} (hb:b.length<=100000) (a0:0<=a) (n0:0<=n) (h:a+n<=b.length):mN.f ⟨b,a⟩ n=some (aA b a (a+n),.nil,⟨b,a+n⟩):=by
 unfold mN.f;simp only;rw[bj (x:=_-a) U U,ah U,bj (x:=a+n) U U,bj (x:=a+n-n) U U,af U,show a+n-n=a by omega]
inductive mV where
 |short:mV
 |form:mV
 |ok:List Int->Int->mV
theorem u8 {b:List Int} (hb: ∀y∈b,eN y) {i:Int} (h0:0<=i) (h1:i<b.length):0<=rd b i/\rd b i<=255:=by
 have:=hb _ (ud h0 h1);unfold eN at this;omega
theorem aak {b:List Int} {a n:Int} (hb:b.length<=100000) (a0:0<=a) (a1:a<=b.length) (h:b.length<a+n):pS.f ⟨b,a⟩ n=some ([],.dW 6,⟨b,a⟩):=by
 unfold pS.f;rw[WD hb a0 a1 h];rfl
theorem aaj {b:List Int} {a n:Int} (hb:b.length<=100000) (a0:0<=a) (n0:0<=n) (h:a+n<=b.length):pS.f ⟨b,a⟩ n=some (aA b a (a+n),if 0∈aA b a (a+n) then .dW 5 else .nil,⟨b,a+n⟩):=by
 unfold pS.f;have hl:=A3 a0 (show a<=a+n by omega) h
 rw[WC hb a0 n0 h,aL];simp only[Er.isNil,if_true];rw[LY _ _ U];simp only[aL]
 by_cases hz:0∈aA b a (a+n)
 ·rw[af hz,af (by simpa using hz)]
 ·rw[ah hz,ah (by simpa using hz)]
theorem ag3 {t:aJ} {L:List Int} {f:Int} {out:List Int} (h1:1<=t.C.length) (hb:t.C.length<=256) (h:De t L f out):xj.f t=some (f,out):=by
 unfold xj.f;rw[h.runs,aL];have hge:=h.ge;have hle:=h.le;have hlen:(((2::L:List Int).length:Nat):Int)=L.length+1:=by simp
 rw[hlen]
 by_cases hu:vT t.C
 ·have:=h.two.mpr hu;obtain⟨e1,e2⟩:=h.Pe hu;rw[af bm,af U,e1,e2]
 ·have bL: ¬L.length=2:=λq=>hu (h.two.mp q);rw[ah bm,bj U U]
  by_cases hs:L.length<t.C.length
  ·obtain⟨e1,e2⟩:=h.short hu hs;rw[af U,e1,e2]
  ·obtain⟨e1,e2⟩:=h.N2 hu hs;rw[ah U,af bm,e1,e2];rfl
theorem abt {b:List Int} {w h n:Int} (hw:1<=w/\w<=16) (hh:1<=h/\h<=16) (hn:aa (w*h)=n) {x:List Int} {q:Int} (hx:x.length<=100000) (hr:sK.f ⟨b,0⟩ n=some (x,.dW 6,⟨b,q⟩)):qF.f b w h=some (⟨0,0,[]⟩,0,2):=by
 unfold qF.f vv.f nL.f;have e:(((decide (w<1)||decide (w>16))||decide (h<1))||decide (h>16))=false:=by simp;omega
 rw[hn,hr];simp only[e,Bool.false_eq_true,if_false,aL,Er.isNil];rw[af bm]
 rfl
theorem abq {b:List Int} {w h n:Int} (hw:1<=w/\w<=16) (hh:1<=h/\h<=16) (hn:aa (w*h)=n) {x:List Int} {q:Int} (hx:x.length<=100000) (hr:sK.f ⟨b,0⟩ n=some (x,.dW 5,⟨b,q⟩)):qF.f b w h=some (⟨0,0,[]⟩,0,3):=by
 unfold qF.f vv.f nL.f;have e:(((decide (w<1)||decide (w>16))||decide (h<1))||decide (h>16))=false:=by simp;omega
 rw[hn,hr];simp only[e,Bool.false_eq_true,if_false,aL,Er.isNil];rw[af bm]
 rfl
theorem abr {b:List Int} {w h n:Int} (hw:1<=w/\w<=16) (hh:1<=h/\h<=16) (hn:aa (w*h)=n) {x:List Int} {p:Int} (hx:x.length<=100000) (hp:0<=p/\p<=b.length) (hr:sK.f ⟨b,0⟩ n=some (x,.nil,⟨b,p⟩)) {out:List Int} {f:Int} (aea:sJ.f ⟨w,h,x⟩=some (out,f)):
 qF.f b w h=some (if Hw out (aA b 0 p)=true then(⟨w,h,x⟩,p,0) else(⟨0,0,[]⟩,0,3)):=by
 unfold qF.f vv.f nL.f Dq.f;have e:(((decide (w<1)||decide (w>16))||decide (h<1))||decide (h>16))=false:=by simp;omega
 rw[hn,hr];simp only[e,Bool.false_eq_true,if_false,aL,Er.isNil,if_true,List.nil_append];rw[af bm];simp only[aL,Er.isNil,if_true];rw[aea];simp only[aL];rw[af U]
 cases hs:Hw out (aA b 0 p)
 ·rfl
 ·rfl
abbrev Hb (w h s:Int):Nat:=((ax w h s).1*(ax w h s).2).toNat
theorem Wd {w h s:Int} (hs:bI w h s):1<=Hb w h s/\Hb w h s<=256/\((Hb w h s:Nat):Int)=(ax w h s).1*(ax w h s).2:=by
 obtain⟨z1,z2,z3,z4⟩:=pY hs;have h1:(ax w h s).1*(ax w h s).2<=16*16:=kA U U z2 z4;have h2:1*1<=(ax w h s).1*(ax w h s).2:=kA U U z1 z3;unfold Hb;omega
theorem ahh {m:aJ} (hm:tq m) (s:Int):nF.f m s=some (fC m s):=aiE hm s
def qz (w h s c:Int):Prop:=16*(s%(bo w h).1)<=c%w/\c%w<16*(s%(bo w h).1)+(ax w h s).1/\16*(s/(bo w h).1)<=c/w/\c/w<16*(s/(bo w h).1)+(ax w h s).2
instance (w h s c:Int):Decidable (qz w h s c):=by unfold qz;infer_instance
def loc (w h s c:Int):Int:=(c/w-16*(s/(bo w h).1))*(ax w h s).1+(c%w-16*(s%(bo w h).1))
theorem ahc {w h s:Int} (hs:bI w h s):16*(s%(bo w h).1)+(ax w h s).1<=w/\16*(s/(bo w h).1)+(ax w h s).2<=h:=by
 unfold ax;rw[af hs];simp only;omega
theorem afb {w h s c:Int} (hs:bI w h s) (hi:qz w h s c):0<=loc w h s c/\loc w h s c<(ax w h s).1*(ax w h s).2:=by
 obtain⟨i1,i2,i3,i4⟩:=hi;unfold loc;exact r_ U U U U
theorem ahG {w h c:Int} (hc:bT w h c): ∃s,bI w h s/\qz w h s c:=by
 have hs:=Eo hc;obtain⟨a,b,d,e⟩:=En hc;have hn:=qC (a:=(bo w h).1) (x:=c%w/16) (y:=c/w/16) a b;have hp:=vw hc;refine⟨_,hs,?_⟩;unfold qz ax;rw[af hs,hn.1,hn.2];simp only;generalize c%w=x at*;generalize c/w=y at*;omega
theorem ahe {w a X tw c:Int} (hw:0<w) (X0:0<=X) (ht:X+tw<=w):(a*w+X<=c/\c<a*w+X+tw)↔(c/w=a/\X<=c%w/\c%w<X+tw):=by
 constructor
 ·rintro⟨h1,h2⟩;have:=qC (a:=w) (x:=c-a*w) (y:=a) U U;rw[show a*w+(c-a*w)=c by omega] at this
  obtain⟨e1,e2⟩:=this;rw[e1,e2];exact⟨J,by omega,by omega⟩
 ·rintro⟨rfl,h2,h3⟩;have:=Int.mul_ediv_add_emod c w;rw[Int.mul_comm] at this;omega
theorem agY {x S:List Int} {p n c:Int} (p0:0<=p) (n0:0<=n) (hx:p+n<=x.length) (hS:n<=S.length) (c0:0<=c):rd (cg x p.toNat n.toNat S) c=if p<=c/\c<p+n then rd S (c-p) else rd x c:=by
 unfold cg
 by_cases h1:c<p
 ·rw[ah U,yW c0 bm];unfold rd;rw[List.getD_eq_getElem?_getD,List.getD_eq_getElem?_getD,List.getElem?_take_of_lt U]
 ·have e:c-((List.take p.toNat x).length:Int)=c-p:=by simp;omega
  rw[mO bm,e]
  by_cases h2:c<p+n
  ·rw[af ⟨by omega,h2⟩,yW U bm]
   unfold rd;rw[List.getD_eq_getElem?_getD,List.getD_eq_getElem?_getD,List.getElem?_take_of_lt U]
  ·rw[ah U,mO bm];have e2:c-p-((List.take n.toNat S).length:Int)=c-p-n:=by simp;omega
   rw[e2];unfold rd;rw[List.getD_eq_getElem?_getD,List.getD_eq_getElem?_getD,List.getElem?_drop,show p.toNat+n.toNat+(c-p-n).toNat=c.toNat by omega]
theorem ae1 {w h s:Int} (hs:bI w h s) {t:aJ} (hW:t.W=(ax w h s).1) (hH:t.H=(ax w h s).2) (hC:(t.C.length:Int)=(ax w h s).1*(ax w h s).2) {x:List Int} (hx:(x.length:Int)=w*h):
 ∃x',nX.f ⟨w,h,x⟩ s t=some x'/\(x'.length:Int)=w*h/\ ∀c,0<=c->c<w*h->rd x' c=if qz w h s c then rd t.C (loc w h s c) else rd x c:=by
 have hz:=pY hs;have Nr:=sW hs;have hmp:=tX Nr;obtain⟨r1,r2⟩:=ahc hs;obtain⟨p1,p2,p3,p4⟩:=ug hs;obtain⟨sn1,sn2,sn3⟩:=Wd hs;unfold nX.f;simp only;rw[I4,aL];have hg:db w h s 0=16*(s/(bo w h).1)*w+16*(s%(bo w h).1):=by
  unfold db;rw[af ⟨hs,by omega,by omega⟩,Int.zero_ediv,Int.zero_emod,Int.add_zero,Int.add_zero]
 rw[hg];generalize hX:16*(s%(bo w h).1)=X at*;generalize hY:16*(s/(bo w h).1)=Y at*;generalize NF:(ax w h s).1=tw at*;generalize TL:(ax w h s).2=th at*;have key: ∀(n k:Nat) (y:Int) (z:List Int),y+n=th->0<=y->n<k->(z.length:Int)=w*h->(∀c,0<=c->c<w*h->rd z c=if qz w h s c/\c/w<Y+y then rd t.C (loc w h s c) else rd x c)->
  ∃x',nX.l0 k ⟨w,h,x⟩ t (Y*w+X) z y=some x'/\(x'.length:Int)=w*h/\ ∀c,0<=c->c<w*h->rd x' c=if qz w h s c then rd t.C (loc w h s c) else rd x c:=by
  intro n
  induction n with
  |zero=>
   intro k y z hy y0 hk TV NM;obtain⟨k,rfl⟩:=bl hk;refine⟨z,by rw[nX.l0,ah U],TV,λc c0 c1=>?_⟩
   rw[NM c c0 c1]
   by_cases hi:qz w h s c
   ·have:c/w<Y+y:=by
     have⟨_,_,_,i4⟩:=hi;rw[hY,TL] at i4;omega
    rw[af ⟨hi,this⟩,af hi]
   ·rw[ah (λq=>hi q.1),ah hi]
  |succ n ih=>
   intro k y z hy y0 hk TV NM;obtain⟨k,rfl⟩:=bl hk;have e1:(Y+y)*w=Y*w+y*w:=Int.add_mul _ _ _;have e2:(y+1)*tw=y*tw+tw:=by rw[Int.add_mul,Int.one_mul]
   have e3:(Y+y+1)*w=(Y+y)*w+w:=by rw[Int.add_mul,Int.one_mul]
   have b1:(Y+y+1)*w<=h*w:=Int.mul_le_mul_of_nonneg_right U U;have b2:h*w=w*h:=Int.mul_comm _ _;have b3:(y+1)*tw<=th*tw:=Int.mul_le_mul_of_nonneg_right U U;have b4:th*tw=tw*th:=Int.mul_comm _ _;have b5:0<=y*tw:=nz y0 U;have b6:0<=y*w:=nz y0 U;have b7:0<=Y*w:=nz U U;rw[nX.l0,hH,af U];simp only;rw[hW,bj (x:=y*w) U U,bj (x:=Y*w+X+y*w) U U,bj (x:=y*tw) U U,bj (x:=y+1) U U,bj (x:=(y+1)*tw) U U];have hpe:Y*w+X+y*w=(Y+y)*w+X:=U;rw[hpe,af U,af U];have l1:=A3 (L:=t.C) (lo:=y*tw) (hi:=(y+1)*tw) b5 U U;have l2:=A3 (L:=z) (lo:=(Y+y)*w+X) (hi:=(z.length:Int)) U U U;have Nu:min (aA t.C (y*tw) ((y+1)*tw)).length (aA z ((Y+y)*w+X) (z.length:Int)).length=tw.toNat:=U;rw[Nu];have lC:(cg z ((Y+y)*w+X).toNat tw.toNat (aA t.C (y*tw) ((y+1)*tw))).length=z.length:=zR U U;refine ih k (y+1) _ U U U U (λc c0 c1=>?_);rw[agY U U U U c0];have TF:=ahe (w:=w) (a:=Y+y) (X:=X) (tw:=tw) (c:=c) U U r1
   by_cases wQ:(Y+y)*w+X<=c/\c<(Y+y)*w+X+tw
   ·obtain⟨q1,q2,q3⟩:=TF.mp wQ;have cu:qz w h s c:=by unfold qz;rw[hX,hY,NF,TL];exact⟨q2,q3,by omega,by omega⟩
    rw[af wQ,af ⟨cu,by omega⟩,agZ b5 U U]
    congr 1
    unfold loc;rw[hX,hY,NF,q1];have e4:(Y+y-Y)*tw=y*tw:=by rw[show Y+y-Y=y by omega]
    have:=Int.mul_ediv_add_emod c w;rw[Int.mul_comm,q1] at this;omega
   ·rw[ah wQ,NM c c0 c1]
    by_cases cu:qz w h s c
    ·have⟨i1,i2,i3,i4⟩:=cu;rw[hX] at i1;rw[hX,NF] at i2;have bL:c/w≠Y+y:=λq=>wQ (TF.mpr ⟨q,i1,i2⟩)
     by_cases aQ:c/w<Y+y
     ·rw[af ⟨cu,aQ⟩,af ⟨cu,by omega⟩]
     ·rw[ah (λq=>aQ q.2),ah (λq=>by have:=q.2;omega)]
    ·rw[ah (λq=>cu q.1),ah (λq=>cu q.1)]
 exact key th.toNat fuel 0 x U U (by rw[tD];omega) hx (λc c0 c1=>by
  by_cases hi:qz w h s c
  ·have⟨_,_,i3,_⟩:=hi;rw[hY] at i3;rw[ah (λq=>by have:=q.2;omega)]
  ·rw[ah (λq=>hi q.1)])
theorem aga {x y:Nat} (hx:x<256):x|||(y*256)=x+256*y:=by
 have:=Nat.shiftLeft_add_eq_or_of_lt (b:=x) (i:=8) U y;rw[Nat.shiftLeft_eq] at this;have e8:(2:Nat)^8=256:=by decide
 rw[e8] at this;rw[Nat.or_comm,<-this];omega
theorem DJ {x y:Int} (hx:eN x) (hy:eN y):aa (BitVec.toNat (BitVec.ofInt (IntKind.bits .i64) (aa x)|||BitVec.ofInt (IntKind.bits .i64) (aa ((aa y)*2^8))))=x+256*y:=by
 unfold eN at hx hy;rw[bj (x:=x) U U,bj (x:=y) U U,bj (x:=y*2^8) U U,BitVec.toNat_or];have e: ∀z:Int,0<=z->z<=1000000->(BitVec.ofInt (IntKind.bits .i64) z).toNat=z.toNat:=by
  intro z z0 z1;rw[BitVec.toNat_ofInt]
  show(z%((2^64:Nat):Int)).toNat=z.toNat
  rw[Int.emod_eq_of_lt z0 U]
 rw[e x U U,e (y*2^8) U U];have e2:(y*2^8).toNat=y.toNat*256:=U;rw[e2,aga U,bj U U];omega
theorem Pp {x:Int}:bQ x=x%256:=by
 unfold bQ IntKind.wrap IntKind.signed IntKind.bits;simp
structure wj (m:aJ):Prop where
 ok:tq m
 rZ: ∀y∈m.C,1<=y/\y<=255
theorem OQ {m:aJ} (hm:wj m) {s:Int} (hs:bI m.W m.H s):rV (fC m s)/\ ∀y∈(fC m s).C,1<=y/\y<=255:=by
 have hz:=pY hs;obtain⟨n1,n2,n3⟩:=Wd hs;have hb: ∀y∈(fC m s).C,1<=y/\y<=255:=by
  intro y hy;unfold fC kH at hy;simp only[List.mem_map,List.mem_range] at hy;obtain⟨l,hl,rfl⟩:=hy;have hg:=zZ (l:=(l:Int)) hs U U;exact hm.rZ _ (ud hg.1 (by rw[hm.ok.2.1];exact hg.2))
 refine⟨⟨hz.1,hz.2.1,hz.2.2.1,hz.2.2.2,?_,λq=>by have:=hb 0 q;omega⟩,hb⟩
 show((kH m s (Hb m.W m.H s)).length:Int)=_
 rw[C1,n3]
def GR (m:aJ) (s:Int):List Int:=((sJ.f (fC m s)).getD ([],0)).1
theorem UZ {m:aJ} (hm:wj m) {s:Int} (hs:bI m.W m.H s): ∃L f,sJ.f (fC m s)=some (GR m s,0)/\De (fC m s) L f (GR m s):=by
 obtain⟨L,f,out,e,hL⟩:=Ve (OQ hm hs).1;have:GR m s=out:=by unfold GR;rw[e];rfl
 exact⟨L,f,by rw[this];exact e,by rw[this];exact hL⟩
theorem UY {t:aJ} (h:rV t) {L:List Int} {f:Int} {out:List Int} (hL:De t L f out):2<=out.length/\out.length<=1+t.C.length:=by
 have hl:=ou h;have h2:=hL.ge
 by_cases hu:vT t.C
 ·rw[(hL.Pe hu).2];simp;omega
 ·by_cases hs:L.length<t.C.length
  ·rw[(hL.short hu hs).2];simp;omega
  ·rw[(hL.N2 hu hs).2];simp;omega
theorem aaQ {t:aJ} (h:rV t) (hu: ∀y∈t.C,1<=y/\y<=255) {i:Int} {L:List Int} (he:C_ t.C i L): ∀y∈L,eN y:=by
 have hl:=ou h
 induction he with
 |done=>intro y hy;simp at hy
 | @run i e L i0 e1 hie same stop rest ih=>
  intro y hy;simp only[List.mem_cons] at hy;have hm:=hu _ (ud i0 (show i<(t.C.length:Int) by omega))
  rcases hy with q |q |q
  ·rw[q];exact⟨by omega,by omega⟩
  ·rw[q];exact⟨by omega,by omega⟩
  ·exact ih y q
theorem age {v:aJ} (hv:rV v) (hu: ∀y∈v.C,1<=y/\y<=255) {L:List Int} {f:Int} {out:List Int} (hL:De v L f out): ∀y∈out,eN y:=by
 have hC: ∀y∈v.C,eN y:=λy hy=>by have:=hu y hy;exact⟨by omega,by omega⟩
 have TQ:=ou hv
 by_cases hn:vT v.C
 ·rw[(hL.Pe hn).2];intro y hy;simp only[List.mem_cons,List.not_mem_nil,or_false] at hy;rcases hy with q |q
  ·rw[q];exact⟨by omega,by omega⟩
  ·rw[q];exact hC _ (ud U U)
 ·by_cases hs:L.length<v.C.length
  ·rw[(hL.short hn hs).2];intro y hy;simp only[List.mem_cons] at hy;rcases hy with q |q
   ·rw[q];exact⟨by omega,by omega⟩
   ·exact aaQ hv hu hL.enc y q
  ·rw[(hL.N2 hn hs).2];intro y hy;simp only[List.mem_cons] at hy;rcases hy with q |q
   ·rw[q];exact⟨by omega,by omega⟩
   ·exact hC y q
def outs (m:aJ):Nat->Int->List Int
 |0,_=>[]
 |n+1,s=>GR m s++outs m n (s+1)
theorem U0 {m:aJ} (hm:wj m): ∀(n:Nat) (i:Int),i+n=dT m.W m.H->0<=i->(2*n<=(outs m n i).length/\(outs m n i).length<=257*n)/\ ∀y∈outs m n i,eN y:=by
 intro n
 induction n with
 |zero=>intro i _ _;exact⟨by simp[outs],by simp[outs]⟩
 |succ n ih=>
  intro i hi i0;have hs:bI m.W m.H i:=⟨i0,by omega⟩
  obtain⟨L,f,e,hL⟩:=UZ hm hs;obtain⟨t1,t2⟩:=OQ hm hs;have hl:=UY t1 hL;have hc:=ou t1;obtain⟨h1,h2⟩:=ih (i+1) U U;refine⟨by simp only[outs,List.length_append];omega,λy hy=>?_⟩
  simp only[outs,List.mem_append] at hy;rcases hy with q |q
  ·exact age t1 t2 hL y q
  ·exact h2 y q
def Ae (m:aJ):List Int:=[bQ m.W,bQ (Int.fdiv m.W (2^8)),bQ m.H,bQ (Int.fdiv m.H (2^8))]
def bytesOf (m:aJ):List Int:=Ae m++outs m (dT m.W m.H).toNat 0
theorem ahg {m:aJ} (hm:wj m): ∀(n k:Nat) (i:Int) (x:List Int),i+n=dT m.W m.H->0<=i->n<k->x.length<=10+257*i.toNat->kZ.l0 k m x i=some (x++outs m n i):=by
 have ku:=oR m.W m.H;intro n
 induction n with
 |zero=>
  intro k i x hi i0 hk hx;obtain⟨k,rfl⟩:=bl hk;rw[kZ.l0,Ov,aL,ah U];simp[outs]
 |succ n ih=>
  intro k i x hi i0 hk hx;obtain⟨k,rfl⟩:=bl hk;have hs:bI m.W m.H i:=⟨i0,by omega⟩
  obtain⟨L,f,e,hL⟩:=UZ hm hs;obtain⟨t1,t2⟩:=OQ hm hs;have hl:=UY t1 hL;have hc:=ou t1;rw[kZ.l0,Ov,aL,af U,ahh hm.ok,aL,ag3 hc.1 hc.2 hL,aL];simp only;rw[af U,bj U U,ih k (i+1) _ U U U (by simp only[List.length_append];omega)]
  simp[outs]
theorem VW {m:aJ} (hm:wj m):kZ.f m=some (bytesOf m):=by
 have hc:=oR m.W m.H;unfold kZ.f;exact ahg hm (dT m.W m.H).toNat fuel 0 (Ae m) U U (by rw[tD];omega) (by simp[Ae])
theorem adT (m:aJ): ∀y∈Ae m,eN y:=by
 intro y hy;unfold Ae at hy;simp only[List.mem_cons,List.not_mem_nil,or_false,Pp] at hy;unfold eN;rcases hy with q |q |q |q<;>omega
theorem Zs {m:aJ} (hm:wj m): ∀y∈bytesOf m,eN y:=by
 intro y hy;have hc:=oR m.W m.H;unfold bytesOf at hy;rw[List.mem_append] at hy;rcases hy with q |q
 ·exact adT m y q
 ·exact(U0 hm (dT m.W m.H).toNat 0 U U).2 y q
theorem Zr {m:aJ} (hm:wj m):6<=(bytesOf m).length/\(bytesOf m).length<=4+257*(dT m.W m.H).toNat:=by
 have hc:=oR m.W m.H;have hp:=aal hm.ok.1;have:=(U0 hm (dT m.W m.H).toNat 0 U U).1;unfold bytesOf;rw[List.length_append];have:(Ae m).length=4:=rfl;omega
theorem aa0 {x:Int} (h0:0<=x):Int.fdiv x (2^8)=x/256:=by
 rw[Int.fdiv_eq_ediv_of_nonneg _ U];rfl
theorem Th {w:Int} (h0:0<=w) (h1:w<=65535):bQ w+256*bQ (Int.fdiv w (2^8))=w:=by
 rw[aa0 h0,Pp,Pp];omega
def K1 (b:List Int) (n:Int) (r:List Int×Er×eO):Prop:=
 r.2.2.b=b/\0<=r.2.2.ba/\r.2.2.ba<=b.length/\r.1.length<=1000/\(r.2.1= .dW 5∨r.2.1= .dW 6∨(r.2.1= .nil/\(r.1.length:Int)=n/\ ∀y∈r.1,1<=y/\y<=255))
section
variable {b : List Int} {n : Int}
theorem O' (hl:b.length<=100000) {a m:Int} (a0:0<=a) (a1:a<=b.length) (m0:0<=m):(b.length<a+m/\mN.f ⟨b,a⟩ m=some ([],.dW 6,⟨b,a⟩))∨(a+m<=b.length/\mN.f ⟨b,a⟩ m=some (aA b a (a+m),.nil,⟨b,a+m⟩)):=by
 by_cases z:b.length<a+m
 ·exact .inl ⟨z,WD hl a0 a1 z⟩
 ·exact .inr ⟨by omega,WC hl a0 m0 U⟩
theorem QP (hb: ∀y∈b,eN y) (hl:b.length<=100000) {a m:Int} (a0:0<=a) (a1:a<=b.length) (m0:0<=m) (m1:m<=256):Ok (pS.f ⟨b,a⟩ m) (λr=>K1 b m r/\(r.1.length:Int)<=m):=by
 by_cases z:b.length<a+m
 ·exact Ok.of (aak hl a0 a1 z) ⟨⟨J,a0,a1,by simp,.inr (.inl J)⟩,by simpa using m0⟩
 ·have hs:=A3 a0 (show a<=a+m by omega) (show a+m<=b.length by omega)
  refine Ok.of (aaj hl a0 m0 U) ⟨⟨J,by simp only;omega,by simp only;omega,by simp only;omega,?_⟩,by simp only;omega⟩
  simp only
  by_cases y:0∈aA b a (a+m)
  ·rw[af y];exact .inl J
  ·rw[ah y];refine .inr (.inr ⟨J,by omega,λx hx=>?_⟩)
   have h8:=HA (P:=eN) hb x hx;unfold eN at h8;have:x≠0:=λq=>y (by rw[<-q];exact hx)
   omega
theorem ahp (hb: ∀y∈b,eN y) (hl:b.length<=100000) (n1:1<=n/\n<=256) (q:Int): ∀(m k:Nat) (a:Int) (x:List Int),(b.length-a).toNat<=m->m<k->0<=a->a<=b.length->(x.length:Int)<=n->(∀y∈x,1<=y/\y<=255)->
 Ok (pn.l0 k ⟨b,q⟩ n a x) (λz=>(∃e p,z= .inl ([],e,⟨b,p⟩)/\0<=p/\p<=b.length/\(e= .dW 5∨e= .dW 6))∨ ∃x' p,z= .inr (x',p)/\(x'.length:Int)=n/\0<=p/\p<=b.length/\ ∀y∈x',1<=y/\y<=255):=by
 intro m
 induction m with
 |zero=>
  intro k a x hm hk a0 a1 hx hy;obtain⟨k,rfl⟩:=bl hk;rw[pn.l0];refine Ok.ite (λz=>?_) λz=>Ok.pure (.inr ⟨x,a,J,by omega,a0,a1,hy⟩)
  rcases O' hl a0 a1 (show(0:Int)<=2 by omega) with⟨_,e⟩ |⟨t,e⟩
  ·exact Ok.eq e (Ok.pos J (Ok.pure (.inl ⟨_,_,J,a0,a1,.inr J⟩)))
  ·omega
 |succ m ih=>
  intro k a x hm hk a0 a1 hx hy;obtain⟨k,rfl⟩:=bl hk;rw[pn.l0];refine Ok.ite (λz=>?_) λz=>Ok.pure (.inr ⟨x,a,J,by omega,a0,a1,hy⟩)
  rcases O' hl a0 a1 (show(0:Int)<=2 by omega) with⟨_,e⟩ |⟨t,e⟩
  ·exact Ok.eq e (Ok.pos J (Ok.pure (.inl ⟨_,_,J,a0,a1,.inr J⟩)))
  ·refine Ok.eq e (Ok.neg (by simp[Er.isNil]) ?_)
   have hs:=A3 a0 (show a<=a+2 by omega) t
   have r0:=dS (a:=aA b a (a+2)) (i:=0) U U;have r1:=dS (a:=aA b a (a+2)) (i:=1) U U;have u0:=HA (P:=eN) hb _ r0;have u1:=HA (P:=eN) hb _ r1;unfold eN at u0 u1;simp only;generalize rd (aA b a (a+2)) 0=c at*;generalize rd (aA b a (a+2)) 1=v at*;rw[wi (x:=c) U U,wi (x:=c+1) U U,wi (x:=n-(x.length:Int)) U U,wi (x:=(x.length:Int)-1) U U];refine Ok.cw U (Ok.cw U ?_);refine Ok.bind (P:=λy:Bool=>y=false->v≠0/\c+1<=n-x.length) (Ok.ite (λy=>Ok.pure bk) λy=>?_) λy DW=>?_
   ·have y: ¬(v=0∨c+1>n-x.length):=by simpa using y
    refine Ok.ite (λw=>Ok.cw U (Ok.pure λ_=>by omega)) λw=>Ok.pure λ_=>by omega
   ·refine Ok.ite (λw=>Ok.pure (.inl ⟨_,_,J,by omega,by omega,.inl J⟩)) λw=>?_
    obtain⟨v0,c1⟩:=DW (by simpa using w)
    refine Ok.eq (OC U) (Ok.cw bm (ih k (a+2) _ U U U U bm λy aef=>?_));rcases List.mem_append.1 aef with w |w
    ·exact hy y w
    ·have:=List.eq_of_mem_replicate w;omega
theorem Zm (hb: ∀y∈b,eN y) (hl:b.length<=100000) (n1:1<=n/\n<=256):Ok (sK.f ⟨b,0⟩ n) (K1 b n):=by
 unfold sK.f;rcases O' (b:=b) hl (Int.le_refl 0) U (show(0:Int)<=1 by omega) with⟨_,e⟩ |⟨t,e⟩
 ·exact Ok.eq e (Ok.pos J (Ok.pure ⟨J,Int.le_refl _,by simp only;omega,by simp,.inr (.inl J)⟩))
 refine Ok.eq e (Ok.neg (by simp[Er.isNil]) ?_)
 have hs:=A3 (L:=b) (Int.le_refl 0) (show(0:Int)<=0+1 by omega) t
 refine Ok.cw (by simp only;omega) (Ok.ite (λz=>?_) λz=>Ok.ite (λz=>?_) λz=>Ok.ite (λz=>?_) λz=>Ok.pure ⟨J,by simp only;omega,by simp only;omega,by simp,.inl J⟩)
 ·refine(QP hb hl (a:=0+1) (m:=1) U U U U).bind λr hr=>?_
  obtain⟨⟨h1,h2,h3,h4,h5⟩,h9⟩:=hr;rcases h5 with h5 |h5 |⟨h5,h6,h7⟩
  rotate_left 2
  ·obtain⟨y,hy⟩: ∃y,r.1=[y]:=List.length_eq_one_iff.1 U;have:=h7 y (by rw[hy];exact List.mem_cons_self ..)
   rw[hy];refine Ok.eq (OC U) (Ok.pure ⟨J,h2,h3,by simp;omega,.inr (.inr ⟨h5,by simp;omega,λx hx=>?_⟩)⟩)
   have:=List.eq_of_mem_replicate hx;omega
  all_goals
   obtain⟨x,ex,lx⟩: ∃x,ly.f r.1 n=some x/\x.length<=1000:=by
    cases yA:r.1 with
    |nil=>exact⟨_,ag7 U,by simp⟩
    |cons c l=>
     rw[yA] at h9;have:l=[]:=List.length_eq_zero_iff.1 (by simp at h9;omega)
     subst this;exact⟨_,OC U,by simp;omega⟩
   exact Ok.eq ex (Ok.pure ⟨J,h2,h3,lx,by simp[h5]⟩)
 ·refine(QP hb hl (a:=0+1) (m:=n) U U U U).bind λr hr=>Ok.pure ?_
  obtain⟨⟨h1,h2,h3,h4,h5⟩,_⟩:=hr;exact⟨J,h2,h3,h4,h5⟩
 ·unfold pn.f;refine Ok.bind (P:=K1 b n) ?_ λr hr=>Ok.pure ⟨J,hr.2.1,hr.2.2.1,hr.2.2.2.1,hr.2.2.2.2⟩
  refine(ahp hb hl n1 (0+1) 100000 fuel (0+1) [] U (by rw[cM];omega) U U bm bk).bind λz hz=>?_
  rcases hz with⟨e',p,rfl,p0,p1,he⟩ |⟨x',p,rfl,hx,p0,p1,hy⟩
  ·exact Ok.pure ⟨J,p0,p1,by simp,he.imp id .inl⟩
  ·exact Ok.pure ⟨J,p0,p1,by simp only;omega,.inr (.inr ⟨J,hx,hy⟩)⟩
end
theorem OA {x:Int} (h0:0<=x) (h1:x<=255): ∃v,vz.f x=some v/\1<=v/\v<=255:=by
 unfold vz.f;rw[mS h0,mS h0]
 by_cases h7:x%8=7
 ·rw[af (by simpa using h7)];exact⟨_,J,by omega,by omega⟩
 ·rw[ah (by simpa using h7)]
  by_cases h2:x<160
  ·rw[af h2,EF U U];exact⟨_,J,by omega,by omega⟩
  ·rw[ah h2];exact⟨_,J,by omega,by omega⟩
theorem afe {c:List Int} (hc: ∀y∈c,0<=y/\y<=255) {w h:Int} (hw:1<=w/\w<=40) (hh:1<=h/\h<=40): ∀(n k:Nat) (x:List Int) (i:Int),i+n=w*h->i=x.length->n<k->(∀y∈x,1<=y/\y<=255)->
 ∃m,kY.l0 k c w h x i=some m/\m.W=w/\m.H=h/\(m.C.length:Int)=w*h/\ ∀y∈m.C,1<=y/\y<=255:=by
 have Nq:w*h<=40*40:=kA U U hw.2 hh.2;have BW:0<=w*h:=nz U U;intro n
 induction n with
 |zero=>
  intro k x i hi hx hk ha;obtain⟨k,rfl⟩: ∃q,k=q+1:=⟨k-1,by omega⟩
  rw[kY.l0,bj (x:=w*h) U U,ah U];exact⟨_,J,J,J,by simp only;omega,ha⟩
 |succ n ih=>
  intro k x i hi hx hk ha;obtain⟨k,rfl⟩: ∃q,k=q+1:=⟨k-1,by omega⟩
  rw[kY.l0,bj (x:=w*h) U U,af U];have next: ∀v,1<=v->v<=255-> ∃m,kY.l0 k c w h (x++[v]) (aa (i+1))=some m/\m.W=w/\m.H=h/\(m.C.length:Int)=w*h/\ ∀y∈m.C,1<=y/\y<=255:=by
   intro v v0 v1;rw[bj U U];refine ih k _ (i+1) U bm U (λy hy=>?_);rw[List.mem_append] at hy;rcases hy with hy |hy
   ·exact ha y hy
   ·simp at hy;omega
  by_cases hz:(c.length:Int)>0
  ·have bL: ¬(c.length:Int)=0:=U;rw[af hz,af bL,af bL];have Aj:0<=aa (i+aa (aa (Int.tdiv i c.length)*5)):=by
    have hd:0<=i/c.length/\i/c.length<=i:=⟨Int.ediv_nonneg U U,Int.ediv_le_self _ U⟩;rw[qP U,bj (x:=i/_) U U,bj (x:=_*5) U U,bj U U];omega
   have r0:0<=Int.tmod (aa (i+aa (aa (Int.tdiv i c.length)*5))) c.length:=by rw[mS Aj];exact Int.emod_nonneg _ U
   have r1:Int.tmod (aa (i+aa (aa (Int.tdiv i c.length)*5))) c.length<c.length:=by rw[mS Aj];exact Int.emod_lt_of_pos _ U
   rw[af ⟨r0,r1⟩];have jh:=ud (a:=c) r0 r1;obtain⟨q0,q1⟩:=hc _ jh;obtain⟨v,e,v0,v1⟩:=OA q0 q1;rw[e,aL,af U];exact next v v0 v1
  ·rw[ah hz];obtain⟨v,e,v0,v1⟩:=OA (x:=1) U U;rw[e,aL,af U];exact next v v0 v1
theorem afd (w h:Int) {c:List Int} (hc: ∀y∈c,0<=y/\y<=255): ∃m,kY.f w h c=some m/\tq m/\m.W<=40/\m.H<=40/\ ∀y∈m.C,1<=y/\y<=255:=by
 unfold kY.f;have h1:=KZ (n:=w) (lo:=1) (hi:=40) U;have h2:=KZ (n:=h) (lo:=1) (hi:=40) U;rw[KY U U U U,KY U U U U];simp only[aL];generalize 1+w%(40-1+1)=a at h1⊢;generalize 1+h%(40-1+1)=b at h2⊢;have Nq:a*b<=40*40:=kA U U h1.2 h2.2;have BW:0<=a*b:=nz U U;obtain⟨m,e,e1,e2,e3,e4⟩:=afe hc h1 h2 (a*b).toNat fuel [] 0 U bk (by rw[tD];omega) bk
 refine⟨m,e,⟨⟨by omega,by omega,by omega,by omega⟩,by rw[e1,e2];exact e3,λh0=>?_⟩,by omega,by omega,e4⟩
 have:=e4 0 h0;omega
section
theorem abp {b:List Int} (hb: ∀y∈b,eN y) (hl:b.length<=100000) {w h:Int} (hw:1<=w/\w<=16) (hh:1<=h/\h<=16):
 Ok (qF.f b w h) (λr=>(r.2.2=2∨r.2.2=3)∨(r.2.2=0/\r.1.W=w/\r.1.H=h/\(r.1.C.length:Int)=w*h/\(∀y∈r.1.C,1<=y/\y<=255)/\0<=r.2.1/\r.2.1<=b.length)):=by
 have hn:1*1<=w*h:=kA U U hw.1 hh.1;have F5:w*h<=16*16:=kA U U hw.2 hh.2;have NK:aa (w*h)=w*h:=wi U U;obtain⟨⟨x,e,rr⟩,hr,h1,h2,h3,h4,h5⟩:=Zm hb hl (n:=w*h) U;simp only at h1 h2 h3 h4 h5;obtain⟨rb,p⟩:=rr;simp only at h1 h2 h3;subst h1;rcases h5 with rfl |rfl |⟨rfl,h6,h7⟩
 ·exact Ok.of (abq hw hh NK U hr) (.inl (.inr J))
 ·exact Ok.of (abt hw hh NK U hr) (.inl (.inl J))
 ·have ht:rV ⟨w,h,x⟩:=⟨hw.1,hw.2,hh.1,hh.2,h6,λq=>by have:=h7 0 q;omega⟩
  obtain⟨L,f,out,e,_⟩:=Ve ht;refine Ok.of (abr hw hh NK U ⟨h2,h3⟩ hr e) ?_;split
  ·exact .inr ⟨J,J,J,h6,h7,h2,h3⟩
  ·exact .inl (.inr J)
theorem X5:yl.f .nil=some none:=rfl
theorem PW (n:Int):yl.f (.num 243 n)=some (some n):=rfl
theorem X6 (q n:Int):yl.f (.wrap 301 [q] (.num 243 n))=some (some n):=rfl
theorem ag0 {w h:Int} (Nr:iD w h) {b:List Int} (hw:rd b 0+256*rd b 1=w) (hh:rd b 2+256*rd b 3=h) (u0:eN (rd b 0)) (u1:eN (rd b 1)) (u2:eN (rd b 2)) (u3:eN (rd b 3)):
 ∀(n k:Nat) (i:Int) (r x:List Int),i+n=dT w h->0<=i->n<k->(∀y∈r,eN y)->r.length<=100000->(x.length:Int)=w*h->
 (∀c,0<=c->c<w*h->(∃s,0<=s/\s<i/\bI w h s/\qz w h s c)->1<=rd x c/\rd x c<=255)->
 Ok (oI.l0 k b (dT w h) r x i) (λres=>(∃e c,res=(⟨0,0,[]⟩,e)/\yl.f e=some (some c)/\(c=2∨c=3))∨ ∃x',res=(⟨w,h,x'⟩,.nil)/\(x'.length:Int)=w*h/\ ∀c,0<=c->c<w*h->1<=rd x' c/\rd x' c<=255):=by
 have ku:=oR w h;intro n
 induction n with
 |zero=>
  intro k i r x hi i0 hk hr Ge hx ha;obtain⟨k,rfl⟩:=bl hk;rw[oI.l0,DJ u0 u1,DJ u2 u3,hw,hh,ah U];refine Ok.ite (λhz=>Ok.pure (.inl ⟨_,3,J,J,.inr J⟩)) λhz=>Ok.pure (.inr ⟨x,J,hx,λc c0 c1=>?_⟩);obtain⟨s,s1,s2⟩:=ahG (w:=w) (h:=h) (c:=c) ⟨Nr,c0,c1⟩;exact ha c c0 c1 ⟨s,s1.1,by have:=s1.2;omega,s1,s2⟩
 |succ n ih=>
  intro k i r x hi i0 hk hr Ge hx ha;obtain⟨k,rfl⟩:=bl hk;have hs:bI w h i:=⟨i0,by omega⟩
  have hz:=pY hs;rw[oI.l0,DJ u0 u1,DJ u2 u3,hw,hh];refine Ok.pos U (Ok.eq (Hg ..) ((abp hr Ge ⟨hz.1,hz.2.1⟩ ⟨hz.2.2.1,hz.2.2.2⟩).bind λres NB=>?_));rcases NB with q |⟨q1,tW,tH,tC,tB,p0,p1⟩
  ·exact Ok.pos (by rcases q with q |q<;>simp[q]) (Ok.pure (.inl ⟨_,res.2.2,rfl,X6 _ _,q⟩))
  ·obtain⟨x1,f1,f2,f3⟩:=ae1 hs (t:=res.1) tW tH tC (x:=x) hx;have sl:=A3 (L:=r) (lo:=res.2.1) (hi:=(r.length:Int)) p0 p1 U;rw[wi (x:=i+1) U U];refine Ok.neg (by simp[q1]) (Ok.eq f1 (Ok.cw U (ih k (i+1) _ x1 U U U (HA hr) U f2 λc c0 c1 ⟨s,s0,s1,s2,s3⟩=>?_)))
   rw[f3 c c0 c1]
   by_cases z:qz w h i c
   ·rw[af z];have hll:=afb hs z;exact tB _ (ud hll.1 U)
   ·rw[ah z];refine ha c c0 c1 ⟨s,s0,?_,s2,s3⟩;have:s≠i:=λq=>z (by rw[<-q];exact s3)
    omega
theorem XL {b:List Int} (hb: ∀y∈b,eN y) (hl:b.length<=100000):Ok (wu.f b) (λr=>(r.2=2∨r.2=3)∨(r.2=0/\tq r.1/\(∀c:Int,0<=c->c<r.1.W*r.1.H->1<=rd r.1.C c/\rd r.1.C c<=255)/\r.1.W=rd b 0+256*rd b 1/\r.1.H=rd b 2+256*rd b 3)):=by
 unfold wu.f oI.f
 by_cases h4:(b.length:Int)<4
 ·rw[af h4];exact Ok.eq J (Ok.eq (PW 2) (Ok.pos J (Ok.pure (.inl (.inl J)))))
 have u0:eN (rd b 0):=hb _ (ud U U);have u1:eN (rd b 1):=hb _ (ud U U);have u2:eN (rd b 2):=hb _ (ud U U);have u3:eN (rd b 3):=hb _ (ud U U);rw[ah h4,af (show 0<=(0:Int)/\(0:Int)<(b.length:Int) by omega),af (show 0<=(1:Int)/\(1:Int)<(b.length:Int) by omega),af (show 0<=(2:Int)/\(2:Int)<(b.length:Int) by omega),af (show 0<=(3:Int)/\(3:Int)<(b.length:Int) by omega),DJ u0 u1,DJ u2 u3,Az,aL]
 generalize hw:rd b 0+256*rd b 1=w;generalize hh:rd b 2+256*rd b 3=h
 by_cases hm:iD w h
 ·have hp:=tX hm;have hc:=oR w h;rw[decide_eq_true hm,ah bk,af (show 0<=(4:Int)/\(4:Int)<=(b.length:Int)/\(b.length:Int)<=(b.length:Int) by omega),bj (x:=w*h) U U,af (show 0<=w*h/\w*h<=1099511627776 by omega)]
  have e:Bu.f w h=some (dT w h):=by
   unfold Bu.f;rw[Ep,aL];have e:(bo w h).1*(bo w h).2=dT w h:=rfl;rw[e,wi U U]
  rw[e,aL];have sl:=A3 (L:=b) (lo:=4) (hi:=(b.length:Int)) U U U;refine(ag0 hm hw hh u0 u1 u2 u3 (dT w h).toNat fuel 0 (aA b 4 (b.length:Int)) (List.replicate (w*h).toNat 0) U U (by rw[cM];omega) (HA hb) U bm (λc _ _ ⟨s,s0,s1,_⟩=>by omega)).bind λres NB=>?_
  rcases NB with⟨e',c,rfl,h1,h2⟩ |⟨x',rfl,xl,xb⟩
  ·exact Ok.eq h1 (Ok.pos J (Ok.pure (.inl h2)))
  ·refine Ok.eq X5 (Ok.neg bk (Ok.pure (.inr ⟨J,⟨hm,xl,λq=>?_⟩,xb,J,J⟩)));obtain⟨c,c0,c1,e⟩:=jK q;have:=xb c c0 (by simp only at c1;omega)
   simp only at e;rw[e] at this;omega
 ·rw[decide_eq_false hm,af bk];exact Ok.eq J (Ok.eq (PW 3) (Ok.pos J (Ok.pure (.inl (.inr J)))))
theorem VT (w h:Int) {c:List Int} (hc: ∀y∈c,eN y): ∃m,kY.f w h c=some m/\wj m/\m.W<=40/\m.H<=40:=by
 obtain⟨m,e,ok,w40,h40,hb⟩:=afd w h (c:=c) (λy hy=>by have:=hc y hy;unfold eN at this;omega)
 exact⟨m,e,⟨ok,hb⟩,w40,h40⟩
end
section
structure rh (o:dn):Prop where
 k:0<=o.Kind/\o.Kind<=8
 a:0<=o.A/\o.A<=1000000
 b:0<=o.B/\o.B<=1000000
 m:o.Kind≠1->o.Map=[]
 b2:o.Kind=2->o.B<=255
 b5:o.Kind=5->o.B=0
 z:o.Kind=1∨o.Kind=7∨o.Kind=8->o.A=0/\o.B=0
 ld:o.Kind=1->(∀y∈o.Map,eN y)/\4<=o.Map.length/\o.Map.length<=100000/\rd o.Map 0+256*rd o.Map 1<=40/\rd o.Map 2+256*rd o.Map 3<=40
theorem Rj {n:Int} (h0:0<=n) (h1:n<=1000000):rF.f n 4=some true:=by
 unfold rF.f;have e:aa (1*(2^(min (Int.toNat (aa (8*4))) (IntKind.bits .i64))))=4294967296:=by decide
 rw[e,af h0,af (by decide),decide_eq_true U]
theorem aa6 {n:Int} (h0:0<=n) (h1:n<=255):rF.f n 1=some true:=by
 unfold rF.f;have e:aa (1*(2^(min (Int.toNat (aa (8*1))) (IntKind.bits .i64))))=256:=by decide
 rw[e,af h0,af (by decide),decide_eq_true U]
theorem IV:rF.f 0 0=some true:=by decide
theorem af' {o:dn} (h:rh o) (hk:o.Kind≠0):Cr.f o=some true:=by
 have hm:=h.m;have rB:=h.ld;have hz:=h.z;have h2:=h.b2;have h5:=h.b5;have ha:=Rj h.a.1 h.a.2;have hb:=Rj h.b.1 h.b.2;unfold Cr.f;rw[ah (by simpa using hk)]
 have hc:o.Kind=1∨o.Kind=2∨o.Kind=3∨o.Kind=4∨o.Kind=5∨o.Kind=6∨o.Kind=7∨o.Kind=8:=by have:=h.k;omega
 rcases hc with e |e |e |e |e |e |e |e
 ·have:=hz (.inl e);have hl:=rB e;simp only[e,this.1,this.2,pk.f,beq_self_eq_true,if_true,aL,IV]
  by_cases q:(o.Map.length:Int)=0
  ·omega
  ·rw[ah (by simpa using q)];simp;omega
 ·have DH:=aa6 h.b.1 (h2 e);simp[e,pk.f,ha,DH,hm U]
 ·simp[e,pk.f,ha,hb,hm U]
 ·simp[e,pk.f,ha,hb,hm U]
 ·simp[e,pk.f,ha,h5 e,IV,hm U]
 ·simp[e,pk.f,ha,hb,hm U]
 ·have:=hz (.inr (.inl e));simp[e,pk.f,this.1,this.2,IV,hm U]
 ·have:=hz (.inr (.inr e));simp[e,pk.f,this.1,this.2,IV,hm U]
theorem xN {n lo hi:Int} (h0:0<=lo) (h1:lo<=hi) (h2:hi<=1000000): ∃r,fa.f n lo hi=some r/\lo<=r/\r<=hi:=
 ⟨_,KY U U h1 U,KZ h1⟩
theorem Po (x:Int):0<=bQ x/\bQ x<=255:=aiQ x
theorem ah4 (x:sx) {n:Int} (n1:1<=n) (n2:n<=1600):Ok (xk.f x n) rh:=by
 obtain⟨a,ea,a0,a1⟩:=xN (n:=x.B) (lo:=1) (hi:=6) U U U;obtain⟨b,eb,b0,b1⟩:=xN (n:=x.A) (lo:=0) (hi:=5) U U U;obtain⟨c,ec,c0,c1⟩:=xN (n:=x.A) (lo:=0) (hi:=9) U U U;obtain⟨d,ed,d0,d1⟩:=xN (n:=x.A) (lo:=0) (hi:=n-1) U U U;obtain⟨e,ee,e0,e1⟩:=xN (n:=x.A) (lo:=0) (hi:=1) U U U;unfold xk.f;rw[ea,eb,ec,wi (x:=n-1) U U,ed,ee];simp only[aL];rw[wi (x:=n+b) U U,wi (x:=e*255) U U];have w1:=Po x.A;have w2:=Po x.B;refine Ok.ite (λq=>Ok.pure ?_) λq=>Ok.ite (λq'=>Ok.pure ?_) λq'=>Ok.ite (λCy=>Ok.pure ?_) λCy=>Ok.pure ?_
 ·have q:a=1:=by simpa using q
  subst q;refine⟨by simp,by simp,by simp,λz=>by simp at z,λz=>by simp at z,λz=>by simp at z,λ_=>⟨J,J⟩,λ_=>⟨λy hy=>?_,by simp,by simp,by simp[rd],by simp[rd]⟩⟩
  unfold eN;simp only[List.mem_cons,List.not_mem_nil,or_false] at hy;rcases hy with rfl |rfl |rfl |rfl |rfl |rfl |rfl<;>omega
 ·have q':a=2:=by simpa using q'
  subst q';exact⟨by simp,by simp only;omega,by simp only;omega,λ_=>rfl,λ_=>by simp only;omega,λz=>by simp at z,λz=>by simp at z,λz=>by simp at z⟩
 ·have Cy:a=5:=by simpa using Cy
  subst Cy;exact⟨by simp,by simp only;omega,by simp,λ_=>rfl,λz=>by simp at z,λ_=>rfl,λz=>by simp at z,λz=>by simp at z⟩
 ·have q:a≠1:=by simpa using q
  have q':a≠2:=by simpa using q'
  have Cy:a≠5:=by simpa using Cy
  exact⟨by simp only;omega,by simp only;omega,by simp only;omega,λ_=>rfl,λz=>absurd z q',λz=>absurd z Cy,λz=>by simp only at z;omega,λz=>absurd z q⟩
theorem Uw {m:aJ} (hm:wj m) (h1:m.W<=40) (h2:m.H<=40):rh ⟨1,0,0,bytesOf m⟩:=by
 have Nx:=hm.ok.1;have hl:=Zr hm;have hc:=oR m.W m.H;have e: ∀j:Int,0<=j->j<4->rd (bytesOf m) j=rd (Ae m) j:=λj j0 j1=>by unfold bytesOf;exact yW j0 (by simp[Ae];omega)
 have hw:=Th (w:=m.W) U U;have hh:=Th (w:=m.H) U U;refine⟨by simp,by simp,by simp,λz=>by simp at z,λz=>by simp at z,λz=>by simp at z,λ_=>⟨J,J⟩,λ_=>⟨Zs hm,by simp only;omega,?_,?_,?_⟩⟩
 ·have:dT m.W m.H<=3*3:=by
   unfold dT bo;rw[af hm.ok.1];exact kA (by simp only;omega) (by simp only;omega) (by simp only;omega) (by simp only;omega)
  simp only;omega
 ·simp only;rw[e 0 U U,e 1 U U]
  show bQ m.W+256*bQ (Int.fdiv m.W (2^8))<=40
  omega
 ·simp only;rw[e 2 U U,e 3 U U]
  show bQ m.H+256*bQ (Int.fdiv m.H (2^8))<=40
  omega
theorem Ux {m:aJ} (hm:wj m) (h1:m.W<=40) (h2:m.H<=40):1<=m.C.length/\m.C.length<=1600:=by
 have hp:=tX hm.ok.1;have:=hm.ok.2.1;have Nx:=hm.ok.1;have:m.W*m.H<=40*40:=kA U U h1 h2;omega
theorem ahA (w h:Int) {c:List Int} (hc: ∀y∈c,eN y) (l:List sx): ∀(n k:Nat) (a b:Int) (C:List Int) (x:List dn) (N i:Int),(60-i).toNat<=n->n<k->0<=i->1<=N->N<=1600->(x.length:Int)<=1+i->i<=60->(∀o∈x,rh o)->x≠[]->
 Ok (nG.l0 k w h c l a b C x N i) (λr=>r≠[]/\r.length<=61/\ ∀o∈r,rh o):=by
 have fin: ∀(k:Nat) (a b:Int) (C:List Int) (x:List dn) (N i:Int),¬(i<l.length/\i<60)->(x.length:Int)<=1+i->i<=60->(∀o∈x,rh o)->x≠[]->Ok (nG.l0 (k+1) w h c l a b C x N i) (λr=>r≠[]/\r.length<=61/\ ∀o∈r,rh o):=λk a b C x N i hi hx dZ ha bL=>by
  rw[nG.l0,ah (by simpa using hi)]
  exact Ok.pure ⟨bL,by omega,ha⟩
 intro n
 induction n with
 |zero=>
  intro k a b C x N i hn hk h0 n1 n2 hx dZ ha bL;obtain⟨k,rfl⟩:=bl hk;exact fin k a b C x N i U hx dZ ha bL
 |succ n ih=>
  intro k a b C x N i hn hk h0 n1 n2 hx dZ ha bL;obtain⟨k,rfl⟩:=bl hk
  by_cases aQ:i<l.length/\i<60
  ·rw[nG.l0,af (by simpa using aQ),af ⟨h0,aQ.1⟩,wi (x:=N-1) U U,wi (x:=i+1) U U]
   obtain⟨p,ep,p0,p1⟩:=xN (n:=(rd l i).A) (lo:=0) (hi:=N-1) U U U;obtain⟨q,eq,q0,q1⟩:=xN (n:=(rd l i).B) (lo:=0) (hi:=N-1) U U U;obtain⟨v,ev,v0,v1⟩:=xN (n:=(rd l i).Kind) (lo:=0) (hi:=15) U U U;obtain⟨s,es,s0,s1⟩:=xN (n:=(rd l i).A) (lo:=0) (hi:=9) U U U;obtain⟨t,et,t0,t1⟩:=xN (n:=(rd l i).B) (lo:=0) (hi:=200) U U U;rw[ep,eq,ev,es,et];simp only[aL];refine Ok.bind (P:=λr:Int×Int×List Int×Int×Int×Int×Int×List Int=>1<=r.2.2.2.1/\r.2.2.2.1<=1600/\rh ⟨r.2.2.2.2.1,r.2.2.2.2.2.1,r.2.2.2.2.2.2.1,r.2.2.2.2.2.2.2⟩) ?_ λr hr=>Ok.cw U (ih k _ _ _ _ _ (i+1) U U U hr.1 hr.2.1 bm U (λo ho=>?_) bk)
   ·have e3:(if(v==0)=true then(some (v==0)) else(if(v==1)=true then(some (v==1)) else(some (v==2))))=some (decide (v=0∨v=1∨v=2)):=by
     by_cases z:v=0
     ·simp[z]
     ·by_cases z':v=1<;>simp[z,z']
      rw[Bool.eq_iff_iff];simp
    refine Ok.eq e3 (Ok.ite (λz=>Ok.pure ⟨n1,n2,by simp,by simp only;omega,by simp only;omega,λ_=>rfl,λz=>by simp at z,λz=>by simp at z,λz=>by simp at z,λz=>by simp at z⟩) λz=>?_)
    refine Ok.ite (λz=>Ok.pure ⟨n1,n2,by simp,by simp only;omega,by simp only;omega,λ_=>rfl,λz=>by simp at z,λz=>by simp at z,λz=>by simp at z,λz=>by simp at z⟩) λz=>?_
    refine Ok.ite (λz=>Ok.pure ⟨n1,n2,by simp,by simp only;omega,by simp,λ_=>rfl,λz=>by simp at z,λ_=>rfl,λz=>by simp at z,λz=>by simp at z⟩) λz=>?_
    have e4:(if(v==5)=true then(some (v==5)) else(some (v==6)))=some (decide (v=5∨v=6)):=by
     by_cases z:v=5<;>simp[z]
     rw[Bool.eq_iff_iff];simp
    refine Ok.eq e4 (Ok.ite (λz=>?_) λz=>?_)
    ·have TR:=Po (rd l i).B;obtain⟨u,eu,u0,u1⟩:=OA TR.1 TR.2;refine Ok.eq eu (Ok.pure ⟨n1,n2,by simp,by simp only;omega,by simp only;rw[wi U U];omega,λ_=>rfl,λ_=>by simp only;rw[wi U U];omega,λz=>by simp at z,λz=>by simp at z,λz=>by simp at z⟩)
    have e5:(if(v==7)=true then(some (v==7)) else(some (v==8)))=some (decide (v=7∨v=8)):=by
     by_cases z:v=7<;>simp[z]
     rw[Bool.eq_iff_iff];simp
    refine Ok.eq e5 (Ok.ite (λz=>Ok.pure ⟨n1,n2,by simp,by simp only;omega,by simp only;omega,λ_=>rfl,λz=>by simp at z,λz=>by simp at z,λz=>by simp at z,λz=>by simp at z⟩) λz=>?_)
    refine Ok.ite (λz=>Ok.pure ⟨n1,n2,by simp,by simp,by simp,λ_=>rfl,λz=>by simp at z,λz=>by simp at z,λ_=>⟨J,J⟩,λz=>by simp at z⟩) λz=>?_
    refine Ok.ite (λz=>Ok.ite (λz=>?_) λz=>?_) λz=>Ok.ite (λz=>?_) λz=>?_
    ·obtain⟨m,em,hm,m1,m2⟩:=VT (aa (w+(aa (Int.tdiv (rd l i).A 4)))) (aa (h+(rd l i).B)) hc;have:=Ux hm m1 m2;exact Ok.eq em (Ok.eq (VW hm) (Ok.pure ⟨by simp only;omega,by simp only;omega,Uw hm m1 m2⟩))
    ·exact Ok.pure ⟨n1,n2,by simp,by simp only;rw[wi U U];omega,by simp,λ_=>rfl,λz=>by simp at z,λz=>by simp at z,λz=>by simp at z,λz=>by simp at z⟩
    ·exact(ah4 (rd l i) n1 n2).bind λo ho=>Ok.pure ⟨n1,n2,ho⟩
    ·exact Ok.pure ⟨n1,n2,by simp,by simp,by simp,λ_=>rfl,λz=>by simp at z,λz=>by simp at z,λ_=>⟨J,J⟩,λz=>by simp at z⟩
   ·rcases List.mem_append.1 ho with z |z
    ·exact ha o z
    ·simp only[List.mem_cons,List.not_mem_nil,or_false] at z;rw[z];exact hr.2.2
  ·exact fin k a b C x N i aQ hx dZ ha bL
theorem ahz (w h:Int) {c:List Int} (hc: ∀y∈c,eN y) (l:List sx):Ok (nG.f w h c l) (λr=>r≠[]/\r.length<=61/\ ∀o∈r,rh o):=by
 unfold nG.f;obtain⟨m,em,hm,m1,m2⟩:=VT w h hc;have:=Ux hm m1 m2;refine Ok.eq em (Ok.eq (VW hm) (ahA w h hc l 60 fuel _ _ _ _ _ 0 U (by rw[cM];omega) U U U bk U (λo ho=>?_) bk))
 simp only[List.mem_cons,List.not_mem_nil,or_false] at ho;rw[ho];exact Uw hm m1 m2
end
structure US (u:eW) (most:Int) (L:List aD):Prop where
 J7:u.most=most
 mb:1<=most/\most<=65536
 next:0<=u.next/\u.next<=1000000
 keys:(u.live.map (·.1)).Nodup
 len:u.live.length=L.length
 has: ∀k,bM u.live k=true-> ∃x∈L,x.Id=k
 val: ∀x∈L,cZ u.live x.Id=some x
 ord:u.order.filter (λk=>bM u.live k)=L.map (·.Id)
 aZ: ∀k∈u.order,0<=k/\k<u.next
 GP:(u.order.length:Int)<=u.next
 up:(L.map (·.Id)).Pairwise (· < ·)
def nP (L:List aD) (k:Int):Option aD:=L.find? (λx=>x.Id==k)
def zn (L:List aD) (k:Int):aD×Bool:=match nP L k with
 |some x=>(x,true)
 |none=>(⟨0,0,0⟩,false)
def A8 (L:List aD) (k:Int):Bool:=(nP L k).isSome
def l7 (L:List aD) (k:Int):List aD:=L.filter (λx=>x.Id !=k)
def gF (L:List aD) (k:Int) (f:aD->aD):List aD:=L.map (λx=>if x.Id=k then f x else x)
theorem A7 {L:List aD} {k:Int} {x:aD} (h:nP L k=some x):x∈L/\x.Id=k:=
 ⟨List.mem_of_find?_eq_some h,by simpa using List.find?_some h⟩
theorem HC {L:List aD} {k:Int} (h:nP L k=none): ∀x∈L,x.Id≠k:=by
 intro x hx e;have:=List.find?_eq_none.1 h x hx;simp[e] at this
theorem B3 {L:List aD} (h:(L.map (·.Id)).Pairwise (· < ·)) {x y:aD} (hx:x∈L) (hy:y∈L) (e:x.Id=y.Id):x=y:=by
 obtain⟨i,hi,rfl⟩:=List.mem_iff_getElem.1 hx;obtain⟨j,hj,rfl⟩:=List.mem_iff_getElem.1 hy;have key:=List.pairwise_iff_getElem.1 h;have:i=j:=by
  rcases Nat.lt_trichotomy i j with q |q |q
  ·have:=key i j (by simpa using hi) (by simpa using hj) q
   simp at this;omega
  ·exact q
  ·have:=key j i (by simpa using hj) (by simpa using hi) q
   simp at this;omega
 subst this;rfl
theorem Pd {L:List aD} (h:(L.map (·.Id)).Pairwise (· < ·)) {x:aD} (hx:x∈L):nP L x.Id=some x:=by
 cases hf:nP L x.Id with
 |none=>exact absurd J (HC hf x hx)
 |some y=>
  obtain⟨h1,h2⟩:=A7 hf;rw[B3 h h1 hx h2]
variable {u : eW} {most : Int} {L : List aD}
theorem US.get (h:US u most L) (k:Int):cZ u.live k=nP L k:=by
 cases hf:nP L k with
 |some x=>
  obtain⟨h1,h2⟩:=A7 hf;rw[<-h2];exact h.val x h1
 |none=>
  cases hg:cZ u.live k with
  |none=>rfl
  |some v=>
   obtain⟨x,hx,e⟩:=h.has k (GH hg);exact absurd e (HC hf x hx)
theorem US.eG (h:US u most L):(L.length:Int)<=u.next:=by
 have h1:(L.map (·.Id)).length<=u.order.length:=by rw[<-h.ord];exact List.length_filter_le ..
 have:=h.GP;simp at h1;omega
theorem afP (most:Int):xF.f most=some (if 1<=most/\most<=65536 then some (eW.mk most 0 [] []) else none):=by
 unfold xF.f
 by_cases h:1<=most/\most<=65536
 ·rw[ah bm,af h]
 ·rw[af bm,ah h]
theorem afS (h:1<=most/\most<=65536):US (eW.mk most 0 [] []) most []:=
 ⟨J,h,by simp,by simp,J,by simp[bM,cZ],by simp,by simp,by simp,by simp,by simp⟩
theorem XP (hb:u.order.length<=1000000): ∀(n k:Nat) (i:Int) (xs:List Int),i+n=u.order.length->0<=i->n<k->(xs.length:Int)<=i->
 lH.l0 k u xs i=some (xs++(u.order.drop i.toNat).filter (λq=>bM u.live q)):=by
 intro n
 induction n with
 |zero=>
  intro k i xs hi h0 hk hx;obtain⟨k,rfl⟩:=bl hk;rw[lH.l0,ah U,List.drop_of_length_le U];simp
 |succ n ih=>
  intro k i xs hi h0 hk hx;obtain⟨k,rfl⟩:=bl hk;rw[lH.l0,af U,af U,wi U U,BF h0 U]
  by_cases hm:bM u.live (rd u.order i)=true
  ·rw[af hm,af U,ih k (i+1) _ U U U bm];simp[hm]
  ·rw[ah hm,ih k (i+1) _ U U U U];simp[hm]
theorem XO (hb:u.order.length<=1000000):lH.f u=some (u.order.filter (λq=>bM u.live q)):=by
 unfold lH.f;rw[XP hb u.order.length fuel 0 [] U U (by rw[cM];omega) bk];simp
theorem US.ob (h:US u most L):u.order.length<=1000000:=by have:=h.GP;have:=h.next;omega
theorem PT (h:US u most L):lH.f u=some (L.map (·.Id)):=by rw[XO h.ob,h.ord]
theorem XR {v:List Int} (hb:v.length<=1000000): ∀(n k:Nat) (i:Int) (xs:List aD),i+n=v.length->0<=i->n<k->(xs.length:Int)<=i->
 ov.l0 k u v xs i=some (xs++(v.drop i.toNat).map (λq=>aP u.live q)):=by
 intro n
 induction n with
 |zero=>
  intro k i xs hi h0 hk hx;obtain⟨k,rfl⟩:=bl hk;rw[ov.l0,ah U,List.drop_of_length_le U];simp
 |succ n ih=>
  intro k i xs hi h0 hk hx;obtain⟨k,rfl⟩:=bl hk;rw[ov.l0,af U,af U,af U,wi U U,BF h0 U,ih k (i+1) _ U U U bm];simp
theorem XQ (h:US u most L):ov.f u=some L:=by
 unfold ov.f;have hc:=h.eG;have hn:=h.next
 rw[PT h,aL,XR bm L.length fuel 0 [] bk U (by rw[cM];omega) bk]
 simp only[List.nil_append,Int.toNat_zero,List.drop_zero,List.map_map]
 congr 1
 conv=>rhs;rw[<-List.map_id L]
 refine List.map_congr_left λx hx=>?_
 simp only[Function.comp,id];exact afF (h.val x hx)
theorem ae9 (h:US u most L):vV.f u=some (L.length:Int):=by unfold vV.f;rw[h.len]
theorem Dy (h:US u most L) (k:Int):ox.f u k=some (zn L k):=by
 unfold ox.f zn;have hg:=h.get k
 cases hf:nP L k with
 |some x=>rw[hf] at hg;simp[aP,bM,hg]
 |none=>rw[hf] at hg;simp[aP,bM,hg];exact⟨J,J,J⟩
theorem XJ (h:US u most L) (hn:u.next<1000000) (c g:Int):(most<=L.length->vU.f u c g=some (0,false,u))/\
 ((L.length:Int)<most-> ∃u',vU.f u c g=some (u.next,true,u')/\u'.next=u.next+1/\US u' most (L++[⟨u.next,c,g⟩])):=by
 have hb:=h.next
 have ho:=h.ob;unfold vU.f;rw[h.len,h.J7];refine⟨λhl=>by rw[af hl],λhl=>?_⟩
 have M_:=h.eG;have gD:cZ u.live u.next=none:=by
  rw[h.get]
  cases hf:nP L u.next with
  |none=>rfl
  |some x=>
   obtain⟨h1,h2⟩:=A7 hf;have:x.Id∈u.order.filter (λk=>bM u.live k):=by rw[h.ord];exact List.mem_map.2 ⟨x,h1,J⟩
   have:=h.aZ _ (List.mem_filter.1 this).1;omega
 have Ts: ∀k,bM (cE u.live u.next ⟨u.next,c,g⟩) k=(decide (u.next=k)||bM u.live k):=λk=>D5 ..
 refine⟨_,by rw[ah U,af U],by simp only;rw[wi U U],?_⟩
 rw[wi U U];refine⟨J,h.mb,by simp only;omega,Ch h.keys _ _,?_,?_,?_,?_,?_,?_,?_⟩
 ·simp only;rw[UB,ah (by simp[bM,gD]),h.len];simp
 ·intro k hk;rw[Ts] at hk;rcases Bool.or_eq_true_iff.1 hk with hk |hk
  ·exact⟨⟨u.next,c,g⟩,by simp,by simpa using hk⟩
  ·obtain⟨x,hx,e⟩:=h.has k hk;exact⟨x,by simp[hx],e⟩
 ·intro x hx;simp only[AA];rcases List.mem_append.1 hx with hx |hx
  ·rw[ah (λe=>by rw[e,h.val x hx] at gD;cases gD)];exact h.val x hx
  ·simp at hx;subst hx;simp
 ·simp only[Ts,List.filter_append,List.map_append]
  congr 1
  ·rw[<-h.ord];refine List.filter_congr λk hk=>?_
   have:=h.aZ k hk;have:decide (u.next=k)=false:=by simp;omega
   rw[this];rfl
  ·simp
 ·intro k hk;simp only at hk⊢;rcases List.mem_append.1 hk with hk |hk
  ·have:=h.aZ k hk;omega
  ·simp at hk;omega
 ·have:=h.GP;simp;omega
 ·rw[List.map_append,List.pairwise_append];refine⟨h.up,by simp,λa ha b jv=>?_⟩
  simp at jv;rw[<-h.ord] at ha;have:=h.aZ a (List.mem_filter.1 ha).1;omega
theorem aiK {f:aD->aD} (hf: ∀x,(f x).Id=x.Id) (k:Int):(gF L k f).map (·.Id)=L.map (·.Id):=by
 unfold gF;rw[List.map_map];refine List.map_congr_left λx _=>?_
 simp only[Function.comp];split
 ·exact hf x
 ·rfl
theorem WK (h:US u most L) {k:Int} {x:aD} (hx:nP L k=some x) (f:aD->aD) (hf: ∀x,(f x).Id=x.Id):
 US (eW.mk u.most u.next (cE u.live k (f x)) u.order) most (gF L k f):=by
 obtain⟨h1,h2⟩:=A7 hx;have hg:cZ u.live k=some x:=by rw[h.get,hx]
 have hh: ∀q,bM (cE u.live k (f x)) q=bM u.live q:=λq=>by
  rw[D5]
  by_cases e:k=q
  ·subst e;simp[GH hg]
  ·simp[e]
 have DO:=aiK (L:=L) hf k;refine⟨h.J7,h.mb,h.next,Ch h.keys _ _,?_,?_,?_,?_,h.aZ,h.GP,by rw[DO];exact h.up⟩
 ·simp only;rw[UB,af (GH hg),h.len];simp[gF]
 ·intro q hq;rw[hh] at hq;obtain⟨y,hy,e⟩:=h.has q hq;have:q∈(gF L k f).map (·.Id):=by rw[DO];exact List.mem_map.2 ⟨y,hy,e⟩
  obtain⟨z,hz,e⟩:=List.mem_map.1 this;exact⟨z,hz,e⟩
 ·intro y hy;unfold gF at hy;obtain⟨z,hz,rfl⟩:=List.mem_map.1 hy;simp only[AA]
  by_cases e:z.Id=k
  ·rw[af e,hf,e,af J];have:z=x:=B3 h.up hz h1 (e.trans h2.symm);rw[this]
  ·rw[ah e,ah (λq=>e q.symm)];exact h.val z hz
 ·simp only[hh];rw[h.ord,DO]
theorem XN (h:US u most L) (k g:Int): ∃u',xG.f u k g=some (A8 L k,u')/\u'.next=u.next/\US u' most (gF L k (λx=>⟨x.Id,x.Cell,g⟩)):=by
 unfold xG.f A8
 first |unfold xJ.f |unfold xK.f
 rw[Dy h];unfold zn
 cases hf:nP L k with
 |some x=>exact⟨_,J,J,WK h hf (λx=>⟨x.Id,x.Cell,g⟩) (λ_=>rfl)⟩
 |none=>
  refine⟨u,J,J,?_⟩;have:gF L k (λx=>⟨x.Id,x.Cell,g⟩)=L:=by
   unfold gF
   conv=>rhs;rw[<-List.map_id L]
   refine List.map_congr_left λx hx=>?_
   rw[ah (HC hf x hx)];rfl
  rw[this];exact h
theorem afy (h:US u most L) (k g:Int): ∃u',xI.f u k g=some (A8 L k,u')/\u'.next=u.next/\US u' most (gF L k (λx=>⟨x.Id,g,x.Goal⟩)):=by
 unfold xI.f A8
 first |unfold xK.f |unfold xJ.f
 rw[Dy h];unfold zn
 cases hf:nP L k with
 |some x=>exact⟨_,J,J,WK h hf (λx=>⟨x.Id,g,x.Goal⟩) (λ_=>rfl)⟩
 |none=>
  refine⟨u,J,J,?_⟩;have:gF L k (λx=>⟨x.Id,g,x.Goal⟩)=L:=by
   unfold gF
   conv=>rhs;rw[<-List.map_id L]
   refine List.map_congr_left λx hx=>?_
   rw[ah (HC hf x hx)];rfl
  rw[this];exact h
theorem aiJ {k:Int} (hf:nP L k=none):l7 L k=L:=by
 unfold l7;rw[List.filter_eq_self];intro x hx;simpa using HC hf x hx
theorem KM (h:(L.map (·.Id)).Pairwise (· < ·)) {k:Int} {x:aD} (hx:nP L k=some x):(l7 L k).length+1=L.length:=by
 obtain⟨h1,h2⟩:=A7 hx;clear hx
 induction L with
 |nil=>cases h1
 |cons y r ih=>
  rw[List.map_cons,List.pairwise_cons] at h;unfold l7 at ih⊢
  by_cases e:y.Id=k
  ·have:r.filter (λz=>z.Id !=k)=r:=by
    rw[List.filter_eq_self];intro z hz;have:=h.1 z.Id (List.mem_map.2 ⟨z,hz,J⟩);simp;omega
   simp[e,this]
  ·have hxr:x∈r:=by
    rcases List.mem_cons.1 h1 with q |q
    ·subst q;exact absurd h2 e
    ·exact q
   have:=ih h.2 hxr;simp[e];omega
theorem aaM (h:US u most L) (k:Int): ∃u',xH.f u k=some (A8 L k,u')/\u'.next=u.next/\US u' most (l7 L k):=by
 unfold xH.f A8;rw[Dy h];unfold zn
 cases hf:nP L k with
 |none=>rw[aiJ hf];exact⟨u,J,J,h⟩
 |some x=>
  obtain⟨h1,h2⟩:=A7 hf;have hg:cZ u.live k=some x:=by rw[h.get,hf]
  have hh: ∀q,bM (dO u.live k) q=(!decide (k=q)&&bM u.live q):=λq=>afr h.keys ..
  have BX:u.order.filter (λq=>bM (dO u.live k) q)=(l7 L k).map (·.Id):=by
   simp only[hh];rw[<-List.filter_filter,h.ord];unfold l7;rw[List.filter_map]
   congr 1
   refine List.filter_congr λy _=>?_
   simp only[Function.comp]
   by_cases e:y.Id=k
   ·simp[e]
   ·have: ¬k=y.Id:=λq=>e q.symm
    simp[e,this]
  have wR:US (eW.mk u.most u.next (dO u.live k) u.order) most (l7 L k):=by
   refine⟨h.J7,h.mb,h.next,J2 h.keys _,?_,?_,?_,BX,h.aZ,h.GP,?_⟩
   ·simp only;rw[afm,af (GH hg),h.len];have:=KM h.up hf;omega
   ·intro q hq;rw[hh] at hq;simp only[Bool.and_eq_true,Bool.not_eq_true',decide_eq_false_iff_not] at hq;obtain⟨y,hy,e⟩:=h.has q hq.2;exact⟨y,by unfold l7;rw[List.mem_filter];exact⟨hy,by simp;omega⟩,e⟩
   ·intro y hy;unfold l7 at hy;rw[List.mem_filter] at hy;have:y.Id≠k:=by simpa using hy.2
    simp only;rw[J4 h.keys,ah (λq=>this q.symm)];exact h.val y hy.1
   ·exact h.up.sublist ((List.filter_sublist).map _)
  have hn:=h.next
  have hob:=h.ob;have hc:=h.eG;have BR:=KM h.up hf;simp only[aL,Bool.not_true,Bool.false_eq_true,if_false];have Nv:((dO u.live k).length:Int)=(l7 L k).length:=by have:=wR.len;simp only at this;omega
  split
  ·rw[PT wR];refine⟨_,J,J,?_⟩;have hl:((l7 L k).length:Int)<=u.next:=wR.eG
   refine⟨h.J7,h.mb,h.next,wR.keys,wR.len,wR.has,wR.val,?_,?_,by simpa using hl,wR.up⟩
   ·simp only;rw[List.filter_eq_self];intro q hq;obtain⟨y,hy,rfl⟩:=List.mem_map.1 hq;exact GH (wR.val y hy)
   ·intro q hq;simp only at hq⊢;rw[<-BX] at hq;exact h.aZ q (List.mem_filter.1 hq).1
  ·exact⟨_,J,J,wR⟩
def qW (n:Int) (f:fk):Prop:=(f.words.length:Int)=n/\ ∀c,0<=c->c<n->0<=rd f.words c/\rd f.words c<=4294967295
def mC (n:Int) (f:fk) (c:Int):Int:=if 0<=c/\c<n then rd f.words c-1 else-1
def rm (n:Int) (f:fk) (c:Int):Prop:=0<=c/\c<n/\rd f.words c=0
instance (n:Int) (f:fk) (c:Int):Decidable (rm n f c):=by unfold rm;infer_instance
def iw (f:fk) (c v k:Int):fk:=fk.mk (List.set f.words (Int.toNat c) v) (f.count+k)
theorem aa' (n:Int):ss.f n=some (if 1<=n/\n<=1048576 then some (fk.mk (List.replicate n.toNat 0) 0) else none):=by
 unfold ss.f
 by_cases h:1<=n/\n<=1048576
 ·rw[ah bm,af h,af U]
 ·rw[af bm,ah h]
theorem aba {n:Int} (h:1<=n):qW n (fk.mk (List.replicate n.toNat 0) 0):=by
 refine⟨by simp;omega,λc c0 c1=>?_⟩
 rw[vy c0 U];omega
variable {n : Int} {f : fk}
theorem Ri (hf:qW n f) (c:Int):yn.f f c=some (decide (0<=c/\c<n)):=by
 unfold yn.f;rw[hf.1]
 by_cases h:0<=c
 ·rw[af U];simp[h]
 ·rw[ah U];simp[h]
theorem Ro (hf:qW n f) (c:Int):ym.f f c=some (decide (rm n f c)):=by
 unfold ym.f;rw[Ri hf,hf.1]
 by_cases h:0<=c/\c<n
 ·by_cases q:rd f.words c=0
  ·have:rm n f c:=⟨h.1,h.2,q⟩;simp[h,q,this]
  ·have: ¬rm n f c:=λz=>q z.2.2
   simp[h,q,this]
 ·have: ¬rm n f c:=λz=>h ⟨z.1,z.2.1⟩
  simp[h,this]
theorem KX (hf:qW n f) (c:Int):qq.f f c=some (mC n f c):=by
 unfold qq.f mC;rw[Ri hf,hf.1]
 by_cases h:0<=c/\c<n
 ·have:=hf.2 c h.1 h.2;simp only[aL,decide_eq_true h,Bool.not_true,Bool.false_eq_true,if_false,af h];rw[wi (x:=rd f.words c) U U,wi U U]
 ·simp only[aL,decide_eq_false h,Bool.not_false,if_true,ah h]
theorem He (hf:qW n f) {c v k:Int} (h0:0<=c) (h1:c<n) (v0:0<=v) (v1:v<=4294967295):qW n (iw f c v k):=by
 refine⟨by simp[iw,hf.1],λd d0 d1=>?_⟩
 unfold iw;simp only;rw[kX h0 (by rw[hf.1];exact h1) d0]
 split
 ·exact⟨v0,v1⟩
 ·exact hf.2 d d0 d1
theorem AH (hf:qW n f) {c v k d:Int} (h0:0<=c) (h1:c<n) (d0:0<=d):rd (iw f c v k).words d=if d=c then v else rd f.words d:=by
 unfold iw;simp only;rw[kX h0 (by rw[hf.1];exact h1) d0]
def Du (n:Int) (f:fk) (c id:Int):Bool×fk:=if rm n f c/\0<=id/\id<4294967295 then(true,iw f c (id+1) 1) else(false,f)
def Dv (n:Int) (f:fk) (c:Int):Int×fk:=if mC n f c= -1 then(-1,f) else(mC n f c,iw f c 0 (-1))
theorem Vd (hf:qW n f) (hc:0<=f.count/\f.count<=2000000) (c id:Int):sk.f f c id=some (Du n f c id):=by
 unfold sk.f Du;rw[Ro hf]
 by_cases h:rm n f c
 ·by_cases h2:0<=id/\id<4294967295
  ·obtain⟨q1,q2,q3⟩:=h;have h:rm n f c:=⟨q1,q2,q3⟩;simp only[aL,decide_eq_true h,Bool.not_true];rw[ah bm,af (by rw[hf.1];omega),af ⟨h,h2⟩,wi (x:=id+1) U U,aiP U U,wi U U]
   rfl
  ·simp only[aL,decide_eq_true h,Bool.not_true];rw[af bm,ah (λq=>h2 q.2)]
 ·simp only[aL,decide_eq_false h,Bool.not_false,Bool.true_or,if_true];rw[ah (λq=>h q.1)]
theorem WB (hf:qW n f) (hc: -2000000<=f.count/\f.count<=2000000) (c:Int):sm.f f c=some (Dv n f c):=by
 unfold sm.f Dv;rw[KX hf]
 by_cases h:mC n f c= -1
 ·simp[h]
 ·have cu:0<=c/\c<n:=by
   unfold mC at h
   by_cases q:0<=c/\c<n
   ·exact q
   ·rw[ah q] at h;exact absurd J h
  simp only[aL];rw[af (by simpa using h),af (by rw[hf.1];omega),ah h,wi U U]
  rfl
def IQ (n:Int) (f:fk) (a b:Int):Bool×fk:=if mC n f a≠ -1/\rm n f b then(true,iw (iw f a 0 (-1)) b (mC n f a+1) 1) else(false,f)
theorem aiT {c:Int} (h:mC n f c≠ -1):0<=c/\c<n/\mC n f c=rd f.words c-1:=by
 unfold mC at h⊢
 by_cases q:0<=c/\c<n
 ·rw[af q];exact⟨q.1,q.2,J⟩
 ·rw[ah q] at h;exact absurd J h
theorem ahU (hf:qW n f) (hc:1<=f.count/\f.count<=2000000) (a b:Int):wG.f f a b=some (IQ n f a b):=by
 unfold wG.f IQ;rw[KX hf,Ro hf]
 by_cases h1:mC n f a= -1
 ·simp[h1]
 ·by_cases h2:rm n f b
  ·obtain⟨a0,a1,a2⟩:=aiT h1;have hr:=hf.2 a a0 a1;have hs:qW n (iw f a 0 (-1)):=He hf a0 a1 U U;have bL:b≠a:=λe=>by have:=h2.2.2;rw[e] at this;omega
   have h3:rm n (iw f a 0 (-1)) b:=⟨h2.1,h2.2.1,by rw[AH hf a0 a1 h2.1,ah bL];exact h2.2.2⟩
   have e:Dv n f a=(mC n f a,iw f a 0 (-1)):=by unfold Dv;rw[ah h1]
   have e2:Du n (iw f a 0 (-1)) b (mC n f a)=(true,iw (iw f a 0 (-1)) b (mC n f a+1) 1):=by
    unfold Du;rw[af ⟨h3,by omega,by omega⟩]
   have q1:(mC n f a== -1)=false:=by simpa using h1
   simp only[aL,q1,Bool.false_eq_true,if_false,decide_eq_true h2,Bool.not_true,WB hf (by omega: -2000000<=f.count/\f.count<=2000000),e]
   rw[Vd hs (by simp[iw];omega),e2,af ⟨h1,h2⟩];rfl
  ·simp[h1,h2]
theorem ai0 (hf:qW n f) (h:n<=1048576):wH.f f=some f.words:=by
 unfold wH.f zj.f;have:=hf.1;rw[af bm];simp
theorem af8 {s:List Int} (hb:s.length<=4611686018427387000): ∀(n k:Nat) (i:Int),i+n=s.length->0<=i->n<k->
 ∃r,qM.l0 k s i=some r/\(r≥0↔ ∃j,i<=j/\j<s.length/\(rd s j<0∨rd s j>5)):=by
 intro n
 induction n with
 |zero=>
  intro k i hi h0 hk;obtain⟨k,rfl⟩:=bl hk;exact⟨-1,by rw[qM.l0,ah U],⟨λq=>by omega,λ⟨j,j0,j1,_⟩=>by omega⟩⟩
 |succ n ih=>
  intro k i hi h0 hk;obtain⟨k,rfl⟩:=bl hk;rw[qM.l0,af U,af U];simp only[D3.f,aL]
  by_cases e:rd s i<0∨rd s i>5
  ·rw[af (by simpa using e)]
   exact⟨i,J,⟨λ_=>⟨i,by omega,by omega,e⟩,λ_=>by omega⟩⟩
  ·rw[ah (by simpa using e),wi U U]
   obtain⟨r,r1,r2⟩:=ih k (i+1) U U U;refine⟨r,r1,r2.trans ⟨λ⟨j,j0,j1,j2⟩=>⟨j,by omega,j1,j2⟩,λ⟨j,j0,j1,j2⟩=>?_⟩⟩
   by_cases z:j=i
   ·subst z;exact absurd j2 e
   ·exact⟨j,by omega,j1,j2⟩
theorem af7 {s:List Int} (hb:s.length<=4611686018427387000): ∃r,CQ.f s=some r/\(r=true↔ ∃d∈s,d<0∨d>5):=by
 unfold CQ.f qM.f;obtain⟨r,r1,r2⟩:=af8 hb s.length fuel 0 U U (by rw[cM];omega)
 rw[r1,aL];refine⟨decide (r≥0),J,?_⟩;rw[decide_eq_true_iff,r2];constructor
 ·rintro⟨j,j0,j1,j2⟩;exact⟨_,dS j0 j1,j2⟩
 ·rintro⟨d,hd,h⟩;obtain⟨j,j0,j1,rfl⟩:=jK hd;exact⟨j,j0,j1,h⟩
abbrev xS:=List aD×List fe×List Int
def dB (w h:Int) (u:aD) (d:Int):Int:=if 0<=d/\d<=3 then cD w h u.Cell d else-1
def mD (w h:Int) (now:List aD) (u:aD) (d:Int):Prop:=0<=dB w h u d/\ ∀x∈now,x.Cell≠dB w h u d
instance (w h:Int) (now:List aD) (u:aD) (d:Int):Decidable (mD w h now u d):=by unfold mD;infer_instance
def kQ (w h:Int) (s:xS) (i:Int) (u:aD) (d:Int):xS:=
 if mD w h s.1 u d then(s.1.set i.toNat ⟨u.Id,if dB w h u d=u.Goal then-1 else dB w h u d,u.Goal⟩,s.2.1++[⟨u.Id,dB w h u d⟩],if dB w h u d=u.Goal then s.2.2++[u.Id] else s.2.2) else s
def dK (w h:Int) (l:List aD) (aM:List Int):Nat->xS
 |0=>(l,[],[])
 |n+1=>kQ w h (dK w h l aM n) n (rd l (n:Int)) (rd aM (n:Int))
def gO (w h:Int) (l:List aD) (aM:List Int):List aD×List fe×List Int:=
 ((dK w h l aM l.length).1.filter (λx=>decide (0<=x.Cell)),(dK w h l aM l.length).2.1,(dK w h l aM l.length).2.2)
structure Bg (w h:Int) (l:List aD) (n:Nat) (s:xS):Prop where
 len:s.1.length=l.length
 rest: ∀j:Int,n<=j->j<l.length->rd s.1 j=rd l j
 same: ∀j:Int,0<=j->j<l.length->(rd s.1 j).Id=(rd l j).Id/\(rd s.1 j).Goal=(rd l j).Goal
 cell: ∀j:Int,0<=j->j<l.length->(rd s.1 j).Cell= -1∨bT w h (rd s.1 j).Cell
 apart: ∀i j:Int,0<=i->i<l.length->0<=j->j<l.length->i≠j->0<=(rd s.1 i).Cell->(rd s.1 i).Cell≠(rd s.1 j).Cell
 J6:s.2.1.length<=n
 Mq:s.2.2.length<=n
theorem aim {w h c d:Int} (hs:0<=cD w h c d):bT w h (cD w h c d):=by
 unfold cD at hs⊢;split
 ·unfold pt at hs⊢;rename_i q;rw[af q] at hs;split
  ·rename_i z;exact⟨z.1,r_ z.2.1 z.2.2.1 z.2.2.2.1 z.2.2.2.2⟩
  ·rename_i z;rw[ah z] at hs;omega
 ·rename_i q;rw[ah q] at hs;omega
theorem RM {w h:Int} {u:aD} {d:Int} (hs:0<=dB w h u d):bT w h (dB w h u d):=by
 unfold dB at hs⊢;split
 ·rename_i q;rw[af q] at hs;exact aim hs
 ·rename_i q;rw[ah q] at hs;omega
theorem abh {w h:Int} {l:List aD} (hm:ik w h l):Bg w h l 0 (l,[],[]):=
 ⟨J,λ_ _ _=>rfl,λ_ _ _=>⟨J,J⟩,λj j0 j1=> .inr (hm.cell j0 j1),λi j i0 i1 j0 j1 rA _=>hm.apart i0 i1 j0 j1 rA,by simp,by simp⟩
theorem Rr {w h:Int} {l:List aD} {n:Nat} {s:xS} (hi:Bg w h l n s) (hn:n<l.length) (d:Int):Bg w h l (n+1) (kQ w h s n (rd l (n:Int)) d):=by
 unfold kQ
 by_cases hc:mD w h s.1 (rd l (n:Int)) d
 ·rw[af hc];obtain⟨c1,c2⟩:=hc;have eo:=RM c1;have hlen:=hi.len;have hr: ∀j:Int,0<=j->rd (s.1.set (n:Int).toNat ⟨(rd l (n:Int)).Id,if dB w h (rd l (n:Int)) d=(rd l (n:Int)).Goal then-1 else dB w h (rd l (n:Int)) d,(rd l (n:Int)).Goal⟩) j=
   if j=n then⟨(rd l (n:Int)).Id,if dB w h (rd l (n:Int)) d=(rd l (n:Int)).Goal then-1 else dB w h (rd l (n:Int)) d,(rd l (n:Int)).Goal⟩ else rd s.1 j:=
   λj j0=>kX U U j0
  generalize dB w h (rd l (n:Int)) d=to at*;have gD: ∀j:Int,0<=j->j<l.length->(rd s.1 j).Cell≠to:=λj j0 j1=>c2 _ (dS j0 U);refine⟨by simpa using hlen,λj j0 j1=>?_,λj j0 j1=>?_,λj j0 j1=>?_,λi j i0 i1 j0 j1 rA hp=>?_,by simpa using hi.J6,?_⟩
  ·simp only;rw[hr j U,ah U];exact hi.rest j U j1
  ·simp only;rw[hr j j0]
   by_cases q:j=n
   ·rw[af q,q];exact⟨J,J⟩
   ·rw[ah q];exact hi.same j j0 j1
  ·simp only;rw[hr j j0]
   by_cases q:j=n
   ·rw[af q];simp only;split
    ·exact .inl J
    ·exact .inr eo
   ·rw[ah q];exact hi.cell j j0 j1
  ·simp only at hp⊢;rw[hr i i0] at hp⊢;rw[hr j j0]
   by_cases qi:i=n
   ·rw[af qi] at hp⊢;rw[ah (show ¬j=(n:Int) from λq=>rA U)]
    simp only at hp⊢
    by_cases z:to=(rd l (n:Int)).Goal
    ·rw[af z] at hp;omega
    ·rw[ah z];exact λe=>gD j j0 j1 e.symm
   ·rw[ah qi] at hp⊢
    by_cases qj:j=n
    ·rw[af qj];simp only;split
     ·omega
     ·exact gD i i0 i1
    ·rw[ah qj];exact hi.apart i j i0 i1 j0 j1 rA hp
  ·simp only;have:=hi.Mq;split<;>simp<;>omega
 ·rw[ah hc];exact⟨hi.len,λj j0 j1=>hi.rest j U j1,hi.same,hi.cell,hi.apart,by have:=hi.J6;omega,by have:=hi.Mq;omega⟩
theorem yo {w h:Int} {l:List aD} (hm:ik w h l) (aM:List Int): ∀n:Nat,n<=l.length->Bg w h l n (dK w h l aM n)
 |0,_=>abh hm
 |n+1,hn=>Rr (yo hm aM n U) U _
def Stood (m:List (Int×Bool)) (now:List aD):Prop:=(m.map (·.1)).Nodup/\ ∀c:Int,0<=c->(aP m c=true↔ ∃x∈now,x.Cell=c)
def Rc (f:mi) (u:aD) (d:Int):Option (Bool×mi×aD):=(l8.f f.w f.h u.Cell d).bind λv2=>(if v2<0 then(some true) else(some (aP f.jS v2))).bind λx3=>if x3=true then(some (true,f,u)) else(if(List.length f.kz+1<=1099511627776) then(if(v2==u.Goal)=true then(if(List.length f.gone+1<=1099511627776) then(some (false,(mi.mk f.w f.h (dO f.jS u.Cell) (f.kz++[(fe.mk u.Id v2)]) (f.gone++[u.Id])),(aD.mk u.Id v2 u.Goal))) else none) else(some (true,(mi.mk f.w f.h (cE (dO f.jS u.Cell) v2 true) (f.kz++[(fe.mk u.Id v2)]) f.gone),(aD.mk u.Id v2 u.Goal)))) else none)
theorem abf (f:mi) (u:aD) {d:Int} (hd:0<=d/\d<=3):vk.f f u d=Rc f u d:=by
 have:d=0∨d=1∨d=2∨d=3:=U;rcases this with rfl |rfl |rfl |rfl<;>rfl
theorem abe {w h:Int} {l:List aD} {n:Nat} {s:xS} (hi:Bg w h l n s) (hn:n<l.length) (hl:l.length<=1000000) (hc:bT w h (rd l (n:Int)).Cell) {m:List (Int×Bool)} (mh:Stood m s.1) (d:Int):
 ∃m',vk.f ⟨w,h,m,s.2.1,s.2.2⟩ (rd l (n:Int)) d=some (decide (0<=(rd (kQ w h s n (rd l (n:Int)) d).1 (n:Int)).Cell),⟨w,h,m',(kQ w h s n (rd l (n:Int)) d).2.1,(kQ w h s n (rd l (n:Int)) d).2.2⟩,
  ⟨(rd l (n:Int)).Id,if mD w h s.1 (rd l (n:Int)) d then dB w h (rd l (n:Int)) d else(rd l (n:Int)).Cell,(rd l (n:Int)).Goal⟩)/\Stood m' (kQ w h s n (rd l (n:Int)) d).1:=by
 have hlen:=hi.len;have sB:rd s.1 (n:Int)=rd l (n:Int):=hi.rest n U U;have Nv:=hi.J6;have mJ:=hi.Mq;unfold kQ;generalize hu:rd l (n:Int)=u at*;have stay: ¬mD w h s.1 u d->(some (true,mi.mk w h m s.2.1 s.2.2,u):Option (Bool×mi×aD))=
  some (decide (0<=(rd (if mD w h s.1 u d then(s.1.set (n:Int).toNat ⟨u.Id,if dB w h u d=u.Goal then-1 else dB w h u d,u.Goal⟩,s.2.1++[⟨u.Id,dB w h u d⟩],if dB w h u d=u.Goal then s.2.2++[u.Id] else s.2.2) else s).1 (n:Int)).Cell),
   ⟨w,h,m,(if mD w h s.1 u d then(s.1.set (n:Int).toNat ⟨u.Id,if dB w h u d=u.Goal then-1 else dB w h u d,u.Goal⟩,s.2.1++[⟨u.Id,dB w h u d⟩],if dB w h u d=u.Goal then s.2.2++[u.Id] else s.2.2) else s).2.1,(if mD w h s.1 u d then(s.1.set (n:Int).toNat ⟨u.Id,if dB w h u d=u.Goal then-1 else dB w h u d,u.Goal⟩,s.2.1++[⟨u.Id,dB w h u d⟩],if dB w h u d=u.Goal then s.2.2++[u.Id] else s.2.2) else s).2.2⟩,
   ⟨u.Id,if mD w h s.1 u d then dB w h u d else u.Cell,u.Goal⟩):=by
  intro q;rw[ah q,ah q,sB];have:decide (0<=u.Cell)=true:=by simpa using hc.2.1
  rw[this]
 by_cases hd:0<=d/\d<=3
 ·have vg:dB w h u d=cD w h u.Cell d:=by unfold dB;rw[af hd]
  rw[abf _ u hd];unfold Rc;simp only[Hu,aL];rw[<-vg];have hbl:((if dB w h u d<0 then some true else some (aP m (dB w h u d))):Option Bool)=some (!decide (mD w h s.1 u d)):=by
   unfold mD
   by_cases q:dB w h u d<0
   ·rw[af q];have:decide (0<=dB w h u d/\ ∀x∈s.1,x.Cell≠dB w h u d)=false:=by
     rw[decide_eq_false_iff_not];intro z;omega
    rw[this];rfl
   ·rw[ah q]
    congr 1
    have h0:=mh.2 (dB w h u d) U
    by_cases z:aP m (dB w h u d)=true
    ·rw[z];obtain⟨x,hx,e⟩:=h0.1 z;have:decide (0<=dB w h u d/\ ∀x∈s.1,x.Cell≠dB w h u d)=false:=by
      rw[decide_eq_false_iff_not];intro y;exact y.2 x hx e
     rw[this];rfl
    ·have z':aP m (dB w h u d)=false:=by simpa using z
     rw[z'];have:decide (0<=dB w h u d/\ ∀x∈s.1,x.Cell≠dB w h u d)=true:=by
      rw[decide_eq_true_iff];exact⟨by omega,λx hx e=>z (h0.2 ⟨x,hx,e⟩)⟩
     rw[this];rfl
  rw[hbl];simp only[aL]
  by_cases yw:mD w h s.1 u d
  ·have adP:=yw;obtain⟨c1,c2⟩:=adP;rw[ah (by simpa using yw),af U]
   simp only[af yw];have hr: ∀(v:aD) (j:Int),0<=j->rd (s.1.set (n:Int).toNat v) j=if j=n then v else rd s.1 j:=λv j j0=>kX U U j0
   have aju:u.Cell≠dB w h u d:=λe=>c2 u (by rw[<-sB];exact dS U U) e
   have jh: ∀(v:aD) (c:Int),(∃x∈s.1.set (n:Int).toNat v,x.Cell=c)↔v.Cell=c∨ ∃j:Int,0<=j/\j<l.length/\j≠n/\(rd s.1 j).Cell=c:=by
    intro v c;constructor
    ·rintro⟨x,hx,e⟩;obtain⟨j,j0,j1,rfl⟩:=jK hx;rw[hr v j j0] at e;rw[List.length_set] at j1
     by_cases q:j=n
     ·rw[af q] at e;exact .inl e
     ·rw[ah q] at e;exact .inr ⟨j,j0,by omega,q,e⟩
    ·rintro(e |⟨j,j0,j1,j2,e⟩)
     ·refine⟨rd (s.1.set (n:Int).toNat v) (n:Int),dS U (by rw[List.length_set];omega),?_⟩
      rw[hr v n U,af J];exact e
     ·refine⟨rd (s.1.set (n:Int).toNat v) j,dS j0 (by rw[List.length_set];omega),?_⟩
      rw[hr v j j0,ah j2];exact e
   have hold: ∀c:Int,0<=c->(aP m c=true↔u.Cell=c∨ ∃j:Int,0<=j/\j<l.length/\j≠n/\(rd s.1 j).Cell=c):=by
    intro c c0;rw[mh.2 c c0];constructor
    ·rintro⟨x,hx,e⟩;obtain⟨j,j0,j1,rfl⟩:=jK hx
     by_cases q:j=n
     ·subst q;rw[sB] at e;exact .inl e
     ·exact .inr ⟨j,j0,by omega,q,e⟩
    ·rintro(e |⟨j,j0,j1,j2,e⟩)
     ·exact⟨rd s.1 (n:Int),dS U U,by rw[sB];exact e⟩
     ·exact⟨rd s.1 j,dS j0 U,e⟩
   have R9: ∀j:Int,0<=j->j<l.length->j≠n->(rd s.1 j).Cell≠u.Cell:=by
    intro j j0 j1 j2 e;have:=hi.apart n j U U j0 j1 (λz=>j2 z.symm) (by rw[sB];exact hc.2.1)
    rw[sB] at this;exact this e.symm
   by_cases hg:dB w h u d=u.Goal
   ·rw[af (by simpa using hg),af U]
    refine⟨dO m u.Cell,?_,J2 mh.1 _,λc c0=>?_⟩
    ·simp only[af hg];rw[hr _ n U,af J];simp
    ·rw[UC mh.1,af hg,jh];simp only
     by_cases q:u.Cell=c
     ·rw[af q];constructor
      ·intro z;cases z
      ·rintro(z |⟨j,j0,j1,j2,e⟩)
       ·omega
       ·exact absurd (e.trans q.symm) (R9 j j0 j1 j2)
     ·rw[ah q,hold c c0];constructor
      ·rintro(z |z)
       ·exact absurd z q
       ·exact .inr z
      ·rintro(z |z)
       ·omega
       ·exact .inr z
   ·rw[ah (by simpa using hg)]
    refine⟨cE (dO m u.Cell) (dB w h u d) true,?_,Ch (J2 mh.1 _) _ _,λc c0=>?_⟩
    ·simp only[ah hg];rw[hr _ n U,af J];simp[c1]
    ·rw[tY,UC mh.1,ah hg,jh];simp only
     by_cases z:dB w h u d=c
     ·rw[af z];exact⟨λ_=> .inl z,λ_=>rfl⟩
     ·rw[ah z]
      by_cases q:u.Cell=c
      ·rw[af q];constructor
       ·intro y;cases y
       ·rintro(y |⟨j,j0,j1,j2,e⟩)
        ·exact absurd y z
        ·exact absurd (e.trans q.symm) (R9 j j0 j1 j2)
      ·rw[ah q,hold c c0];constructor
       ·rintro(y |y)
        ·exact absurd y q
        ·exact .inr y
       ·rintro(y |y)
        ·exact absurd y z
        ·exact .inr y
  ·rw[af (by simpa using yw)]
   refine⟨m,stay yw,?_⟩;rw[ah yw];exact mh
 ·have yw: ¬mD w h s.1 u d:=by
   unfold mD dB;rw[ah hd];intro q;omega
  unfold vk.f;rw[ah bm,ah bm,ah bm,ah bm];refine⟨m,stay yw,?_⟩;rw[ah yw];exact mh
theorem ait {w h:Int} {l:List aD} {aM:List Int} (hb:l.length<=1000000): ∀(n k:Nat) (i:Int) (m:List (Int×Bool)),i+n=l.length->0<=i->n<k->
 (m.map (·.1)).Nodup->(∀c,aP m c=true↔ ∃q,0<=q/\q<i/\(rd l q).Cell=c)->
 ∃m',jy.l0 k w h l aM m i=jy.l1 fuel w h l aM [] w h m' [] [] 0/\Stood m' l:=by
 intro n
 induction n with
 |zero=>
  intro k i m hi h0 hk hn hm;obtain⟨k,rfl⟩:=bl hk;refine⟨m,by rw[jy.l0,ah U],hn,λc _=>?_⟩
  rw[hm c];constructor
  ·rintro⟨q,q0,q1,e⟩;exact⟨_,dS q0 U,e⟩
  ·rintro⟨x,hx,e⟩;obtain⟨q,q0,q1,rfl⟩:=jK hx;exact⟨q,q0,by omega,e⟩
 |succ n ih=>
  intro k i m hi h0 hk hn hm;obtain⟨k,rfl⟩:=bl hk;rw[jy.l0,af U,af U,wi U U];refine ih k (i+1) _ U U U (Ch hn _ _) (λc=>?_);rw[tY]
  by_cases e:(rd l i).Cell=c
  ·rw[af e];exact⟨λ_=>⟨i,h0,by omega,e⟩,λ_=>rfl⟩
  ·rw[ah e,hm c];constructor
   ·rintro⟨q,q0,q1,q2⟩;exact⟨q,q0,by omega,q2⟩
   ·rintro⟨q,q0,q1,q2⟩
    by_cases z:q=i
    ·subst z;exact absurd q2 e
    ·exact⟨q,q0,by omega,q2⟩
def pM (s:xS) (n:Nat):List aD:=(s.1.take n).filter (λx=>decide (0<=x.Cell))
theorem RK {w h:Int} {l:List aD} {n:Nat} {s:xS} (hi:Bg w h l n s) (hn:n<l.length) (d:Int):
 rd (kQ w h s n (rd l (n:Int)) d).1 (n:Int)=⟨(rd l (n:Int)).Id,if mD w h s.1 (rd l (n:Int)) d then(if dB w h (rd l (n:Int)) d=(rd l (n:Int)).Goal then-1 else dB w h (rd l (n:Int)) d) else(rd l (n:Int)).Cell,(rd l (n:Int)).Goal⟩:=by
 have hlen:=hi.len;unfold kQ
 by_cases hc:mD w h s.1 (rd l (n:Int)) d
 ·rw[af hc,af hc];rw[kX U U U,af J]
 ·rw[ah hc,ah hc,hi.rest n U U]
theorem Rq {w h:Int} {l:List aD} {n:Nat} {s:xS} (hi:Bg w h l n s) (hn:n<l.length) (d:Int):
 pM (kQ w h s n (rd l (n:Int)) d) (n+1)=pM s n++(if 0<=(rd (kQ w h s n (rd l (n:Int)) d).1 (n:Int)).Cell then[rd (kQ w h s n (rd l (n:Int)) d).1 (n:Int)] else[]):=by
 have ry:=Rr hi hn d;have qv:=ry.len;have ht:(kQ w h s n (rd l (n:Int)) d).1.take n=s.1.take n:=by
  unfold kQ;split
  ·simp only;rw[show(n:Int).toNat=n by simp,List.take_set_of_le (Nat.le_refl _)]
  ·rfl
 unfold pM;have aQ:n<(kQ w h s n (rd l (n:Int)) d).1.length:=U;rw[List.take_add_one,ht,List.getElem?_eq_getElem aQ,List.filter_append,Ef aQ]
 congr 1
 simp only[Option.toList_some,List.filter_cons,List.filter_nil,decide_eq_true_eq]
theorem abx {w h:Int} {l:List aD} {aM:List Int} (hm:ik w h l) (hb:l.length<=1000000) (hd:aM.length=l.length): ∀(m k:Nat) (n:Nat) (st:List (Int×Bool)),n+m=l.length->m<k->Stood st (dK w h l aM n).1->
 jy.l1 k w h l aM (pM (dK w h l aM n) n) w h st (dK w h l aM n).2.1 (dK w h l aM n).2.2 (n:Int)=some ((gO w h l aM).1,(gO w h l aM).2.1,(gO w h l aM).2.2,0):=by
 intro m
 induction m with
 |zero=>
  intro k n st hn hk mh;obtain⟨k,rfl⟩:=bl hk;have hi:=yo hm aM n U;rw[jy.l1,ah U];have:n=l.length:=U;subst this;unfold gO pM;rw[List.take_of_length_le (by rw[hi.len];omega)]
 |succ m ih=>
  intro k n st hn hk mh;obtain⟨k,rfl⟩:=bl hk;have hi:=yo hm aM n U;have aQ:n<l.length:=U;rw[jy.l1,af U,af U,af U];obtain⟨st',e1,e2⟩:=abe hi aQ hb (hm.cell U U) mh (rd aM (n:Int));have sw:=RK hi aQ (rd aM (n:Int));have FK:=Rq hi aQ (rd aM (n:Int));have ajp:(pM (dK w h l aM n) n).length<=n:=by
   unfold pM;refine Nat.le_trans (List.length_filter_le ..) bm
  simp only[e1,aL];rw[wi U U];have F7:(n:Int)+1=((n+1:Nat):Int):=U;have FZ:kQ w h (dK w h l aM n) n (rd l (n:Int)) (rd aM (n:Int))=dK w h l aM (n+1):=rfl;rw[FZ] at FK sw e2;have:=ih k (n+1) st' U U e2
  by_cases hp:0<=(rd (dK w h l aM (n+1)).1 (n:Int)).Cell
  ·rw[af (by rw[FZ];simpa using hp),af U]
   rw[af hp] at FK;rw[F7,<-this,FK,FZ];have hu:(⟨(rd l (n:Int)).Id,if mD w h (dK w h l aM n).1 (rd l (n:Int)) (rd aM (n:Int)) then dB w h (rd l (n:Int)) (rd aM (n:Int)) else(rd l (n:Int)).Cell,(rd l (n:Int)).Goal⟩:aD)=rd (dK w h l aM (n+1)).1 (n:Int):=by
    rw[sw] at hp⊢;simp only at hp⊢
    by_cases hc:mD w h (dK w h l aM n).1 (rd l (n:Int)) (rd aM (n:Int))
    ·rw[af hc] at hp⊢;rw[af hc]
     by_cases hg:dB w h (rd l (n:Int)) (rd aM (n:Int))=(rd l (n:Int)).Goal
     ·rw[af hg] at hp;omega
     ·rw[ah hg]
    ·rw[ah hc,ah hc]
   rw[hu]
  ·rw[ah (by rw[FZ];simpa using hp)]
   rw[ah hp,List.append_nil] at FK;rw[F7,<-this,FK,FZ]
def K2 (aM:List Int) (n:Nat):Prop:=aM.length=n/\ ∀d∈aM,0<=d/\d<=5
theorem go_ok {w h:Int} {l:List aD} {aM:List Int} (hm:ik w h l) (hb:l.length<=1000000) (hd:K2 aM l.length):
 jy.f w h l aM=some ((gO w h l aM).1,(gO w h l aM).2.1,(gO w h l aM).2.2,0):=by
 unfold jy.f;obtain⟨r,r1,r2⟩:=Vb (w:=w) (h:=h) (l:=l) U;obtain⟨o,o1,o2⟩:=af7 (s:=aM) (by have:=hd.1;omega)
 have ho:o=false:=by
  rw[Bool.eq_false_iff];intro q;obtain⟨d,Tg,hx⟩:=o2.1 q;have:=hd.2 d Tg;omega
 rw[r1,aL,r2.2 hm,o1,ho];rw[ah (by simp[hd.1])]
 simp only[aL,Bool.false_eq_true,if_false];obtain⟨m',e1,e2⟩:=ait (w:=w) (h:=h) (l:=l) (aM:=aM) hb l.length fuel 0 [] U U (by rw[cM];omega) bk (λc=>by
  constructor
  ·intro q;simp[aP,cZ] at q
  ·rintro⟨q,q0,q1,_⟩;omega)
 rw[e1];exact abx hm hb hd.1 l.length fuel 0 m' U (by rw[cM];omega) e2
section
variable {w h : Int} {l : List aD} {aM : List Int}
abbrev sG (w h:Int) (l:List aD) (aM:List Int) (n:Nat):Prop:=mD w h (dK w h l aM n).1 (rd l (n:Int)) (rd aM (n:Int))
abbrev lF (w h:Int) (l:List aD) (aM:List Int) (n:Nat):Int:=dB w h (rd l (n:Int)) (rd aM (n:Int))
def D6 (w h:Int) (l:List aD) (aM:List Int) (n:Nat):Int:=if sG w h l aM n then(if lF w h l aM n=(rd l (n:Int)).Goal then-1 else lF w h l aM n) else(rd l (n:Int)).Cell
theorem N6 (n:Nat):(dK w h l aM (n+1)).2.1=(dK w h l aM n).2.1++(if sG w h l aM n then[⟨(rd l (n:Int)).Id,lF w h l aM n⟩] else[]):=by
 show(kQ w h (dK w h l aM n) n (rd l (n:Int)) (rd aM (n:Int))).2.1=_
 unfold kQ
 by_cases hc:sG w h l aM n
 ·rw[af hc,af hc]
 ·rw[ah hc,ah hc,List.append_nil]
theorem RG (n:Nat):(dK w h l aM (n+1)).2.2=(dK w h l aM n).2.2++(if sG w h l aM n/\lF w h l aM n=(rd l (n:Int)).Goal then[(rd l (n:Int)).Id] else[]):=by
 show(kQ w h (dK w h l aM n) n (rd l (n:Int)) (rd aM (n:Int))).2.2=_
 unfold kQ
 by_cases hc:sG w h l aM n
 ·rw[af hc];simp only
  by_cases hg:lF w h l aM n=(rd l (n:Int)).Goal
  ·rw[af hg,af ⟨hc,hg⟩]
  ·rw[ah hg,ah (λq=>hg q.2),List.append_nil]
 ·rw[ah hc,ah (λq=>hc q.1),List.append_nil]
theorem YP (hm:ik w h l) {n:Nat} (hn:n<l.length):rd (dK w h l aM (n+1)).1 (n:Int)=⟨(rd l (n:Int)).Id,D6 w h l aM n,(rd l (n:Int)).Goal⟩:=
 RK (yo hm aM n U) hn _
theorem Lq (hm:ik w h l) {n:Nat} (hn:n<l.length):pM (dK w h l aM (n+1)) (n+1)=pM (dK w h l aM n) n++(if 0<=D6 w h l aM n then[⟨(rd l (n:Int)).Id,D6 w h l aM n,(rd l (n:Int)).Goal⟩] else[]):=by
 have:=Rq (yo hm aM n U) hn (rd aM (n:Int));have e:kQ w h (dK w h l aM n) n (rd l (n:Int)) (rd aM (n:Int))=dK w h l aM (n+1):=rfl;rw[e,YP hm hn] at this;exact this
theorem aiy (hm:ik w h l): ∀(d n:Nat),n+d=l.length-> ∃A M G,(gO w h l aM).1=pM (dK w h l aM n) n++A/\(gO w h l aM).2.1=(dK w h l aM n).2.1++M/\(gO w h l aM).2.2=(dK w h l aM n).2.2++G/\
 (∀m∈M,∃j:Int,n<=j/\j<l.length/\m.Id=(rd l j).Id)/\(∀g∈G,∃j:Int,n<=j/\j<l.length/\g=(rd l j).Id):=by
 intro d
 induction d with
 |zero=>
  intro n hn;have:n=l.length:=U;subst this;have hi:=yo hm aM l.length (Nat.le_refl _);refine⟨[],[],[],?_,by simp[gO],by simp[gO],by simp,by simp⟩
  unfold gO pM;rw[List.take_of_length_le (by rw[hi.len];omega),List.append_nil]
 |succ d ih=>
  intro n hn;obtain⟨A,M,G,h1,h2,h3,h4,h5⟩:=ih (n+1) U;rw[Lq hm U,List.append_assoc] at h1;rw[N6,List.append_assoc] at h2;rw[RG,List.append_assoc] at h3;refine⟨_,_,_,h1,h2,h3,λm Nw=>?_,λg hg=>?_⟩
  ·rcases List.mem_append.1 Nw with q |q
   ·split at q
    ·simp at q;subst q;exact⟨n,by omega,by omega,rfl⟩
    ·cases q
   ·obtain⟨j,j0,j1,e⟩:=h4 m q;exact⟨j,by omega,j1,e⟩
  ·rcases List.mem_append.1 hg with q |q
   ·split at q
    ·simp at q;subst q;exact⟨n,by omega,by omega,rfl⟩
    ·cases q
   ·obtain⟨j,j0,j1,e⟩:=h5 g q;exact⟨j,by omega,j1,e⟩
theorem parts (hm:ik w h l) {n:Nat} (hn:n<l.length): ∃A M G,(gO w h l aM).1=pM (dK w h l aM n) n++((if 0<=D6 w h l aM n then[⟨(rd l (n:Int)).Id,D6 w h l aM n,(rd l (n:Int)).Goal⟩] else[])++A)/\
 (gO w h l aM).2.1=(dK w h l aM n).2.1++((if sG w h l aM n then[⟨(rd l (n:Int)).Id,lF w h l aM n⟩] else[])++M)/\
 (gO w h l aM).2.2=(dK w h l aM n).2.2++((if sG w h l aM n/\lF w h l aM n=(rd l (n:Int)).Goal then[(rd l (n:Int)).Id] else[])++G)/\
 (∀m∈M,(rd l (n:Int)).Id<m.Id)/\(∀g∈G,(rd l (n:Int)).Id<g):=by
 obtain⟨A,M,G,h1,h2,h3,h4,h5⟩:=aiy (aM:=aM) hm (l.length-(n+1)) (n+1) U;rw[Lq hm U,List.append_assoc] at h1;rw[N6,List.append_assoc] at h2;rw[RG,List.append_assoc] at h3;refine⟨A,M,G,h1,h2,h3,λm Nw=>?_,λg hg=>?_⟩
 ·obtain⟨j,j0,j1,e⟩:=h4 m Nw;rw[e];exact hm.Aq U U j1
 ·obtain⟨j,j0,j1,e⟩:=h5 g hg;rw[e];exact hm.Aq U U j1
theorem afz (hm:ik w h l) {n:Nat} (hn:n<l.length):((dK w h l aM n).2.1.length<(gO w h l aM).2.1.length/\(rd (gO w h l aM).2.1 ((dK w h l aM n).2.1.length:Int)).Id=(rd l (n:Int)).Id↔sG w h l aM n)/\
 (sG w h l aM n->rd (gO w h l aM).2.1 ((dK w h l aM n).2.1.length:Int)=⟨(rd l (n:Int)).Id,lF w h l aM n⟩):=by
 obtain⟨A,M,G,_,h2,_,h4,_⟩:=parts (aM:=aM) hm hn;rw[h2]
 by_cases hc:sG w h l aM n
 ·rw[af hc];have e:rd ((dK w h l aM n).2.1++([⟨(rd l (n:Int)).Id,lF w h l aM n⟩]++M)) ((dK w h l aM n).2.1.length:Int)=⟨(rd l (n:Int)).Id,lF w h l aM n⟩:=by
   rw[mO U,Int.sub_self];rfl
  rw[e];exact⟨⟨λ_=>hc,λ_=>⟨by simp,J⟩⟩,λ_=>rfl⟩
 ·rw[ah hc,List.nil_append];refine⟨⟨λq=>?_,λq=>absurd q hc⟩,λq=>absurd q hc⟩
  obtain⟨q1,q2⟩:=q;rw[List.length_append] at q1;rw[mO U,Int.sub_self] at q2;have:=h4 _ (dS (a:=M) (i:=0) U U);omega
end
structure FS (f:fk) (n:Int) (L:List aD):Prop where
 fl:qW n f
 eG:f.count=L.length
 at_: ∀x∈L,0<=x.Cell/\x.Cell<n/\rd f.words x.Cell=x.Id+1
 only: ∀c,0<=c->c<n->rd f.words c≠0-> ∃x∈L,x.Cell=c
structure CS (c:dV) (w h most:Int) (L:List aD):Prop where
 w_:c.w=w
 h_:c.h=h
 m_:c.most=most
 may:iD w h
 us:US c.cU most L
 fl:FS c.floor (w*h) L
 ok: ∀x∈L,bT w h x.Cell/\bT w h x.Goal/\x.Cell≠x.Goal
 jI:(L.length:Int)<=most
def oP (L:List aD) (c:Int):Int:=match L.find? (λx=>x.Cell==c) with
 |some x=>x.Id
 |none=> -1
variable {c : dV} {w h most : Int} {L : List aD}
theorem US.DX {u:eW} (hu:US u most L) {x:aD} (hx:x∈L):0<=x.Id/\x.Id<u.next:=by
 have:x.Id∈u.order.filter (λk=>bM u.live k):=by rw[hu.ord];exact List.mem_map.2 ⟨x,hx,J⟩
 exact hu.aZ _ (List.mem_filter.1 this).1
theorem CS.inj (hc:CS c w h most L) {x y:aD} (hx:x∈L) (hy:y∈L) (e:x.Cell=y.Cell):x=y:=by
 have h1:=(hc.fl.at_ x hx).2.2;have h2:=(hc.fl.at_ y hy).2.2;rw[e] at h1;exact B3 hc.us.up hx hy U
theorem Fs (hc:CS c w h most L) {x:aD} (hx:x∈L):oP L x.Cell=x.Id:=by
 unfold oP
 cases hf:L.find? (λy=>y.Cell==x.Cell) with
 |none=>have:=List.find?_eq_none.1 hf x hx;simp at this
 |some y=>
  have h1:=List.mem_of_find?_eq_some hf;have h2:y.Cell=x.Cell:=by simpa using List.find?_some hf
  simp only;rw[hc.inj h1 hx h2]
theorem LM {cell:Int} (h0: ∀x∈L,x.Cell≠cell):oP L cell= -1:=by
 unfold oP
 cases hf:L.find? (λy=>y.Cell==cell) with
 |none=>rfl
 |some y=>
  have h1:=List.mem_of_find?_eq_some hf;have h2:y.Cell=cell:=by simpa using List.find?_some hf
  exact absurd h2 (h0 y h1)
theorem ZF (hc:CS c w h most L) {cell:Int}:oP L cell= -1↔ ∀x∈L,x.Cell≠cell:=by
 constructor
 ·intro q x hx e;rw[<-e,Fs hc hx] at q;have:=(hc.us.DX hx).1;omega
 ·exact LM
theorem KW (hc:CS c w h most L) (cell:Int):mC (w*h) c.floor cell=oP L cell:=by
 unfold mC
 by_cases q:0<=cell/\cell<w*h
 ·rw[af q]
  by_cases z: ∃x∈L,x.Cell=cell
  ·obtain⟨x,hx,rfl⟩:=z;rw[Fs hc hx,(hc.fl.at_ x hx).2.2];omega
  ·have hn: ∀x∈L,x.Cell≠cell:=λx hx e=>z ⟨x,hx,e⟩
   rw[LM hn];have:rd c.floor.words cell=0:=Classical.byContradiction λy=>z (hc.fl.only cell q.1 q.2 y);omega
 ·rw[ah q,LM];intro x hx e;have:=hc.fl.at_ x hx;exact q ⟨by omega,by omega⟩
theorem aax (hc:CS c w h most L) (cell:Int):zT.f c cell=some (oP L cell):=by
 unfold zT.f;rw[KX hc.fl.fl,KW hc];rfl
theorem L2 (hc:CS c w h most L):oS.f c=some L:=by
 unfold oS.f;rw[XQ hc.us];rfl
theorem LR (hc:CS c w h most L) (cell:Int):uM.f c cell=some (decide (bT w h cell)):=by
 unfold uM.f;rw[hc.w_,hc.h_,sX,aL]
 congr 1
 by_cases q:bT w h cell
 ·rw[decide_eq_true q,decide_eq_true_iff];have: ¬aY w h cell<0:=λz=>zg.1 z q
  omega
 ·rw[decide_eq_false q,decide_eq_false_iff_not];have:=zg.2 q;omega
theorem aad (w h most:Int): ∃r,uP.f w h most=some r/\(r.isSome=true↔iD w h/\1<=most/\most<=65536)/\ ∀c,r=some c->CS c w h most []/\c.cU.next=0:=by
 unfold uP.f;rw[Az,aL]
 by_cases q:iD w h/\1<=most/\most<=65536
 ·obtain⟨q1,q2,q3⟩:=q;have hp:=tX q1;rw[ah (by rw[decide_eq_true q1];simp;omega),afP,af ⟨q2,q3⟩,aL,wi U U]
  simp only[dq,aa'];rw[af hp];refine⟨_,J,⟨λ_=>⟨q1,q2,q3⟩,λ_=>rfl⟩,λc e=>?_⟩
  simp only[Option.some.injEq] at e;subst e;refine⟨⟨J,J,J,q1,afS ⟨q2,q3⟩,⟨aba hp.1,J,by simp,λd d0 d1 hd=>?_⟩,by simp,by simp;omega⟩,J⟩
  exact absurd (vy d0 U) hd
 ·refine⟨none,?_,⟨λz=>by simp at z,λz=>absurd z q⟩,λc e=>by cases e⟩
  rw[af]
  by_cases z:iD w h
  ·rw[decide_eq_true z];simp;omega
  ·rw[decide_eq_false z];simp
theorem CS.next (hc:CS c w h most L):0<=c.cU.next/\c.cU.next<=1000000:=hc.us.next
theorem abc {f:fk} {n:Int} (hf:FS f n L) {x:aD} (h0:0<=x.Cell) (h1:x.Cell<n) (gD: ∀y∈L,y.Cell≠x.Cell) (i0:0<=x.Id) (i1:x.Id<4294967295):FS (iw f x.Cell (x.Id+1) 1) n (L++[x]):=by
 refine⟨He hf.fl h0 h1 U U,by simp[iw,hf.eG],λy hy=>?_,λd d0 d1 hd=>?_⟩
 ·rcases List.mem_append.1 hy with q |q
  ·obtain⟨a,b,e⟩:=hf.at_ y q;refine⟨a,b,?_⟩;rw[AH hf.fl h0 h1 a,ah (gD y q)];exact e
  ·simp at q;subst q;exact⟨h0,h1,by rw[AH hf.fl h0 h1 h0,af J]⟩
 ·rw[AH hf.fl h0 h1 d0] at hd
  by_cases q:d=x.Cell
  ·exact⟨x,by simp,q.symm⟩
  ·rw[ah q] at hd;obtain⟨y,hy,e⟩:=hf.only d d0 d1 hd;exact⟨y,by simp[hy],e⟩
theorem abg {f:fk} {n:Int} (hf:FS f n L) (Am:(L.map (·.Id)).Pairwise (· < ·)) {x:aD} (hx:x∈L):FS (iw f x.Cell 0 (-1)) n (l7 L x.Id):=by
 obtain⟨h0,h1,h2⟩:=hf.at_ x hx;have hl:=KM Am (Pd Am hx);refine⟨He hf.fl h0 h1 U U,by simp[iw,hf.eG];omega,λy hy=>?_,λd d0 d1 hd=>?_⟩
 ·unfold l7 at hy;obtain⟨q1,q2⟩:=List.mem_filter.1 hy;have bL:y.Id≠x.Id:=by simpa using q2
  obtain⟨a,b,e⟩:=hf.at_ y q1;refine⟨a,b,?_⟩;rw[AH hf.fl h0 h1 a,ah]
  ·exact e
  ·intro z;rw[z,h2] at e;omega
 ·rw[AH hf.fl h0 h1 d0] at hd
  by_cases q:d=x.Cell
  ·rw[af q] at hd;exact absurd J hd
  ·rw[ah q] at hd;obtain⟨y,hy,e⟩:=hf.only d d0 d1 hd;refine⟨y,?_,e⟩;unfold l7;rw[List.mem_filter];refine⟨hy,?_⟩;have:y.Id≠x.Id:=λz=>q (by rw[<-e,B3 Am hy hx z])
   simpa using this
theorem L8 {k:Int} {x:aD} (hx:x∈l7 L k):x∈L:=(List.mem_filter.1 hx).1
theorem LQ (hc:CS c w h most L) {x:aD} (hx:x∈L): ∃c',pI.f c x=some c'/\CS c' w h most (l7 L x.Id)/\c'.cU.next=c.cU.next:=by
 unfold pI.f;obtain⟨u',e1,e2,e3⟩:=aaM hc.us x.Id;have lD:=hc.us.DX hx;have hw:mC (w*h) c.floor x.Cell=x.Id:=by rw[KW hc,Fs hc hx]
 have ku:=hc.us.eG;have F7:=hc.next
 have M_:=hc.fl.eG;have et:Dv (w*h) c.floor x.Cell=(x.Id,iw c.floor x.Cell 0 (-1)):=by unfold Dv;rw[hw,ah U]
 rw[e1,aL,WB hc.fl.fl U,et];refine⟨_,J,⟨hc.w_,hc.h_,hc.m_,hc.may,e3,abg hc.fl hc.us.up hx,λy hy=>hc.ok y (L8 hy),?_⟩,e2⟩;have:=KM hc.us.up (Pd hc.us.up hx);have:=hc.jI;omega
def nf (w h most:Int) (L:List aD) (next cell goal:Int):Int×Int×List aD:=
 if ¬bT w h cell∨ ¬bT w h goal then(-1,7,L) else if oP L cell≠ -1 then(-1,10,L) else if most<=L.length then(-1,11,L) else if cell=goal then(-1,13,L) else(next,0,L++[⟨next,cell,goal⟩])
theorem ai3 (hc:CS c w h most L) (cell goal:Int):uO.f c 3 cell goal=some (if cell=goal then 13 else 0):=by
 unfold uO.f;rw[ah bk,ah bk,ah bk,af bk]
 by_cases q:cell=goal
 ·rw[af (by simpa using q),af q]
 ·rw[ah (by simpa using q),ah q]
theorem QV {next cell goal:Int} (a: ¬bT w h cell∨ ¬bT w h goal):nf w h most L next cell goal=(-1,7,L):=by unfold nf;rw[af a]
theorem aar {next cell goal:Int} (a:bT w h cell) (b:bT w h goal) (d:oP L cell≠ -1):nf w h most L next cell goal=(-1,10,L):=by
 unfold nf;rw[ah (λq=>q.elim (λz=>z a) (λz=>z b)),af d]
theorem aas {next cell goal:Int} (a:bT w h cell) (b:bT w h goal) (d:oP L cell= -1) (e:most<=L.length):nf w h most L next cell goal=(-1,11,L):=by
 unfold nf;rw[ah (λq=>q.elim (λz=>z a) (λz=>z b)),ah (λq=>q d),af e]
theorem aat {next cell goal:Int} (a:bT w h cell) (b:bT w h goal) (d:oP L cell= -1) (e: ¬most<=L.length) (g:cell=goal):nf w h most L next cell goal=(-1,13,L):=by
 unfold nf;rw[ah (λq=>q.elim (λz=>z a) (λz=>z b)),ah (λq=>q d),ah e,af g]
theorem aau {next cell goal:Int} (a:bT w h cell) (b:bT w h goal) (d:oP L cell= -1) (e: ¬most<=L.length) (g: ¬cell=goal):nf w h most L next cell goal=(next,0,L++[⟨next,cell,goal⟩]):=by
 unfold nf;rw[ah (λq=>q.elim (λz=>z a) (λz=>z b)),ah (λq=>q d),ah e,ah g]
theorem ai2 (hc:CS c w h most L) (cell goal next:Int):uO.f c 0 cell goal=some (nf w h most L next cell goal).2.1:=by
 unfold uO.f;rw[af bk,LR hc,LR hc];simp only[aL,KX hc.fl.fl,KW hc,ae9 hc.us,hc.m_]
 by_cases a:bT w h cell
 ·by_cases b:bT w h goal
  ·simp only[decide_eq_true a,decide_eq_true b,Bool.not_true,aL,Bool.false_eq_true,if_false]
   by_cases d:oP L cell= -1
   ·rw[ah (by simpa using d)]
    by_cases e:most<=(L.length:Int)
    ·rw[af U,aas a b d e]
    ·rw[ah U]
     by_cases g:cell=goal
     ·rw[af (by simpa using g),aat a b d e g]
     ·rw[ah (by simpa using g),aau a b d e g]
   ·rw[af (by simpa using d),aar a b d]
  ·rw[QV (.inr b)];simp only[decide_eq_true a,decide_eq_false b,Bool.not_true,Bool.not_false,aL,Bool.false_eq_true,if_false,if_true]
 ·rw[QV (.inl a)];simp only[decide_eq_false a,Bool.not_false,aL,if_true]
theorem aav (hc:CS c w h most L) (hn:c.cU.next<1000000) (cell goal:Int): ∃c',wD.f c cell goal=some ((nf w h most L c.cU.next cell goal).1,(nf w h most L c.cU.next cell goal).2.1,c')/\
 CS c' w h most (nf w h most L c.cU.next cell goal).2.2/\c'.cU.next=c.cU.next+(if(nf w h most L c.cU.next cell goal).2.1=0 then 1 else 0):=by
 unfold wD.f;rw[ai2 hc cell goal c.cU.next,aL]
 have F7:=hc.next
 unfold nf
 by_cases a: ¬bT w h cell∨ ¬bT w h goal
 ·simp only[af a];rw[af bk];exact⟨c,J,hc,by simp⟩
 ·simp only[ah a]
  by_cases b:oP L cell≠ -1
  ·simp only[af b];rw[af bk];exact⟨c,J,hc,by simp⟩
  ·simp only[ah b]
   by_cases d:most<=(L.length:Int)
   ·simp only[af d];rw[af bk];exact⟨c,J,hc,by simp⟩
   ·simp only[ah d]
    by_cases e:cell=goal
    ·simp only[af e];rw[af bk];exact⟨c,J,hc,by simp⟩
    ·simp only[ah e];rw[ah bk];obtain⟨u',a1,a2,a3⟩:=(XJ hc.us hn cell goal).2 U;have eo:bT w h cell:=Classical.byContradiction λz=>a (.inl z);have F2:bT w h goal:=Classical.byContradiction λz=>a (.inr z);have hw:oP L cell= -1:=Classical.byContradiction λz=>b z
     have gD:=(ZF hc).1 hw;have F0:rm (w*h) c.floor cell:=by
      refine⟨eo.2.1,eo.2.2,Classical.byContradiction λz=>?_⟩
      obtain⟨x,hx,q⟩:=hc.fl.only cell eo.2.1 eo.2.2 z;exact gD x hx q
     have M_:=hc.fl.eG;have ku:=hc.us.eG;have ep:Du (w*h) c.floor cell c.cU.next=(true,iw c.floor cell (c.cU.next+1) 1):=by
      unfold Du;rw[af ⟨F0,by omega,by omega⟩]
     rw[a1,aL,Vd hc.fl.fl U,ep];refine⟨_,J,⟨hc.w_,hc.h_,hc.m_,hc.may,a3,?_,λy hy=>?_,by simp;omega⟩,by simp[a2]⟩
     ·exact abc (x:=⟨c.cU.next,cell,goal⟩) hc.fl eo.2.1 eo.2.2 gD (by simp only;omega) (by simp only;omega)
     ·rcases List.mem_append.1 hy with q |q
      ·exact hc.ok y q
      ·simp at q;subst q;exact⟨eo,F2,e⟩
def wz (L:List aD) (id:Int):Int×List aD:=if A8 L id=true then(0,l7 L id) else(12,L)
theorem ZU (hc:CS c w h most L) (id:Int): ∃c',wB.f c id=some ((wz L id).1,c')/\CS c' w h most (wz L id).2/\c'.cU.next=c.cU.next:=by
 unfold wB.f wz A8;rw[Dy hc.us,aL];unfold zn
 cases hf:nP L id with
 |none=>
  exact⟨c,J,by simpa using hc,J⟩
 |some x=>
  obtain⟨h1,h2⟩:=A7 hf;obtain⟨c',e1,e2,e3⟩:=LQ hc h1;simp only[Bool.not_true,Bool.false_eq_true,if_false,e1,aL];rw[h2] at e2;exact⟨c',J,by simpa using e2,e3⟩
def wA (w h:Int) (L:List aD) (id goal:Int):Int×List aD:=
 match nP L id with
 |none=>(12,L)
 |some x=>if ¬bT w h goal then(7,L) else if x.Cell=goal then(13,l7 L id) else(0,gF L id (λx=>⟨x.Id,x.Cell,goal⟩))
theorem aao (hc:CS c w h most L) (id goal:Int): ∃c',wC.f c id goal=some ((wA w h L id goal).1,c')/\CS c' w h most (wA w h L id goal).2/\c'.cU.next=c.cU.next:=by
 unfold wC.f wA;rw[Dy hc.us,aL];unfold zn
 cases hf:nP L id with
 |none=>
  exact⟨c,J,by simpa using hc,J⟩
 |some x=>
  obtain⟨h1,h2⟩:=A7 hf;simp only[Bool.not_true,Bool.false_eq_true,if_false,LR hc,aL,ai3 hc]
  by_cases q:bT w h goal
  ·simp only[decide_eq_true q,Bool.not_true,Bool.false_eq_true,if_false]
   by_cases g:x.Cell=goal
   ·obtain⟨c',e1,e2,e3⟩:=LQ hc h1;rw[h2] at e2;simp only[af g,e1,aL,ah (λz: ¬bT w h goal=>z q)];exact⟨c',J,e2,e3⟩
   ·obtain⟨u',e1,e2,e3⟩:=XN hc.us id goal;simp only[ah g,e1,aL,ah (λz: ¬bT w h goal=>z q)];refine⟨_,J,⟨hc.w_,hc.h_,hc.m_,hc.may,e3,⟨hc.fl.fl,by simp[gF,hc.fl.eG],λy hy=>?_,λd d0 d1 hd=>?_⟩,λy hy=>?_,by simpa[gF] using hc.jI⟩,e2⟩
    ·unfold gF at hy;obtain⟨z,hz,rfl⟩:=List.mem_map.1 hy;have:=hc.fl.at_ z hz;split<;>exact this
    ·obtain⟨z,hz,e⟩:=hc.fl.only d d0 d1 hd;refine⟨if z.Id=id then⟨z.Id,z.Cell,goal⟩ else z,List.mem_map.2 ⟨z,hz,J⟩,?_⟩
     split<;>exact e
    ·unfold gF at hy;obtain⟨z,hz,rfl⟩:=List.mem_map.1 hy;have TU:=hc.ok z hz;split
     ·rename_i y;have:z=x:=B3 hc.us.up hz h1 (y.trans h2.symm);exact⟨TU.1,q,by rw[this];exact g⟩
     ·exact TU
  ·simp only[decide_eq_false q,Bool.not_false,if_true,af q];exact⟨c,J,hc,J⟩
end Go.Proofs.YthodkonhneebbaaGreatDoor
