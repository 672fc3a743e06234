/- What the functions do, in plain Lean, on the objects that are kept in order. -/
import Derived.Laws.Strings
import Derived.Test.YthodkonhneebbaaGreatDoorKS14
import Derived.Test.YthodkonhneebbaaGreatDoorKS5
import Derived.Test.YthodkonhneebbaaGreatDoorKS6
import Derived.Test.YthodkonhneebbaaGreatDoorKS15
import Derived.Test.YthodkonhneebbaaGreatDoorKS12
import Derived.Test.YthodkonhneebbaaGreatDoorKS7
import Derived.Test.YthodkonhneebbaaGreatDoorKS16
namespace Go.Proofs.YthodkonhneebbaaGreatDoor
open Go.Hx
set_option linter.unusedVariables false
set_option linter.unusedSimpArgs false
theorem afG {c:List Int} (hc:c.length<=100000) {a:Int} (a0:0<=a) (a1:a<c.length): ∀(n k:Nat) (x:Int),a+x+n=c.length->1<=x->n<k->(∀j:Int,a<=j->j<a+x->rd c j=rd c a)->
 ∃e,iN.l1 k c a x=some e/\x<=e/\a+e<=c.length/\(∀j:Int,a<=j->j<a+e->rd c j=rd c a)/\(a+e=c.length∨rd c (a+e)≠rd c a):=by
 intro n
 induction n with
 |zero=>
  intro k x hx x1 hk hr;obtain⟨k,rfl⟩:=bl hk;refine⟨x,?_,by omega,by omega,hr,.inl U⟩
  rw[iN.l1,bn U U,ah (c:=a+x<_) U,aI,ah bd]
 |succ n ih=>
  intro k x hx x1 hk hr;obtain⟨k,rfl⟩:=bl hk;rw[iN.l1,bn (x:=a+x) U U,af U,af U,af U,aI]
  by_cases hq:rd c (a+x)=rd c a
  ·rw[af (by simpa using hq),bn U U]
   obtain⟨e,h1,h2,h3,h4,h5⟩:=ih k (x+1) U U U (λj j0 j1=>by
    by_cases hj:j=a+x
    ·rw[hj,hq]
    ·exact hr j j0 U)
   exact⟨e,h1,by omega,h3,h4,h5⟩
  ·rw[ah (by simpa using hq)]
   exact⟨x,J,by omega,by omega,hr,.inr hq⟩
inductive DM (c:List Int):Int->List Int->Prop
 |done:DM c c.length []
 |run {a e:Int} {L:List Int} (a0:0<=a) (e1:1<=e) (he:a+e<=c.length) (same: ∀j:Int,a<=j->j<a+e->rd c j=rd c a) (stop:a+e=c.length∨rd c (a+e)≠rd c a) (rest:DM c (a+e) L):DM c a ((e-1)::rd c a::L)
theorem aiv {c:List Int} (hc:c.length<=256): ∀(n k:Nat) (a:Int) (x:List Int),a+n=c.length->0<=a->n<k->x.length<=1+2*a.toNat->
 ∃L,iN.l0 k c x a=some (x++L)/\(n=0->L=[])/\L.length<=2*n/\(∃q,L.length=2*q)/\(0<n->2<=L.length/\(L.length=2↔ ∀j:Int,a<=j->j<c.length->rd c j=rd c a))/\DM c a L:=by
 intro n
 induction n using Nat.strongRecOn with
 |_ n ih=>
  intro k a x ha a0 hk hx;obtain⟨k,rfl⟩:=bl hk
  by_cases hn:n=0
  ·subst hn;have:a=c.length:=U;refine⟨[],by rw[iN.l0,ah U];simp,λ_=>rfl,by simp,⟨0,J⟩,λq=>by omega,by rw[this];exact .done⟩
  ·have a1:a<(c.length:Int):=U;obtain⟨e,h1,h2,h3,h4,h5⟩:=afG (c:=c) U a0 a1 (n-1) fuel 1 U U (by rw[uH];omega) (λj j0 j1=>by rw[show j=a by omega])
   have ewu:bU (aa (e-1))=e-1:=by rw[bn U U,Fv U U]
   obtain⟨L,e1,e2,e3,⟨q,e4⟩,e5,e6⟩:=ih (n-e.toNat) U k (a+e) (x++[e-1,rd c a]) U U U bm;refine⟨(e-1)::rd c a::L,?_,λq=>by omega,by simp;omega,⟨q+1,by simp;omega⟩,λ_=>⟨by simp,?_⟩,.run a0 h2 h3 h4 h5 e6⟩
   ·rw[iN.l0,af a1,h1,aI,af ⟨a0,a1⟩,af U,bn (x:=a+e) U U,ewu];simp only[aI];rw[e1];simp
   ·constructor
    ·intro hl;have qR:L.length=0:=by simp at hl;simp[hl]
     have Eu:a+e=c.length:=by
      by_cases hz:n-e.toNat=0
      ·omega
      ·have:=(e5 U).1;omega
     intro j j0 j1;exact h4 j j0 U
    ·intro uJ;have Eu:a+e=c.length:=by
      rcases h5 with h5 |h5
      ·exact h5
      ·by_cases hz:a+e=c.length
       ·exact hz
       ·exact absurd (uJ (a+e) U U) h5
     have:=e2 U;rw[this];rfl
theorem ahx (t:aL): ∀(k:Nat) (a x:Int),jz.l1 k t a x=iN.l1 k t.C a x:=by
 intro k
 induction k with
 |zero=>intro a x;rfl
 |succ k ih=>intro a x;simp only[jz.l1,iN.l1,ih]
theorem ahw (t:aL): ∀(k:Nat) (x:List Int) (a:Int),jz.l0 k t x a=iN.l0 k t.C x a:=by
 intro k
 induction k with
 |zero=>intro x a;rfl
 |succ k ih=>intro x a;simp only[jz.l0,iN.l0,ih,ahx]
def wN (c:List Int):Prop:= ∀j:Int,0<=j->j<c.length->rd c j=rd c 0
theorem contains_diff (t:aL) (h1:1<=t.C.length) (hb:t.C.length<=100000): ∃b,Dw.f t.C t=some b/\(b=false↔wN t.C):=by
 unfold Dw.f rk.f;have key: ∀(n k:Nat) (i:Int),i+n=t.C.length->0<=i->n<k-> ∃r,rk.l0 k t.C t i=some r/\(r<0↔ ∀j:Int,i<=j->j<t.C.length->rd t.C j=rd t.C 0):=by
  intro n
  induction n with
  |zero=>
   intro k i hi h0 hk;obtain⟨k,rfl⟩:=bl hk;exact⟨-1,by rw[rk.l0,ah U],⟨λ_ j j0 j1=>by omega,λ_=>by omega⟩⟩
  |succ n ih=>
   intro k i hi h0 hk;obtain⟨k,rfl⟩:=bl hk;have e:Db.f (rd t.C i) t=some (rd t.C i !=rd t.C 0):=by unfold Db.f;rw[af U]
   rw[rk.l0,af U,af U,e,aI]
   by_cases hq:rd t.C i=rd t.C 0
   ·rw[ah (by simpa using hq),bn U U]
    obtain⟨r,r1,r2⟩:=ih k (i+1) U U U;refine⟨r,r1,?_⟩;rw[r2];constructor
    ·intro h j j0 j1
     by_cases hj:j=i
     ·rw[hj,hq]
     ·exact h j U j1
    ·intro h j j0 j1;exact h j U j1
   ·rw[af (by simpa using hq)]
    exact⟨i,J,⟨λh=>by omega,λh=>absurd (h i U U) hq⟩⟩
 obtain⟨r,r1,r2⟩:=key t.C.length fuel 0 U U (by rw[uH];omega)
 rw[r1,aI];refine⟨_,J,?_⟩;unfold wN;rw[<-r2];simp
structure DQ (t:aL) (L:List Int) (f:Int) (out:List Int):Prop where
 runs:iN.f t.C=some (2::L)
 two:L.length=2↔wN t.C
 even: ∃q,L.length=2*q
 enc:DM t.C 0 L
 ge:2<=L.length
 le:L.length<=512
 P7:wN t.C->f=0/\out=[0,rd t.C 0]
 OO: ¬wN t.C-> ¬L.length<t.C.length->f=1/\out=1::t.C
 short: ¬wN t.C->L.length<t.C.length->f=2/\out=2::L
theorem af' (t:aL) (h1:1<=t.C.length) (hb:t.C.length<=256): ∃L f out,lA.f t=some (f,out)/\DQ t L f out:=by
 obtain⟨L,e1,_,e3,e4,e5,e8⟩:=aiv (c:=t.C) U t.C.length fuel 0 [2] U U (by rw[uH];omega) bd
 have e5:=e5 U;have e6:L.length=2↔wN t.C:=e5.2;obtain⟨b,c1,c2⟩:=contains_diff t h1 U;obtain⟨k,hk⟩: ∃k,fuel=k+4:=⟨fuel-4,by rw[uH]⟩
 have p0:jz.f t 0=some (if b=true then[] else[0,rd t.C 0]):=by
  unfold jz.f;have:bU 0=0:=Fv U U;rw[af (by rfl),c1,aI,this]
  cases b
  ·rw[ah bd,af U,af bd];rfl
  ·rfl
 have p1:jz.f t 1=some (1::t.C):=by
  unfold jz.f;have:bU 1=1:=Fv U U;rw[ah bd,af (by rfl),this,af bm];rfl
 have p2:jz.f t 2=some (2::L):=by
  unfold jz.f;have:bU 2=2:=Fv U U;rw[ah bd,ah bd,this,ahw,e1];rfl
 have n1:aa (0+1)=1:=bn U U;have n2:aa (1+1)=2:=bn U U;have n3:aa (2+1)=3:=bn U U;have nI:iN.f t.C=some (2::L):=by unfold iN.f;rw[e1];rfl
 unfold lA.f;rw[hk,lA.l0,af U,p0,aI,n1]
 by_cases hu:wN t.C
 ·have hbf:b=false:=c2.mpr hu;subst hbf;rw[ah (c:=false=true) bd];simp only[List.isEmpty_cons,List.isEmpty_nil,Bool.not_false,if_true,aI];rw[lA.l0,af U,p1,aI,n2];simp only[List.isEmpty_cons,Bool.not_false,if_true,Bool.false_eq_true,if_false,aI];rw[ah bm,lA.l0,af U,p2,aI,n3];simp only[List.isEmpty_cons,Bool.not_false,if_true,Bool.false_eq_true,if_false,aI];rw[ah bm,lA.l0,ah U];exact⟨L,0,[0,rd t.C 0],J,⟨nI,e6,e4,e8,e5.1,by omega,λ_=>⟨J,J⟩,λq=>absurd hu q,λq=>absurd hu q⟩⟩
 ·have hbt:b=true:=by
   cases hb:b
   ·exact absurd (c2.mp hb) hu
   ·rfl
  subst hbt;simp only[if_true,List.isEmpty_nil,Bool.not_true,Bool.false_eq_true,if_false,aI];rw[lA.l0,af U,p1,aI,n2];simp only[List.isEmpty_cons,List.isEmpty_nil,Bool.not_false,if_true,aI];rw[lA.l0,af U,p2,aI,n3];simp only[List.isEmpty_cons,Bool.not_false,if_true,Bool.false_eq_true,if_false,aI]
  by_cases hs:L.length<t.C.length
  ·rw[af bm,lA.l0,ah U];exact⟨L,2,2::L,J,⟨nI,e6,e4,e8,e5.1,by omega,λq=>absurd q hu,λ_ q=>absurd hs q,λ_ _=>⟨J,J⟩⟩⟩
  ·rw[ah bm,lA.l0,ah U];exact⟨L,1,1::t.C,J,⟨nI,e6,e4,e8,e5.1,by omega,λq=>absurd q hu,λ_ _=>⟨J,J⟩,λ_ q=>absurd q hs⟩⟩
theorem Wk {t:aL} (h:sH t): ∃L f out,tG.f t=some (out,0)/\DQ t L f out:=by
 have hl:=oS h;obtain⟨L,f,out,e,hL⟩:=af' t hl.1 hl.2;refine⟨L,f,out,?_,hL⟩;unfold tG.f;rw[Lw t U,decide_eq_true h,aI,ah bd,e];rfl
theorem QF {x:Int} (h0:0<=x) (h1:x<=4294967295):(((BitVec.ofInt (IntKind.bits .u64) x&&&BitVec.ofInt (IntKind.bits .u64) 4294967295).toNat:Nat):Int)=x:=by
 rw[BitVec.toNat_and];have e1:(BitVec.ofInt (IntKind.bits .u64) 4294967295).toNat=2^32-1:=by decide
 have e2:(BitVec.ofInt (IntKind.bits .u64) x).toNat=x.toNat:=by
  rw[BitVec.toNat_ofInt]
  show(x%((2^64:Nat):Int)).toNat=x.toNat
  rw[Int.emod_eq_of_lt h0 U]
 rw[e1,e2,Nat.and_two_pow_sub_one_eq_mod,Nat.mod_eq_of_lt U];omega
theorem M6 {x:Int} (h0:0<=x) (h1:x<=4294967295):Int.fdiv x (2^32)=0:=by
 rw[Int.fdiv_eq_ediv_of_nonneg _ U];exact Int.ediv_eq_zero_of_lt h0 U
theorem Rf {x y:Int} (hx:0<=x/\x<=1) (hy:0<=y/\y<=65536):tn.f x y=some (0,x*y):=by
 have G3:0<=x*y/\x*y<=65536:=by
  have:x=0∨x=1:=U;rcases this with rfl |rfl<;>omega
 unfold tn.f CT.f;simp only[aI];rw[M6 hx.1 U,M6 hy.1 U];simp only[Int.zero_mul,Int.mul_zero];rw[QF hx.1 U,QF hy.1 U,rB hx.1 U,rB hy.1 U,rB G3.1 U,M6 G3.1 U];have z:eQ 0=0:=rB U U;simp only[Int.add_zero,z];have f0:Int.fdiv 0 (2^32)=0:=by decide
 rw[f0];have a0:(((BitVec.ofInt (IntKind.bits .u64) 0&&&BitVec.ofInt (IntKind.bits .u64) 4294967295).toNat:Nat):Int)=0:=by decide
 simp only[a0,z,Int.add_zero,f0]
theorem aaz {c m:Int} {v1:Int×Int} (hv:aa v1.2=m) (hm:1<=m/\m<=8192): ∀(n k:Nat) (x:List Int) (p:Int),p+n=m->1<=p->n<k->(x.length:Int)=m->(∀j:Int,0<=j->j<p->rd x j=c)->
 lL.l0 k v1 m x p=some (List.replicate m.toNat c):=by
 intro n
 induction n using Nat.strongRecOn with
 |_ n ih=>
  intro k x p hp p1 hk hx hc;obtain⟨k,rfl⟩:=bl hk;rw[lL.l0,hv]
  by_cases hn:n=0
  ·rw[ah U]
   congr 1
   refine zC bm (λj j0 j1=>?_);rw[hc j j0 U,wq j0 U]
  ·have abN:(if m<p then m else p)=p:=by rw[ah U]
   rw[af U,abN,af U,af U];have zd:(aA x 0 p).length=p.toNat:=by simp[aA];omega
   have qR:(aA x p (x.length:Int)).length=(m-p).toNat:=by simp[aA];omega
   have lO:(cm x p.toNat (min (aA x 0 p).length (aA x p (x.length:Int)).length) (aA x 0 p)).length=x.length:=AA U U;rw[zd,qR] at lO⊢;rw[bn U U];refine ih (n-(min p.toNat (m-p).toNat)) U k _ _ U U U U (λj j0 j1=>?_);have Ku:rd (cm x p.toNat (min p.toNat (m-p).toNat) (aA x 0 p)) j=if j<p then rd x j else rd x (j-p):=by
    unfold cm
    by_cases hj:j<p
    ·rw[af hj,zD j0 bm];unfold rd;rw[List.getD_eq_getElem?_getD,List.getD_eq_getElem?_getD,List.getElem?_take_of_lt U]
    ·rw[ah hj,mJ bm,zD bm (by simp[aA];omega)]
     have e:j-((List.take p.toNat x).length:Int)=j-p:=by simp;omega
     rw[e];unfold rd aA;rw[List.getD_eq_getElem?_getD,List.getD_eq_getElem?_getD,List.getElem?_take_of_lt U,List.getElem?_take_of_lt U];simp
   rw[Ku]
   by_cases hj:j<p
   ·rw[af hj];exact hc j j0 hj
   ·rw[ah hj];exact hc (j-p) U U
theorem Px {c m:Int} (hm:1<=m/\m<=8192):lL.f [c] m=some (List.replicate m.toNat c):=by
 unfold lL.f;have e1:eQ ((List.length [c]:Nat):Int)=1:=rB bd bd;have e2:eQ m=m:=rB U U;rw[ah bm,ah U,e1,e2,Rf U U,aI,Int.one_mul];have e3:aa m=m:=bn U U;have hb:((decide ((0:Int)>0))||(decide (m>9223372036854775807)))=false:=by
  rw[decide_eq_false U,decide_eq_false U];rfl
 simp only[hb,e3];rw[ah bd,ah bd,ah U,aI,af U];refine Y5 (ag_ m) (λx hx=>?_);obtain⟨hl,_⟩:=hx;rw[af U];have Oe:min (List.length [c]) x.length=1:=by simp;omega
 rw[Oe];have:=aaz (c:=c) (v1:=(0,m)) (m:=m) e3 hm (m-1).toNat fuel (cm x 0 1 [c]) 1 U U (by rw[uH];omega) (by rw[AA U bd];omega) (λj j0 j1=>by
  have:j=0:=U;subst this;simp[cm];rfl)
 rw[show(((1:Nat):Int))=1 by rfl,this,aI]
theorem aia {m:Int} (hm:1<=m/\m<=8192):lL.f [] m=some []:=by
 unfold lL.f;have e1:eQ ((List.length ([]:List Int):Nat):Int)=0:=rB bd bd;have e2:eQ m=m:=rB U U;rw[ah bm,ah U,e1,e2,Rf U U,aI,Int.zero_mul];simp
theorem ah4 {L:List Int} {lo hi j:Int} (h0:0<=lo) (j0:0<=j) (j1:lo+j<hi):rd (aA L lo hi) j=rd L (lo+j):=by
 unfold rd aA;rw[List.getD_eq_getElem?_getD,List.getD_eq_getElem?_getD,List.getElem?_take_of_lt U,List.getElem?_drop,show(lo+j).toNat=lo.toNat+j.toNat by omega]
theorem BB {L:List Int} {lo hi:Int} (h0:0<=lo) (h1:lo<=hi) (h2:hi<=L.length):((aA L lo hi).length:Int)=hi-lo:=by rw[i_ ⟨h0,h1,h2⟩];omega
theorem Iu {L:List Int} {lo hi:Int} {P:Int->Prop} (h: ∀y∈L,P y): ∀y∈aA L lo hi,P y:=λy hy=>h y (List.mem_of_mem_drop (List.mem_of_mem_take hy))
theorem XK {b:List Int} {a n:Int} (hb:b.length<=100000) (a0:0<=a) (a1:a<=b.length) (h:b.length<a+n):nh.f ⟨b,a⟩ n=some ([],.eF 6,⟨b,a⟩):=by
 unfold nh.f;simp only;rw[bn (x:=_-a) U U,af U]
theorem XJ {b:List Int} {a n:Int} (hb:b.length<=100000) (a0:0<=a) (n0:0<=n) (h:a+n<=b.length):nh.f ⟨b,a⟩ n=some (aA b a (a+n),.nil,⟨b,a+n⟩):=by
 unfold nh.f;simp only;rw[bn (x:=_-a) U U,ah U,bn (x:=a+n) U U,bn (x:=a+n-n) U U,af U,show a+n-n=a by omega]
inductive nq where
 |short:nq
 |form:nq
 |ok:List Int->Int->nq
theorem u8 {b:List Int} (hb: ∀y∈b,fa y) {i:Int} (h0:0<=i) (h1:i<b.length):0<=rd b i/\rd b i<=255:=by
 have:=hb _ (vb h0 h1);unfold fa at this;omega
theorem abl {b:List Int} {a n:Int} (hb:b.length<=100000) (a0:0<=a) (a1:a<=b.length) (h:b.length<a+n):ql.f ⟨b,a⟩ n=some ([],.eF 6,⟨b,a⟩):=by
 unfold ql.f;rw[XK hb a0 a1 h];rfl
theorem abk {b:List Int} {a n:Int} (hb:b.length<=100000) (a0:0<=a) (n0:0<=n) (h:a+n<=b.length):ql.f ⟨b,a⟩ n=some (aA b a (a+n),if 0∈aA b a (a+n) then .eF 5 else .nil,⟨b,a+n⟩):=by
 unfold ql.f;have hl:=BB a0 (show a<=a+n by omega) h
 rw[XJ hb a0 n0 h,aI];simp only[Er.isNil,if_true];rw[ML _ _ U];simp only[aI]
 by_cases hz:0∈aA b a (a+n)
 ·rw[af hz,af (by simpa using hz)]
 ·rw[ah hz,ah (by simpa using hz)]
theorem ah8 {t:aL} {L:List Int} {f:Int} {out:List Int} (h1:1<=t.C.length) (hb:t.C.length<=256) (h:DQ t L f out):xS.f t=some (f,out):=by
 unfold xS.f;rw[h.runs,aI];have hge:=h.ge;have hle:=h.le;have hlen:(((2::L:List Int).length:Nat):Int)=L.length+1:=by simp
 rw[hlen]
 by_cases hu:wN t.C
 ·have:=h.two.mpr hu;obtain⟨e1,e2⟩:=h.P7 hu;rw[af bm,af U,e1,e2]
 ·have bQ: ¬L.length=2:=λq=>hu (h.two.mp q);rw[ah bm,bn U U]
  by_cases hs:L.length<t.C.length
  ·obtain⟨e1,e2⟩:=h.short hu hs;rw[af U,e1,e2]
  ·obtain⟨e1,e2⟩:=h.OO hu hs;rw[ah U,af bm,e1,e2];rfl
theorem acn {b:List Int} {w h n:Int} (hw:1<=w/\w<=16) (hh:1<=h/\h<=16) (hn:aa (w*h)=n) {x:List Int} {q:Int} (hx:x.length<=100000) (hr:tI.f ⟨b,0⟩ n=some (x,.eF 6,⟨b,q⟩)):q_.f b w h=some (⟨0,0,[]⟩,0,2):=by
 unfold q_.f wk.f nX.f;have e:(((decide (w<1)||decide (w>16))||decide (h<1))||decide (h>16))=false:=by simp;omega
 rw[hn,hr];simp only[e,Bool.false_eq_true,if_false,aI,Er.isNil];rw[af bm]
 rfl
theorem ack {b:List Int} {w h n:Int} (hw:1<=w/\w<=16) (hh:1<=h/\h<=16) (hn:aa (w*h)=n) {x:List Int} {q:Int} (hx:x.length<=100000) (hr:tI.f ⟨b,0⟩ n=some (x,.eF 5,⟨b,q⟩)):q_.f b w h=some (⟨0,0,[]⟩,0,3):=by
 unfold q_.f wk.f nX.f;have e:(((decide (w<1)||decide (w>16))||decide (h<1))||decide (h>16))=false:=by simp;omega
 rw[hn,hr];simp only[e,Bool.false_eq_true,if_false,aI,Er.isNil];rw[af bm]
 rfl
theorem acm {b:List Int} {w h n:Int} (hw:1<=w/\w<=16) (hh:1<=h/\h<=16) (hn:aa (w*h)=n) {x:List Int} {p:Int} (hx:x.length<=100000) (hp:0<=p/\p<=b.length) (hr:tI.f ⟨b,0⟩ n=some (x,.nil,⟨b,p⟩)) {out:List Int} {f:Int} (afa:tG.f ⟨w,h,x⟩=some (out,f)):
 q_.f b w h=some (if Bz out (aA b 0 p)=true then(⟨w,h,x⟩,p,0) else(⟨0,0,[]⟩,0,3)):=by
 unfold q_.f wk.f nX.f D4.f;have e:(((decide (w<1)||decide (w>16))||decide (h<1))||decide (h>16))=false:=by simp;omega
 rw[hn,hr];simp only[e,Bool.false_eq_true,if_false,aI,Er.isNil,if_true,List.nil_append];rw[af bm];simp only[aI,Er.isNil,if_true];rw[afa];simp only[aI];rw[af U]
 cases hs:Bz out (aA b 0 p)
 ·rfl
 ·rfl
abbrev Ic (w h s:Int):Nat:=((ax w h s).1*(ax w h s).2).toNat
theorem Xg {w h s:Int} (hs:bK w h s):1<=Ic w h s/\Ic w h s<=256/\((Ic w h s:Nat):Int)=(ax w h s).1*(ax w h s).2:=by
 obtain⟨z1,z2,z3,z4⟩:=qv hs;have h1:(ax w h s).1*(ax w h s).2<=16*16:=ka U U z2 z4;have h2:1*1<=(ax w h s).1*(ax w h s).2:=ka U U z1 z3;unfold Ic;omega
theorem aio {m:aL} (hm:uv m) (s:Int):nS.f m s=some (fN m s):=ajI hm s
def qV (w h s c:Int):Prop:=16*(s%(bp w h).1)<=c%w/\c%w<16*(s%(bp w h).1)+(ax w h s).1/\16*(s/(bp w h).1)<=c/w/\c/w<16*(s/(bp w h).1)+(ax w h s).2
instance (w h s c:Int):Decidable (qV w h s c):=by unfold qV;infer_instance
def loc (w h s c:Int):Int:=(c/w-16*(s/(bp w h).1))*(ax w h s).1+(c%w-16*(s%(bp w h).1))
theorem aii {w h s:Int} (hs:bK w h s):16*(s%(bp w h).1)+(ax w h s).1<=w/\16*(s/(bp w h).1)+(ax w h s).2<=h:=by
 unfold ax;rw[af hs];simp only;omega
theorem agf {w h s c:Int} (hs:bK w h s) (hi:qV w h s c):0<=loc w h s c/\loc w h s c<(ax w h s).1*(ax w h s).2:=by
 obtain⟨i1,i2,i3,i4⟩:=hi;unfold loc;exact sS U U U U
theorem aiN {w h c:Int} (hc:bZ w h c): ∃s,bK w h s/\qV w h s c:=by
 have hs:=Fa hc;obtain⟨a,b,d,e⟩:=E_ hc;have hn:=qY (a:=(bp w h).1) (x:=c%w/16) (y:=c/w/16) a b;have hp:=wm hc;refine⟨_,hs,?_⟩;unfold qV ax;rw[af hs,hn.1,hn.2];simp only;generalize c%w=x at*;generalize c/w=y at*;omega
theorem aik {w a X tw c:Int} (hw:0<w) (X0:0<=X) (ht:X+tw<=w):(a*w+X<=c/\c<a*w+X+tw)↔(c/w=a/\X<=c%w/\c%w<X+tw):=by
 constructor
 ·rintro⟨h1,h2⟩;have:=qY (a:=w) (x:=c-a*w) (y:=a) U U;rw[show a*w+(c-a*w)=c by omega] at this
  obtain⟨e1,e2⟩:=this;rw[e1,e2];exact⟨J,by omega,by omega⟩
 ·rintro⟨rfl,h2,h3⟩;have:=Int.mul_ediv_add_emod c w;rw[Int.mul_comm] at this;omega
theorem ah3 {x S:List Int} {p n c:Int} (p0:0<=p) (n0:0<=n) (hx:p+n<=x.length) (hS:n<=S.length) (c0:0<=c):rd (cm x p.toNat n.toNat S) c=if p<=c/\c<p+n then rd S (c-p) else rd x c:=by
 unfold cm
 by_cases h1:c<p
 ·rw[ah U,zD c0 bm];unfold rd;rw[List.getD_eq_getElem?_getD,List.getD_eq_getElem?_getD,List.getElem?_take_of_lt U]
 ·have e:c-((List.take p.toNat x).length:Int)=c-p:=by simp;omega
  rw[mJ bm,e]
  by_cases h2:c<p+n
  ·rw[af ⟨by omega,h2⟩,zD U bm]
   unfold rd;rw[List.getD_eq_getElem?_getD,List.getD_eq_getElem?_getD,List.getElem?_take_of_lt U]
  ·rw[ah U,mJ bm];have e2:c-p-((List.take n.toNat S).length:Int)=c-p-n:=by simp;omega
   rw[e2];unfold rd;rw[List.getD_eq_getElem?_getD,List.getD_eq_getElem?_getD,List.getElem?_drop,show p.toNat+n.toNat+(c-p-n).toNat=c.toNat by omega]
theorem af4 {w h s:Int} (hs:bK w h s) {t:aL} (hW:t.W=(ax w h s).1) (hH:t.H=(ax w h s).2) (hC:(t.C.length:Int)=(ax w h s).1*(ax w h s).2) {x:List Int} (hx:(x.length:Int)=w*h):
 ∃x',ox.f ⟨w,h,x⟩ s t=some x'/\(x'.length:Int)=w*h/\ ∀c,0<=c->c<w*h->rd x' c=if qV w h s c then rd t.C (loc w h s c) else rd x c:=by
 have hz:=qv hs;have Ob:=tX hs;have hmp:=uZ Ob;obtain⟨r1,r2⟩:=aii hs;obtain⟨p1,p2,p3,p4⟩:=ve hs;obtain⟨sn1,sn2,sn3⟩:=Xg hs;unfold ox.f;simp only;rw[JS,aI];have hg:dn w h s 0=16*(s/(bp w h).1)*w+16*(s%(bp w h).1):=by
  unfold dn;rw[af ⟨hs,by omega,by omega⟩,Int.zero_ediv,Int.zero_emod,Int.add_zero,Int.add_zero]
 rw[hg];generalize hX:16*(s%(bp w h).1)=X at*;generalize hY:16*(s/(bp w h).1)=Y at*;generalize Oo:(ax w h s).1=tw at*;generalize UM:(ax w h s).2=th at*;have key: ∀(n k:Nat) (y:Int) (z:List Int),y+n=th->0<=y->n<k->(z.length:Int)=w*h->(∀c,0<=c->c<w*h->rd z c=if qV w h s c/\c/w<Y+y then rd t.C (loc w h s c) else rd x c)->
  ∃x',ox.l0 k ⟨w,h,x⟩ t (Y*w+X) z y=some x'/\(x'.length:Int)=w*h/\ ∀c,0<=c->c<w*h->rd x' c=if qV w h s c then rd t.C (loc w h s c) else rd x c:=by
  intro n
  induction n with
  |zero=>
   intro k y z hy y0 hk U0 Oy;obtain⟨k,rfl⟩:=bl hk;refine⟨z,by rw[ox.l0,ah U],U0,λc c0 c1=>?_⟩
   rw[Oy c c0 c1]
   by_cases hi:qV w h s c
   ·have:c/w<Y+y:=by
     have⟨_,_,_,i4⟩:=hi;rw[hY,UM] at i4;omega
    rw[af ⟨hi,this⟩,af hi]
   ·rw[ah (λq=>hi q.1),ah hi]
  |succ n ih=>
   intro k y z hy y0 hk U0 Oy;obtain⟨k,rfl⟩:=bl hk;have e1:(Y+y)*w=Y*w+y*w:=Int.add_mul _ _ _;have e2:(y+1)*tw=y*tw+tw:=by rw[Int.add_mul,Int.one_mul]
   have e3:(Y+y+1)*w=(Y+y)*w+w:=by rw[Int.add_mul,Int.one_mul]
   have b1:(Y+y+1)*w<=h*w:=Int.mul_le_mul_of_nonneg_right U U;have b2:h*w=w*h:=Int.mul_comm _ _;have b3:(y+1)*tw<=th*tw:=Int.mul_le_mul_of_nonneg_right U U;have b4:th*tw=tw*th:=Int.mul_comm _ _;have b5:0<=y*tw:=nP y0 U;have b6:0<=y*w:=nP y0 U;have b7:0<=Y*w:=nP U U;rw[ox.l0,hH,af U];simp only;rw[hW,bn (x:=y*w) U U,bn (x:=Y*w+X+y*w) U U,bn (x:=y*tw) U U,bn (x:=y+1) U U,bn (x:=(y+1)*tw) U U];have hpe:Y*w+X+y*w=(Y+y)*w+X:=U;rw[hpe,af U,af U];have l1:=BB (L:=t.C) (lo:=y*tw) (hi:=(y+1)*tw) b5 U U;have l2:=BB (L:=z) (lo:=(Y+y)*w+X) (hi:=(z.length:Int)) U U U;have Oe:min (aA t.C (y*tw) ((y+1)*tw)).length (aA z ((Y+y)*w+X) (z.length:Int)).length=tw.toNat:=U;rw[Oe];have lO:(cm z ((Y+y)*w+X).toNat tw.toNat (aA t.C (y*tw) ((y+1)*tw))).length=z.length:=AA U U;refine ih k (y+1) _ U U U U (λc c0 c1=>?_);rw[ah3 U U U U c0];have UI:=aik (w:=w) (a:=Y+y) (X:=X) (tw:=tw) (c:=c) U U r1
   by_cases xB:(Y+y)*w+X<=c/\c<(Y+y)*w+X+tw
   ·obtain⟨q1,q2,q3⟩:=UI.mp xB;have cu:qV w h s c:=by unfold qV;rw[hX,hY,Oo,UM];exact⟨q2,q3,by omega,by omega⟩
    rw[af xB,af ⟨cu,by omega⟩,ah4 b5 U U]
    congr 1
    unfold loc;rw[hX,hY,Oo,q1];have e4:(Y+y-Y)*tw=y*tw:=by rw[show Y+y-Y=y by omega]
    have:=Int.mul_ediv_add_emod c w;rw[Int.mul_comm,q1] at this;omega
   ·rw[ah xB,Oy c c0 c1]
    by_cases cu:qV w h s c
    ·have⟨i1,i2,i3,i4⟩:=cu;rw[hX] at i1;rw[hX,Oo] at i2;have bQ:c/w≠Y+y:=λq=>xB (UI.mpr ⟨q,i1,i2⟩)
     by_cases aS:c/w<Y+y
     ·rw[af ⟨cu,aS⟩,af ⟨cu,by omega⟩]
     ·rw[ah (λq=>aS q.2),ah (λq=>by have:=q.2;omega)]
    ·rw[ah (λq=>cu q.1),ah (λq=>cu q.1)]
 exact key th.toNat fuel 0 x U U (by rw[uH];omega) hx (λc c0 c1=>by
  by_cases hi:qV w h s c
  ·have⟨_,_,i3,_⟩:=hi;rw[hY] at i3;rw[ah (λq=>by have:=q.2;omega)]
  ·rw[ah (λq=>hi q.1)])
theorem ahg {x y:Nat} (hx:x<256):x|||(y*256)=x+256*y:=by
 have:=Nat.shiftLeft_add_eq_or_of_lt (b:=x) (i:=8) U y;rw[Nat.shiftLeft_eq] at this;have e8:(2:Nat)^8=256:=by decide
 rw[e8] at this;rw[Nat.or_comm,<-this];omega
theorem Ep {x y:Int} (hx:fa x) (hy:fa y):aa (BitVec.toNat (BitVec.ofInt (IntKind.bits .i64) (aa x)|||BitVec.ofInt (IntKind.bits .i64) (aa ((aa y)*2^8))))=x+256*y:=by
 unfold fa at hx hy;rw[bn (x:=x) U U,bn (x:=y) U U,bn (x:=y*2^8) U U,BitVec.toNat_or];have e: ∀z:Int,0<=z->z<=1000000->(BitVec.ofInt (IntKind.bits .i64) z).toNat=z.toNat:=by
  intro z z0 z1;rw[BitVec.toNat_ofInt]
  show(z%((2^64:Nat):Int)).toNat=z.toNat
  rw[Int.emod_eq_of_lt z0 U]
 rw[e x U U,e (y*2^8) U U];have e2:(y*2^8).toNat=y.toNat*256:=U;rw[e2,ahg U,bn U U];omega
theorem Qf {x:Int}:bU x=x%256:=by
 unfold bU IntKind.wrap IntKind.signed IntKind.bits;simp
structure w6 (m:aL):Prop where
 ok:uv m
 sP: ∀y∈m.C,1<=y/\y<=255
theorem PN {m:aL} (hm:w6 m) {s:Int} (hs:bK m.W m.H s):sH (fN m s)/\ ∀y∈(fN m s).C,1<=y/\y<=255:=by
 have hz:=qv hs;obtain⟨n1,n2,n3⟩:=Xg hs;have hb: ∀y∈(fN m s).C,1<=y/\y<=255:=by
  intro y hy;unfold fN kQ at hy;simp only[List.mem_map,List.mem_range] at hy;obtain⟨l,hl,rfl⟩:=hy;have hg:=AH (l:=(l:Int)) hs U U;exact hm.sP _ (vb hg.1 (by rw[hm.ok.2.1];exact hg.2))
 refine⟨⟨hz.1,hz.2.1,hz.2.2.1,hz.2.2.2,?_,λq=>by have:=hb 0 q;omega⟩,hb⟩
 show((kQ m s (Ic m.W m.H s)).length:Int)=_
 rw[DF,n3]
def HJ (m:aL) (s:Int):List Int:=((tG.f (fN m s)).getD ([],0)).1
theorem VW {m:aL} (hm:w6 m) {s:Int} (hs:bK m.W m.H s): ∃L f,tG.f (fN m s)=some (HJ m s,0)/\DQ (fN m s) L f (HJ m s):=by
 obtain⟨L,f,out,e,hL⟩:=Wk (PN hm hs).1;have:HJ m s=out:=by unfold HJ;rw[e];rfl
 exact⟨L,f,by rw[this];exact e,by rw[this];exact hL⟩
theorem VV {t:aL} (h:sH t) {L:List Int} {f:Int} {out:List Int} (hL:DQ t L f out):2<=out.length/\out.length<=1+t.C.length:=by
 have hl:=oS h;have h2:=hL.ge
 by_cases hu:wN t.C
 ·rw[(hL.P7 hu).2];simp;omega
 ·by_cases hs:L.length<t.C.length
  ·rw[(hL.short hu hs).2];simp;omega
  ·rw[(hL.OO hu hs).2];simp;omega
theorem abO {t:aL} (h:sH t) (hu: ∀y∈t.C,1<=y/\y<=255) {i:Int} {L:List Int} (he:DM t.C i L): ∀y∈L,fa y:=by
 have hl:=oS h
 induction he with
 |done=>intro y hy;simp at hy
 | @run i e L i0 e1 hie same stop rest ih=>
  intro y hy;simp only[List.mem_cons] at hy;have hm:=hu _ (vb i0 (show i<(t.C.length:Int) by omega))
  rcases hy with q |q |q
  ·rw[q];exact⟨by omega,by omega⟩
  ·rw[q];exact⟨by omega,by omega⟩
  ·exact ih y q
theorem ahk {v:aL} (hv:sH v) (hu: ∀y∈v.C,1<=y/\y<=255) {L:List Int} {f:Int} {out:List Int} (hL:DQ v L f out): ∀y∈out,fa y:=by
 have hC: ∀y∈v.C,fa y:=λy hy=>by have:=hu y hy;exact⟨by omega,by omega⟩
 have UR:=oS hv
 by_cases hn:wN v.C
 ·rw[(hL.P7 hn).2];intro y hy;simp only[List.mem_cons,List.not_mem_nil,or_false] at hy;rcases hy with q |q
  ·rw[q];exact⟨by omega,by omega⟩
  ·rw[q];exact hC _ (vb U U)
 ·by_cases hs:L.length<v.C.length
  ·rw[(hL.short hn hs).2];intro y hy;simp only[List.mem_cons] at hy;rcases hy with q |q
   ·rw[q];exact⟨by omega,by omega⟩
   ·exact abO hv hu hL.enc y q
  ·rw[(hL.OO hn hs).2];intro y hy;simp only[List.mem_cons] at hy;rcases hy with q |q
   ·rw[q];exact⟨by omega,by omega⟩
   ·exact hC y q
def outs (m:aL):Nat->Int->List Int
 |0,_=>[]
 |n+1,s=>HJ m s++outs m n (s+1)
theorem VX {m:aL} (hm:w6 m): ∀(n:Nat) (i:Int),i+n=eh m.W m.H->0<=i->(2*n<=(outs m n i).length/\(outs m n i).length<=257*n)/\ ∀y∈outs m n i,fa y:=by
 intro n
 induction n with
 |zero=>intro i _ _;exact⟨by simp[outs],by simp[outs]⟩
 |succ n ih=>
  intro i hi i0;have hs:bK m.W m.H i:=⟨i0,by omega⟩
  obtain⟨L,f,e,hL⟩:=VW hm hs;obtain⟨t1,t2⟩:=PN hm hs;have hl:=VV t1 hL;have hc:=oS t1;obtain⟨h1,h2⟩:=ih (i+1) U U;refine⟨by simp only[outs,List.length_append];omega,λy hy=>?_⟩
  simp only[outs,List.mem_append] at hy;rcases hy with q |q
  ·exact ahk t1 t2 hL y q
  ·exact h2 y q
def AP (m:aL):List Int:=[bU m.W,bU (Int.fdiv m.W (2^8)),bU m.H,bU (Int.fdiv m.H (2^8))]
def bytesOf (m:aL):List Int:=AP m++outs m (eh m.W m.H).toNat 0
theorem aim {m:aL} (hm:w6 m): ∀(n k:Nat) (i:Int) (x:List Int),i+n=eh m.W m.H->0<=i->n<k->x.length<=10+257*i.toNat->lD.l0 k m x i=some (x++outs m n i):=by
 have kG:=pn m.W m.H;intro n
 induction n with
 |zero=>
  intro k i x hi i0 hk hx;obtain⟨k,rfl⟩:=bl hk;rw[lD.l0,Pq,aI,ah U];simp[outs]
 |succ n ih=>
  intro k i x hi i0 hk hx;obtain⟨k,rfl⟩:=bl hk;have hs:bK m.W m.H i:=⟨i0,by omega⟩
  obtain⟨L,f,e,hL⟩:=VW hm hs;obtain⟨t1,t2⟩:=PN hm hs;have hl:=VV t1 hL;have hc:=oS t1;rw[lD.l0,Pq,aI,af U,aio hm.ok,aI,ah8 hc.1 hc.2 hL,aI];simp only;rw[af U,bn U U,ih k (i+1) _ U U U (by simp only[List.length_append];omega)]
  simp[outs]
theorem W6 {m:aL} (hm:w6 m):lD.f m=some (bytesOf m):=by
 have hc:=pn m.W m.H;unfold lD.f;exact aim hm (eh m.W m.H).toNat fuel 0 (AP m) U U (by rw[uH];omega) (by simp[AP])
theorem aeU (m:aL): ∀y∈AP m,fa y:=by
 intro y hy;unfold AP at hy;simp only[List.mem_cons,List.not_mem_nil,or_false,Qf] at hy;unfold fa;rcases hy with q |q |q |q<;>omega
theorem aaD {m:aL} (hm:w6 m): ∀y∈bytesOf m,fa y:=by
 intro y hy;have hc:=pn m.W m.H;unfold bytesOf at hy;rw[List.mem_append] at hy;rcases hy with q |q
 ·exact aeU m y q
 ·exact(VX hm (eh m.W m.H).toNat 0 U U).2 y q
theorem aaC {m:aL} (hm:w6 m):6<=(bytesOf m).length/\(bytesOf m).length<=4+257*(eh m.W m.H).toNat:=by
 have hc:=pn m.W m.H;have hp:=abm hm.ok.1;have:=(VX hm (eh m.W m.H).toNat 0 U U).1;unfold bytesOf;rw[List.length_append];have:(AP m).length=4:=rfl;omega
theorem abW {x:Int} (h0:0<=x):Int.fdiv x (2^8)=x/256:=by
 rw[Int.fdiv_eq_ediv_of_nonneg _ U];rfl
theorem Un {w:Int} (h0:0<=w) (h1:w<=65535):bU w+256*bU (Int.fdiv w (2^8))=w:=by
 rw[abW h0,Qf,Qf];omega
def LM (b:List Int) (n:Int) (r:List Int×Er×fb):Prop:=
 r.2.2.b=b/\0<=r.2.2.ba/\r.2.2.ba<=b.length/\r.1.length<=1000/\(r.2.1= .eF 5∨r.2.1= .eF 6∨(r.2.1= .nil/\(r.1.length:Int)=n/\ ∀y∈r.1,1<=y/\y<=255))
section
variable {b : List Int} {n : Int}
theorem P2 (hl:b.length<=100000) {a m:Int} (a0:0<=a) (a1:a<=b.length) (m0:0<=m):(b.length<a+m/\nh.f ⟨b,a⟩ m=some ([],.eF 6,⟨b,a⟩))∨(a+m<=b.length/\nh.f ⟨b,a⟩ m=some (aA b a (a+m),.nil,⟨b,a+m⟩)):=by
 by_cases z:b.length<a+m
 ·exact .inl ⟨z,XK hl a0 a1 z⟩
 ·exact .inr ⟨by omega,XJ hl a0 m0 U⟩
theorem RH (hb: ∀y∈b,fa y) (hl:b.length<=100000) {a m:Int} (a0:0<=a) (a1:a<=b.length) (m0:0<=m) (m1:m<=256):Ok (ql.f ⟨b,a⟩ m) (λr=>LM b m r/\(r.1.length:Int)<=m):=by
 by_cases z:b.length<a+m
 ·exact Ok.of (abl hl a0 a1 z) ⟨⟨J,a0,a1,by simp,.inr (.inl J)⟩,by simpa using m0⟩
 ·have hs:=BB a0 (show a<=a+m by omega) (show a+m<=b.length by omega)
  refine Ok.of (abk hl a0 m0 U) ⟨⟨J,by simp only;omega,by simp only;omega,by simp only;omega,?_⟩,by simp only;omega⟩
  simp only
  by_cases y:0∈aA b a (a+m)
  ·rw[af y];exact .inl J
  ·rw[ah y];refine .inr (.inr ⟨J,by omega,λx hx=>?_⟩)
   have h8:=Iu (P:=fa) hb x hx;unfold fa at h8;have:x≠0:=λq=>y (by rw[<-q];exact hx)
   omega
theorem aiw (hb: ∀y∈b,fa y) (hl:b.length<=100000) (n1:1<=n/\n<=256) (q:Int): ∀(m k:Nat) (a:Int) (x:List Int),(b.length-a).toNat<=m->m<k->0<=a->a<=b.length->(x.length:Int)<=n->(∀y∈x,1<=y/\y<=255)->
 Ok (pE.l0 k ⟨b,q⟩ n a x) (λz=>(∃e p,z= .inl ([],e,⟨b,p⟩)/\0<=p/\p<=b.length/\(e= .eF 5∨e= .eF 6))∨ ∃x' p,z= .inr (x',p)/\(x'.length:Int)=n/\0<=p/\p<=b.length/\ ∀y∈x',1<=y/\y<=255):=by
 intro m
 induction m with
 |zero=>
  intro k a x hm hk a0 a1 hx hy;obtain⟨k,rfl⟩:=bl hk;rw[pE.l0];refine Ok.ite (λz=>?_) λz=>Ok.pure (.inr ⟨x,a,J,by omega,a0,a1,hy⟩)
  rcases P2 hl a0 a1 (show(0:Int)<=2 by omega) with⟨_,e⟩ |⟨t,e⟩
  ·exact Ok.eq e (Ok.pos J (Ok.pure (.inl ⟨_,_,J,a0,a1,.inr J⟩)))
  ·omega
 |succ m ih=>
  intro k a x hm hk a0 a1 hx hy;obtain⟨k,rfl⟩:=bl hk;rw[pE.l0];refine Ok.ite (λz=>?_) λz=>Ok.pure (.inr ⟨x,a,J,by omega,a0,a1,hy⟩)
  rcases P2 hl a0 a1 (show(0:Int)<=2 by omega) with⟨_,e⟩ |⟨t,e⟩
  ·exact Ok.eq e (Ok.pos J (Ok.pure (.inl ⟨_,_,J,a0,a1,.inr J⟩)))
  ·refine Ok.eq e (Ok.neg (by simp[Er.isNil]) ?_)
   have hs:=BB a0 (show a<=a+2 by omega) t
   have r0:=dU (a:=aA b a (a+2)) (i:=0) U U;have r1:=dU (a:=aA b a (a+2)) (i:=1) U U;have u0:=Iu (P:=fa) hb _ r0;have u1:=Iu (P:=fa) hb _ r1;unfold fa at u0 u1;simp only;generalize rd (aA b a (a+2)) 0=c at*;generalize rd (aA b a (a+2)) 1=v at*;rw[wi (x:=c) U U,wi (x:=c+1) U U,wi (x:=n-(x.length:Int)) U U,wi (x:=(x.length:Int)-1) U U];refine Ok.cx U (Ok.cx U ?_);refine Ok.bind (P:=λy:Bool=>y=false->v≠0/\c+1<=n-x.length) (Ok.ite (λy=>Ok.pure bd) λy=>?_) λy EE=>?_
   ·have y: ¬(v=0∨c+1>n-x.length):=by simpa using y
    refine Ok.ite (λw=>Ok.cx U (Ok.pure λ_=>by omega)) λw=>Ok.pure λ_=>by omega
   ·refine Ok.ite (λw=>Ok.pure (.inl ⟨_,_,J,by omega,by omega,.inl J⟩)) λw=>?_
    obtain⟨v0,c1⟩:=EE (by simpa using w)
    refine Ok.eq (Px U) (Ok.cx bm (ih k (a+2) _ U U U U bm λy aff=>?_));rcases List.mem_append.1 aff with w |w
    ·exact hy y w
    ·have:=List.eq_of_mem_replicate w;omega
theorem aax (hb: ∀y∈b,fa y) (hl:b.length<=100000) (n1:1<=n/\n<=256):Ok (tI.f ⟨b,0⟩ n) (LM b n):=by
 unfold tI.f;rcases P2 (b:=b) hl (Int.le_refl 0) U (show(0:Int)<=1 by omega) with⟨_,e⟩ |⟨t,e⟩
 ·exact Ok.eq e (Ok.pos J (Ok.pure ⟨J,Int.le_refl _,by simp only;omega,by simp,.inr (.inl J)⟩))
 refine Ok.eq e (Ok.neg (by simp[Er.isNil]) ?_)
 have hs:=BB (L:=b) (Int.le_refl 0) (show(0:Int)<=0+1 by omega) t
 refine Ok.cx (by simp only;omega) (Ok.ite (λz=>?_) λz=>Ok.ite (λz=>?_) λz=>Ok.ite (λz=>?_) λz=>Ok.pure ⟨J,by simp only;omega,by simp only;omega,by simp,.inl J⟩)
 ·refine(RH hb hl (a:=0+1) (m:=1) U U U U).bind λr hr=>?_
  obtain⟨⟨h1,h2,h3,h4,h5⟩,h9⟩:=hr;rcases h5 with h5 |h5 |⟨h5,h6,h7⟩
  rotate_left 2
  ·obtain⟨y,hy⟩: ∃y,r.1=[y]:=List.length_eq_one_iff.1 U;have:=h7 y (by rw[hy];exact List.mem_cons_self ..)
   rw[hy];refine Ok.eq (Px U) (Ok.pure ⟨J,h2,h3,by simp;omega,.inr (.inr ⟨h5,by simp;omega,λx hx=>?_⟩)⟩)
   have:=List.eq_of_mem_replicate hx;omega
  all_goals
   obtain⟨x,ex,lx⟩: ∃x,lL.f r.1 n=some x/\x.length<=1000:=by
    cases zd:r.1 with
    |nil=>exact⟨_,aia U,by simp⟩
    |cons c l=>
     rw[zd] at h9;have:l=[]:=List.length_eq_zero_iff.1 (by simp at h9;omega)
     subst this;exact⟨_,Px U,by simp;omega⟩
   exact Ok.eq ex (Ok.pure ⟨J,h2,h3,lx,by simp[h5]⟩)
 ·refine(RH hb hl (a:=0+1) (m:=n) U U U U).bind λr hr=>Ok.pure ?_
  obtain⟨⟨h1,h2,h3,h4,h5⟩,_⟩:=hr;exact⟨J,h2,h3,h4,h5⟩
 ·unfold pE.f;refine Ok.bind (P:=LM b n) ?_ λr hr=>Ok.pure ⟨J,hr.2.1,hr.2.2.1,hr.2.2.2.1,hr.2.2.2.2⟩
  refine(aiw hb hl n1 (0+1) 100000 fuel (0+1) [] U (by rw[cI];omega) U U bm bd).bind λz hz=>?_
  rcases hz with⟨e',p,rfl,p0,p1,he⟩ |⟨x',p,rfl,hx,p0,p1,hy⟩
  ·exact Ok.pure ⟨J,p0,p1,by simp,he.imp id .inl⟩
  ·exact Ok.pure ⟨J,p0,p1,by simp only;omega,.inr (.inr ⟨J,hx,hy⟩)⟩
end
theorem Pw {x:Int} (h0:0<=x) (h1:x<=255): ∃v,wu.f x=some v/\1<=v/\v<=255:=by
 unfold wu.f;rw[nk h0,nk h0]
 by_cases h7:x%8=7
 ·rw[af (by simpa using h7)];exact⟨_,J,by omega,by omega⟩
 ·rw[ah (by simpa using h7)]
  by_cases h2:x<160
  ·rw[af h2,Fv U U];exact⟨_,J,by omega,by omega⟩
  ·rw[ah h2];exact⟨_,J,by omega,by omega⟩
theorem agj {c:List Int} (hc: ∀y∈c,0<=y/\y<=255) {w h:Int} (hw:1<=w/\w<=40) (hh:1<=h/\h<=40): ∀(n k:Nat) (x:List Int) (i:Int),i+n=w*h->i=x.length->n<k->(∀y∈x,1<=y/\y<=255)->
 ∃m,lC.l0 k c w h x i=some m/\m.W=w/\m.H=h/\(m.C.length:Int)=w*h/\ ∀y∈m.C,1<=y/\y<=255:=by
 have Oa:w*h<=40*40:=ka U U hw.2 hh.2;have Cy:0<=w*h:=nP U U;intro n
 induction n with
 |zero=>
  intro k x i hi hx hk ha;obtain⟨k,rfl⟩: ∃q,k=q+1:=⟨k-1,by omega⟩
  rw[lC.l0,bn (x:=w*h) U U,ah U];exact⟨_,J,J,J,by simp only;omega,ha⟩
 |succ n ih=>
  intro k x i hi hx hk ha;obtain⟨k,rfl⟩: ∃q,k=q+1:=⟨k-1,by omega⟩
  rw[lC.l0,bn (x:=w*h) U U,af U];have next: ∀v,1<=v->v<=255-> ∃m,lC.l0 k c w h (x++[v]) (aa (i+1))=some m/\m.W=w/\m.H=h/\(m.C.length:Int)=w*h/\ ∀y∈m.C,1<=y/\y<=255:=by
   intro v v0 v1;rw[bn U U];refine ih k _ (i+1) U bm U (λy hy=>?_);rw[List.mem_append] at hy;rcases hy with hy |hy
   ·exact ha y hy
   ·simp at hy;omega
  by_cases hz:(c.length:Int)>0
  ·have bQ: ¬(c.length:Int)=0:=U;rw[af hz,af bQ,af bQ];have AW:0<=aa (i+aa (aa (Int.tdiv i c.length)*5)):=by
    have hd:0<=i/c.length/\i/c.length<=i:=⟨Int.ediv_nonneg U U,Int.ediv_le_self _ U⟩;rw[ru U,bn (x:=i/_) U U,bn (x:=_*5) U U,bn U U];omega
   have r0:0<=Int.tmod (aa (i+aa (aa (Int.tdiv i c.length)*5))) c.length:=by rw[nk AW];exact Int.emod_nonneg _ U
   have r1:Int.tmod (aa (i+aa (aa (Int.tdiv i c.length)*5))) c.length<c.length:=by rw[nk AW];exact Int.emod_lt_of_pos _ U
   rw[af ⟨r0,r1⟩];have ju:=vb (a:=c) r0 r1;obtain⟨q0,q1⟩:=hc _ ju;obtain⟨v,e,v0,v1⟩:=Pw q0 q1;rw[e,aI,af U];exact next v v0 v1
  ·rw[ah hz];obtain⟨v,e,v0,v1⟩:=Pw (x:=1) U U;rw[e,aI,af U];exact next v v0 v1
theorem agi (w h:Int) {c:List Int} (hc: ∀y∈c,0<=y/\y<=255): ∃m,lC.f w h c=some m/\uv m/\m.W<=40/\m.H<=40/\ ∀y∈m.C,1<=y/\y<=255:=by
 unfold lC.f;have h1:=Iz (n:=w) (lo:=1) (hi:=40) U;have h2:=Iz (n:=h) (lo:=1) (hi:=40) U;rw[Iy U U U U,Iy U U U U];simp only[aI];generalize 1+w%(40-1+1)=a at h1⊢;generalize 1+h%(40-1+1)=b at h2⊢;have Oa:a*b<=40*40:=ka U U h1.2 h2.2;have Cy:0<=a*b:=nP U U;obtain⟨m,e,e1,e2,e3,e4⟩:=agj hc h1 h2 (a*b).toNat fuel [] 0 U bd (by rw[uH];omega) bd
 refine⟨m,e,⟨⟨by omega,by omega,by omega,by omega⟩,by rw[e1,e2];exact e3,λh0=>?_⟩,by omega,by omega,e4⟩
 have:=e4 0 h0;omega
section
theorem acj {b:List Int} (hb: ∀y∈b,fa y) (hl:b.length<=100000) {w h:Int} (hw:1<=w/\w<=16) (hh:1<=h/\h<=16):
 Ok (q_.f b w h) (λr=>(r.2.2=2∨r.2.2=3)∨(r.2.2=0/\r.1.W=w/\r.1.H=h/\(r.1.C.length:Int)=w*h/\(∀y∈r.1.C,1<=y/\y<=255)/\0<=r.2.1/\r.2.1<=b.length)):=by
 have hn:1*1<=w*h:=ka U U hw.1 hh.1;have tk:w*h<=16*16:=ka U U hw.2 hh.2;have Ov:aa (w*h)=w*h:=wi U U;obtain⟨⟨x,e,rr⟩,hr,h1,h2,h3,h4,h5⟩:=aax hb hl (n:=w*h) U;simp only at h1 h2 h3 h4 h5;obtain⟨rb,p⟩:=rr;simp only at h1 h2 h3;subst h1;rcases h5 with rfl |rfl |⟨rfl,h6,h7⟩
 ·exact Ok.of (ack hw hh Ov U hr) (.inl (.inr J))
 ·exact Ok.of (acn hw hh Ov U hr) (.inl (.inl J))
 ·have ht:sH ⟨w,h,x⟩:=⟨hw.1,hw.2,hh.1,hh.2,h6,λq=>by have:=h7 0 q;omega⟩
  obtain⟨L,f,out,e,_⟩:=Wk ht;refine Ok.of (acm hw hh Ov U ⟨h2,h3⟩ hr e) ?_;split
  ·exact .inr ⟨J,J,J,h6,h7,h2,h3⟩
  ·exact .inl (.inr J)
theorem Zb:yR.f .nil=some none:=rfl
theorem QH (n:Int):yR.f (.num 243 n)=some (some n):=rfl
theorem Zc (q n:Int):yR.f (.wrap 301 [q] (.num 243 n))=some (some n):=rfl
theorem ah5 {w h:Int} (Ob:iO w h) {b:List Int} (hw:rd b 0+256*rd b 1=w) (hh:rd b 2+256*rd b 3=h) (u0:fa (rd b 0)) (u1:fa (rd b 1)) (u2:fa (rd b 2)) (u3:fa (rd b 3)):
 ∀(n k:Nat) (i:Int) (r x:List Int),i+n=eh w h->0<=i->n<k->(∀y∈r,fa y)->r.length<=100000->(x.length:Int)=w*h->
 (∀c,0<=c->c<w*h->(∃s,0<=s/\s<i/\bK w h s/\qV w h s c)->1<=rd x c/\rd x c<=255)->
 Ok (pe.l0 k b (eh w h) r x i) (λres=>(∃e c,res=(⟨0,0,[]⟩,e)/\yR.f e=some (some c)/\(c=2∨c=3))∨ ∃x',res=(⟨w,h,x'⟩,.nil)/\(x'.length:Int)=w*h/\ ∀c,0<=c->c<w*h->1<=rd x' c/\rd x' c<=255):=by
 have kG:=pn w h;intro n
 induction n with
 |zero=>
  intro k i r x hi i0 hk hr GW hx ha;obtain⟨k,rfl⟩:=bl hk;rw[pe.l0,Ep u0 u1,Ep u2 u3,hw,hh,ah U];refine Ok.ite (λhz=>Ok.pure (.inl ⟨_,3,J,J,.inr J⟩)) λhz=>Ok.pure (.inr ⟨x,J,hx,λc c0 c1=>?_⟩);obtain⟨s,s1,s2⟩:=aiN (w:=w) (h:=h) (c:=c) ⟨Ob,c0,c1⟩;exact ha c c0 c1 ⟨s,s1.1,by have:=s1.2;omega,s1,s2⟩
 |succ n ih=>
  intro k i r x hi i0 hk hr GW hx ha;obtain⟨k,rfl⟩:=bl hk;have hs:bK w h i:=⟨i0,by omega⟩
  have hz:=qv hs;rw[pe.l0,Ep u0 u1,Ep u2 u3,hw,hh];refine Ok.pos U (Ok.eq (Ij ..) ((acj hr GW ⟨hz.1,hz.2.1⟩ ⟨hz.2.2.1,hz.2.2.2⟩).bind λres Ol=>?_));rcases Ol with q |⟨q1,tW,tH,tC,tB,p0,p1⟩
  ·exact Ok.pos (by rcases q with q |q<;>simp[q]) (Ok.pure (.inl ⟨_,res.2.2,rfl,Zc _ _,q⟩))
  ·obtain⟨x1,f1,f2,f3⟩:=af4 hs (t:=res.1) tW tH tC (x:=x) hx;have sl:=BB (L:=r) (lo:=res.2.1) (hi:=(r.length:Int)) p0 p1 U;rw[wi (x:=i+1) U U];refine Ok.neg (by simp[q1]) (Ok.eq f1 (Ok.cx U (ih k (i+1) _ x1 U U U (Iu hr) U f2 λc c0 c1 ⟨s,s0,s1,s2,s3⟩=>?_)))
   rw[f3 c c0 c1]
   by_cases z:qV w h i c
   ·rw[af z];have hll:=agf hs z;exact tB _ (vb hll.1 U)
   ·rw[ah z];refine ha c c0 c1 ⟨s,s0,?_,s2,s3⟩;have:s≠i:=λq=>z (by rw[<-q];exact s3)
    omega
theorem QC {b:List Int} (hb: ∀y∈b,fa y) (hl:b.length<=100000):Ok (xe.f b) (λr=>(r.2=2∨r.2=3)∨(r.2=0/\uv r.1/\(∀c:Int,0<=c->c<r.1.W*r.1.H->1<=rd r.1.C c/\rd r.1.C c<=255)/\r.1.W=rd b 0+256*rd b 1/\r.1.H=rd b 2+256*rd b 3)):=by
 unfold xe.f pe.f
 by_cases h4:(b.length:Int)<4
 ·rw[af h4];exact Ok.eq J (Ok.eq (QH 2) (Ok.pos J (Ok.pure (.inl (.inl J)))))
 have u0:fa (rd b 0):=hb _ (vb U U);have u1:fa (rd b 1):=hb _ (vb U U);have u2:fa (rd b 2):=hb _ (vb U U);have u3:fa (rd b 3):=hb _ (vb U U);rw[ah h4,af (show 0<=(0:Int)/\(0:Int)<(b.length:Int) by omega),af (show 0<=(1:Int)/\(1:Int)<(b.length:Int) by omega),af (show 0<=(2:Int)/\(2:Int)<(b.length:Int) by omega),af (show 0<=(3:Int)/\(3:Int)<(b.length:Int) by omega),Ep u0 u1,Ep u2 u3,A',aI]
 generalize hw:rd b 0+256*rd b 1=w;generalize hh:rd b 2+256*rd b 3=h
 by_cases hm:iO w h
 ·have hp:=uZ hm;have hc:=pn w h;rw[decide_eq_true hm,ah bd,af (show 0<=(4:Int)/\(4:Int)<=(b.length:Int)/\(b.length:Int)<=(b.length:Int) by omega),bn (x:=w*h) U U,af (show 0<=w*h/\w*h<=1099511627776 by omega)]
  have e:B8.f w h=some (eh w h):=by
   unfold B8.f;rw[Fb,aI];have e:(bp w h).1*(bp w h).2=eh w h:=rfl;rw[e,wi U U]
  rw[e,aI];have sl:=BB (L:=b) (lo:=4) (hi:=(b.length:Int)) U U U;refine(ah5 hm hw hh u0 u1 u2 u3 (eh w h).toNat fuel 0 (aA b 4 (b.length:Int)) (List.replicate (w*h).toNat 0) U U (by rw[cI];omega) (Iu hb) U bm (λc _ _ ⟨s,s0,s1,_⟩=>by omega)).bind λres Ol=>?_
  rcases Ol with⟨e',c,rfl,h1,h2⟩ |⟨x',rfl,xl,xb⟩
  ·exact Ok.eq h1 (Ok.pos J (Ok.pure (.inl h2)))
  ·refine Ok.eq Zb (Ok.neg bd (Ok.pure (.inr ⟨J,⟨hm,xl,λq=>?_⟩,xb,J,J⟩)));obtain⟨c,c0,c1,e⟩:=jL q;have:=xb c c0 (by simp only at c1;omega)
   simp only at e;rw[e] at this;omega
 ·rw[decide_eq_false hm,af bd];exact Ok.eq J (Ok.eq (QH 3) (Ok.pos J (Ok.pure (.inl (.inr J)))))
theorem W2 (w h:Int) {c:List Int} (hc: ∀y∈c,fa y): ∃m,lC.f w h c=some m/\w6 m/\m.W<=40/\m.H<=40:=by
 obtain⟨m,e,ok,w40,h40,hb⟩:=agi w h (c:=c) (λy hy=>by have:=hc y hy;unfold fa at this;omega)
 exact⟨m,e,⟨ok,hb⟩,w40,h40⟩
end
section
structure ou (o:cR):Prop where
 k:0<=o.Kind/\o.Kind<=8
 a:0<=o.A/\o.A<=1000000
 b:0<=o.B/\o.B<=1000000
 m:o.Kind≠1->o.Map=[]
 b2:o.Kind=2->o.B<=255
 b5:o.Kind=5->o.B=0
 z:o.Kind=1∨o.Kind=7∨o.Kind=8->o.A=0/\o.B=0
 ld:o.Kind=1->(∀y∈o.Map,fa y)/\4<=o.Map.length/\o.Map.length<=100000/\rd o.Map 0+256*rd o.Map 1<=40/\rd o.Map 2+256*rd o.Map 3<=40
theorem Sh {n:Int} (h0:0<=n) (h1:n<=1000000):r_.f n 4=some true:=by
 unfold r_.f;have e:aa (1*(2^(min (Int.toNat (aa (8*4))) (IntKind.bits .i64))))=4294967296:=by decide
 rw[e,af h0,af (by decide),decide_eq_true U]
theorem ab2 {n:Int} (h0:0<=n) (h1:n<=255):r_.f n 1=some true:=by
 unfold r_.f;have e:aa (1*(2^(min (Int.toNat (aa (8*1))) (IntKind.bits .i64))))=256:=by decide
 rw[e,af h0,af (by decide),decide_eq_true U]
theorem JG:r_.f 0 0=some true:=by decide
theorem Ph {o:cR} (h:ou o) (hk:o.Kind≠0):C8.f o=some true:=by
 have hm:=h.m;have rX:=h.ld;have hz:=h.z;have h2:=h.b2;have h5:=h.b5;have ha:=Sh h.a.1 h.a.2;have hb:=Sh h.b.1 h.b.2;unfold C8.f;rw[ah (by simpa using hk)]
 have hc:o.Kind=1∨o.Kind=2∨o.Kind=3∨o.Kind=4∨o.Kind=5∨o.Kind=6∨o.Kind=7∨o.Kind=8:=by have:=h.k;omega
 rcases hc with e |e |e |e |e |e |e |e
 ·have:=hz (.inl e);have hl:=rX e;simp only[e,this.1,this.2,pD.f,beq_self_eq_true,if_true,aI,JG]
  by_cases q:(o.Map.length:Int)=0
  ·omega
  ·rw[ah (by simpa using q)];simp;omega
 ·have En:=ab2 h.b.1 (h2 e);simp[e,pD.f,ha,En,hm U]
 ·simp[e,pD.f,ha,hb,hm U]
 ·simp[e,pD.f,ha,hb,hm U]
 ·simp[e,pD.f,ha,h5 e,JG,hm U]
 ·simp[e,pD.f,ha,hb,hm U]
 ·have:=hz (.inr (.inl e));simp[e,pD.f,this.1,this.2,JG,hm U]
 ·have:=hz (.inr (.inr e));simp[e,pD.f,this.1,this.2,JG,hm U]
theorem ym {n lo hi:Int} (h0:0<=lo) (h1:lo<=hi) (h2:hi<=1000000): ∃r,eN.f n lo hi=some r/\lo<=r/\r<=hi:=
 ⟨_,Iy U U h1 U,Iz h1⟩
theorem Qe (x:Int):0<=bU x/\bU x<=255:=ajV x
theorem ai_ (x:tj) {n:Int} (n1:1<=n) (n2:n<=1600):Ok (xU.f x n) ou:=by
 obtain⟨a,ea,a0,a1⟩:=ym (n:=x.B) (lo:=1) (hi:=6) U U U;obtain⟨b,eb,b0,b1⟩:=ym (n:=x.A) (lo:=0) (hi:=5) U U U;obtain⟨c,ec,c0,c1⟩:=ym (n:=x.A) (lo:=0) (hi:=9) U U U;obtain⟨d,ed,d0,d1⟩:=ym (n:=x.A) (lo:=0) (hi:=n-1) U U U;obtain⟨e,ee,e0,e1⟩:=ym (n:=x.A) (lo:=0) (hi:=1) U U U;unfold xU.f;rw[ea,eb,ec,wi (x:=n-1) U U,ed,ee];simp only[aI];rw[wi (x:=n+b) U U,wi (x:=e*255) U U];have w1:=Qe x.A;have w2:=Qe x.B;refine Ok.ite (λq=>Ok.pure ?_) λq=>Ok.ite (λq'=>Ok.pure ?_) λq'=>Ok.ite (λDe=>Ok.pure ?_) λDe=>Ok.pure ?_
 ·have q:a=1:=by simpa using q
  subst q;refine⟨by simp,by simp,by simp,λz=>by simp at z,λz=>by simp at z,λz=>by simp at z,λ_=>⟨J,J⟩,λ_=>⟨λy hy=>?_,by simp,by simp,by simp[rd],by simp[rd]⟩⟩
  unfold fa;simp only[List.mem_cons,List.not_mem_nil,or_false] at hy;rcases hy with rfl |rfl |rfl |rfl |rfl |rfl |rfl<;>omega
 ·have q':a=2:=by simpa using q'
  subst q';exact⟨by simp,by simp only;omega,by simp only;omega,λ_=>rfl,λ_=>by simp only;omega,λz=>by simp at z,λz=>by simp at z,λz=>by simp at z⟩
 ·have De:a=5:=by simpa using De
  subst De;exact⟨by simp,by simp only;omega,by simp,λ_=>rfl,λz=>by simp at z,λ_=>rfl,λz=>by simp at z,λz=>by simp at z⟩
 ·have q:a≠1:=by simpa using q
  have q':a≠2:=by simpa using q'
  have De:a≠5:=by simpa using De
  exact⟨by simp only;omega,by simp only;omega,by simp only;omega,λ_=>rfl,λz=>absurd z q',λz=>absurd z De,λz=>by simp only at z;omega,λz=>absurd z q⟩
theorem Vu {m:aL} (hm:w6 m) (h1:m.W<=40) (h2:m.H<=40):ou ⟨1,0,0,bytesOf m⟩:=by
 have Ex:=hm.ok.1;have hl:=aaC hm;have hc:=pn m.W m.H;have e: ∀j:Int,0<=j->j<4->rd (bytesOf m) j=rd (AP m) j:=λj j0 j1=>by unfold bytesOf;exact zD j0 (by simp[AP];omega)
 have hw:=Un (w:=m.W) U U;have hh:=Un (w:=m.H) U U;refine⟨by simp,by simp,by simp,λz=>by simp at z,λz=>by simp at z,λz=>by simp at z,λ_=>⟨J,J⟩,λ_=>⟨aaD hm,by simp only;omega,?_,?_,?_⟩⟩
 ·have:eh m.W m.H<=3*3:=by
   unfold eh bp;rw[af hm.ok.1];exact ka (by simp only;omega) (by simp only;omega) (by simp only;omega) (by simp only;omega)
  simp only;omega
 ·simp only;rw[e 0 U U,e 1 U U]
  show bU m.W+256*bU (Int.fdiv m.W (2^8))<=40
  omega
 ·simp only;rw[e 2 U U,e 3 U U]
  show bU m.H+256*bU (Int.fdiv m.H (2^8))<=40
  omega
theorem Vx {m:aL} (hm:w6 m) (h1:m.W<=40) (h2:m.H<=40):1<=m.C.length/\m.C.length<=1600:=by
 have hp:=uZ hm.ok.1;have:=hm.ok.2.1;have Ex:=hm.ok.1;have:m.W*m.H<=40*40:=ka U U h1 h2;omega
theorem aiH (w h:Int) {c:List Int} (hc: ∀y∈c,fa y) (l:List tj): ∀(n k:Nat) (a b:Int) (C:List Int) (x:List cR) (N i:Int),(60-i).toNat<=n->n<k->0<=i->1<=N->N<=1600->(x.length:Int)<=1+i->i<=60->(∀o∈x,ou o)->x≠[]->
 Ok (nT.l0 k w h c l a b C x N i) (λr=>r≠[]/\r.length<=61/\ ∀o∈r,ou o):=by
 have fin: ∀(k:Nat) (a b:Int) (C:List Int) (x:List cR) (N i:Int),¬(i<l.length/\i<60)->(x.length:Int)<=1+i->i<=60->(∀o∈x,ou o)->x≠[]->Ok (nT.l0 (k+1) w h c l a b C x N i) (λr=>r≠[]/\r.length<=61/\ ∀o∈r,ou o):=λk a b C x N i hi hx dZ ha bQ=>by
  rw[nT.l0,ah (by simpa using hi)]
  exact Ok.pure ⟨bQ,by omega,ha⟩
 intro n
 induction n with
 |zero=>
  intro k a b C x N i hn hk h0 n1 n2 hx dZ ha bQ;obtain⟨k,rfl⟩:=bl hk;exact fin k a b C x N i U hx dZ ha bQ
 |succ n ih=>
  intro k a b C x N i hn hk h0 n1 n2 hx dZ ha bQ;obtain⟨k,rfl⟩:=bl hk
  by_cases aS:i<l.length/\i<60
  ·rw[nT.l0,af (by simpa using aS),af ⟨h0,aS.1⟩,wi (x:=N-1) U U,wi (x:=i+1) U U]
   obtain⟨p,ep,p0,p1⟩:=ym (n:=(rd l i).A) (lo:=0) (hi:=N-1) U U U;obtain⟨q,eq,q0,q1⟩:=ym (n:=(rd l i).B) (lo:=0) (hi:=N-1) U U U;obtain⟨v,ev,v0,v1⟩:=ym (n:=(rd l i).Kind) (lo:=0) (hi:=15) U U U;obtain⟨s,es,s0,s1⟩:=ym (n:=(rd l i).A) (lo:=0) (hi:=9) U U U;obtain⟨t,et,t0,t1⟩:=ym (n:=(rd l i).B) (lo:=0) (hi:=200) U U U;rw[ep,eq,ev,es,et];simp only[aI];refine Ok.bind (P:=λr:Int×Int×List Int×Int×Int×Int×Int×List Int=>1<=r.2.2.2.1/\r.2.2.2.1<=1600/\ou ⟨r.2.2.2.2.1,r.2.2.2.2.2.1,r.2.2.2.2.2.2.1,r.2.2.2.2.2.2.2⟩) ?_ λr hr=>Ok.cx U (ih k _ _ _ _ _ (i+1) U U U hr.1 hr.2.1 bm U (λo ho=>?_) bd)
   ·have e3:(if(v==0)=true then(some (v==0)) else(if(v==1)=true then(some (v==1)) else(some (v==2))))=some (decide (v=0∨v=1∨v=2)):=by
     by_cases z:v=0
     ·simp[z]
     ·by_cases z':v=1<;>simp[z,z']
      rw[Bool.eq_iff_iff];simp
    refine Ok.eq e3 (Ok.ite (λz=>Ok.pure ⟨n1,n2,by simp,by simp only;omega,by simp only;omega,λ_=>rfl,λz=>by simp at z,λz=>by simp at z,λz=>by simp at z,λz=>by simp at z⟩) λz=>?_)
    refine Ok.ite (λz=>Ok.pure ⟨n1,n2,by simp,by simp only;omega,by simp only;omega,λ_=>rfl,λz=>by simp at z,λz=>by simp at z,λz=>by simp at z,λz=>by simp at z⟩) λz=>?_
    refine Ok.ite (λz=>Ok.pure ⟨n1,n2,by simp,by simp only;omega,by simp,λ_=>rfl,λz=>by simp at z,λ_=>rfl,λz=>by simp at z,λz=>by simp at z⟩) λz=>?_
    have e4:(if(v==5)=true then(some (v==5)) else(some (v==6)))=some (decide (v=5∨v=6)):=by
     by_cases z:v=5<;>simp[z]
     rw[Bool.eq_iff_iff];simp
    refine Ok.eq e4 (Ok.ite (λz=>?_) λz=>?_)
    ·have UU:=Qe (rd l i).B;obtain⟨u,eu,u0,u1⟩:=Pw UU.1 UU.2;refine Ok.eq eu (Ok.pure ⟨n1,n2,by simp,by simp only;omega,by simp only;rw[wi U U];omega,λ_=>rfl,λ_=>by simp only;rw[wi U U];omega,λz=>by simp at z,λz=>by simp at z,λz=>by simp at z⟩)
    have e5:(if(v==7)=true then(some (v==7)) else(some (v==8)))=some (decide (v=7∨v=8)):=by
     by_cases z:v=7<;>simp[z]
     rw[Bool.eq_iff_iff];simp
    refine Ok.eq e5 (Ok.ite (λz=>Ok.pure ⟨n1,n2,by simp,by simp only;omega,by simp only;omega,λ_=>rfl,λz=>by simp at z,λz=>by simp at z,λz=>by simp at z,λz=>by simp at z⟩) λz=>?_)
    refine Ok.ite (λz=>Ok.pure ⟨n1,n2,by simp,by simp,by simp,λ_=>rfl,λz=>by simp at z,λz=>by simp at z,λ_=>⟨J,J⟩,λz=>by simp at z⟩) λz=>?_
    refine Ok.ite (λz=>Ok.ite (λz=>?_) λz=>?_) λz=>Ok.ite (λz=>?_) λz=>?_
    ·obtain⟨m,em,hm,m1,m2⟩:=W2 (aa (w+(aa (Int.tdiv (rd l i).A 4)))) (aa (h+(rd l i).B)) hc;have:=Vx hm m1 m2;exact Ok.eq em (Ok.eq (W6 hm) (Ok.pure ⟨by simp only;omega,by simp only;omega,Vu hm m1 m2⟩))
    ·exact Ok.pure ⟨n1,n2,by simp,by simp only;rw[wi U U];omega,by simp,λ_=>rfl,λz=>by simp at z,λz=>by simp at z,λz=>by simp at z,λz=>by simp at z⟩
    ·exact(ai_ (rd l i) n1 n2).bind λo ho=>Ok.pure ⟨n1,n2,ho⟩
    ·exact Ok.pure ⟨n1,n2,by simp,by simp,by simp,λ_=>rfl,λz=>by simp at z,λz=>by simp at z,λ_=>⟨J,J⟩,λz=>by simp at z⟩
   ·rcases List.mem_append.1 ho with z |z
    ·exact ha o z
    ·simp only[List.mem_cons,List.not_mem_nil,or_false] at z;rw[z];exact hr.2.2
  ·exact fin k a b C x N i aS hx dZ ha bQ
theorem aiG (w h:Int) {c:List Int} (hc: ∀y∈c,fa y) (l:List tj):Ok (nT.f w h c l) (λr=>r≠[]/\r.length<=61/\ ∀o∈r,ou o):=by
 unfold nT.f;obtain⟨m,em,hm,m1,m2⟩:=W2 w h hc;have:=Vx hm m1 m2;refine Ok.eq em (Ok.eq (W6 hm) (aiH w h hc l 60 fuel _ _ _ _ _ 0 U (by rw[cI];omega) U U U bd U (λo ho=>?_) bd))
 simp only[List.mem_cons,List.not_mem_nil,or_false] at ho;rw[ho];exact Vu hm m1 m2
end
structure US (u:fk) (most:Int) (L:List aF):Prop where
 KX:u.most=most
 mb:1<=most/\most<=65536
 next:0<=u.next/\u.next<=1000000
 keys:(u.live.map (·.1)).Nodup
 len:u.live.length=L.length
 has: ∀k,bR u.live k=true-> ∃x∈L,x.Id=k
 val: ∀x∈L,cS u.live x.Id=some x
 ord:u.order.filter (λk=>bR u.live k)=L.map (·.Id)
 aZ: ∀k∈u.order,0<=k/\k<u.next
 HH:(u.order.length:Int)<=u.next
 up:(L.map (·.Id)).Pairwise (· < ·)
def od (L:List aF) (k:Int):Option aF:=L.find? (λx=>x.Id==k)
def zW (L:List aF) (k:Int):aF×Bool:=match od L k with
 |some x=>(x,true)
 |none=>(⟨0,0,0⟩,false)
def BH (L:List aF) (k:Int):Bool:=(od L k).isSome
def mi (L:List aF) (k:Int):List aF:=L.filter (λx=>x.Id !=k)
def gQ (L:List aF) (k:Int) (f:aF->aF):List aF:=L.map (λx=>if x.Id=k then f x else x)
theorem BG {L:List aF} {k:Int} {x:aF} (h:od L k=some x):x∈L/\x.Id=k:=
 ⟨List.mem_of_find?_eq_some h,by simpa using List.find?_some h⟩
theorem Iw {L:List aF} {k:Int} (h:od L k=none): ∀x∈L,x.Id≠k:=by
 intro x hx e;have:=List.find?_eq_none.1 h x hx;simp[e] at this
theorem CE {L:List aF} (h:(L.map (·.Id)).Pairwise (· < ·)) {x y:aF} (hx:x∈L) (hy:y∈L) (e:x.Id=y.Id):x=y:=by
 obtain⟨i,hi,rfl⟩:=List.mem_iff_getElem.1 hx;obtain⟨j,hj,rfl⟩:=List.mem_iff_getElem.1 hy;have key:=List.pairwise_iff_getElem.1 h;have:i=j:=by
  rcases Nat.lt_trichotomy i j with q |q |q
  ·have:=key i j (by simpa using hi) (by simpa using hj) q
   simp at this;omega
  ·exact q
  ·have:=key j i (by simpa using hj) (by simpa using hi) q
   simp at this;omega
 subst this;rfl
theorem P6 {L:List aF} (h:(L.map (·.Id)).Pairwise (· < ·)) {x:aF} (hx:x∈L):od L x.Id=some x:=by
 cases hf:od L x.Id with
 |none=>exact absurd J (Iw hf x hx)
 |some y=>
  obtain⟨h1,h2⟩:=BG hf;rw[CE h h1 hx h2]
variable {u : fk} {most : Int} {L : List aF}
theorem US.get (h:US u most L) (k:Int):cS u.live k=od L k:=by
 cases hf:od L k with
 |some x=>
  obtain⟨h1,h2⟩:=BG hf;rw[<-h2];exact h.val x h1
 |none=>
  cases hg:cS u.live k with
  |none=>rfl
  |some v=>
   obtain⟨x,hx,e⟩:=h.has k (HA hg);exact absurd e (Iw hf x hx)
theorem US.eV (h:US u most L):(L.length:Int)<=u.next:=by
 have h1:(L.map (·.Id)).length<=u.order.length:=by rw[<-h.ord];exact List.length_filter_le ..
 have:=h.HH;simp at h1;omega
theorem agY (most:Int):yd.f most=some (if 1<=most/\most<=65536 then some (fk.mk most 0 [] []) else none):=by
 unfold yd.f
 by_cases h:1<=most/\most<=65536
 ·rw[ah bm,af h]
 ·rw[af bm,ah h]
theorem ag0 (h:1<=most/\most<=65536):US (fk.mk most 0 [] []) most []:=
 ⟨J,h,by simp,by simp,J,by simp[bR,cS],by simp,by simp,by simp,by simp,by simp⟩
theorem YZ (hb:u.order.length<=1000000): ∀(n k:Nat) (i:Int) (xs:List Int),i+n=u.order.length->0<=i->n<k->(xs.length:Int)<=i->
 lT.l0 k u xs i=some (xs++(u.order.drop i.toNat).filter (λq=>bR u.live q)):=by
 intro n
 induction n with
 |zero=>
  intro k i xs hi h0 hk hx;obtain⟨k,rfl⟩:=bl hk;rw[lT.l0,ah U,List.drop_of_length_le U];simp
 |succ n ih=>
  intro k i xs hi h0 hk hx;obtain⟨k,rfl⟩:=bl hk;rw[lT.l0,af U,af U,wi U U,yP h0 U]
  by_cases hm:bR u.live (rd u.order i)=true
  ·rw[af hm,af U,ih k (i+1) _ U U U bm];simp[hm]
  ·rw[ah hm,ih k (i+1) _ U U U U];simp[hm]
theorem YY (hb:u.order.length<=1000000):lT.f u=some (u.order.filter (λq=>bR u.live q)):=by
 unfold lT.f;rw[YZ hb u.order.length fuel 0 [] U U (by rw[cI];omega) bd];simp
theorem US.ob (h:US u most L):u.order.length<=1000000:=by have:=h.HH;have:=h.next;omega
theorem QE (h:US u most L):lT.f u=some (L.map (·.Id)):=by rw[YY h.ob,h.ord]
theorem Y1 {v:List Int} (hb:v.length<=1000000): ∀(n k:Nat) (i:Int) (xs:List aF),i+n=v.length->0<=i->n<k->(xs.length:Int)<=i->
 oW.l0 k u v xs i=some (xs++(v.drop i.toNat).map (λq=>aR u.live q)):=by
 intro n
 induction n with
 |zero=>
  intro k i xs hi h0 hk hx;obtain⟨k,rfl⟩:=bl hk;rw[oW.l0,ah U,List.drop_of_length_le U];simp
 |succ n ih=>
  intro k i xs hi h0 hk hx;obtain⟨k,rfl⟩:=bl hk;rw[oW.l0,af U,af U,af U,wi U U,yP h0 U,ih k (i+1) _ U U U bm];simp
theorem Y0 (h:US u most L):oW.f u=some L:=by
 unfold oW.f;have hc:=h.eV;have hn:=h.next
 rw[QE h,aI,Y1 bm L.length fuel 0 [] bd U (by rw[cI];omega) bd]
 simp only[List.nil_append,Int.toNat_zero,List.drop_zero,List.map_map]
 congr 1
 conv=>rhs;rw[<-List.map_id L]
 refine List.map_congr_left λx hx=>?_
 simp only[Function.comp,id];exact agK (h.val x hx)
theorem aga (h:US u most L):wP.f u=some (L.length:Int):=by unfold wP.f;rw[h.len]
theorem Eb (h:US u most L) (k:Int):oX.f u k=some (zW L k):=by
 unfold oX.f zW;have hg:=h.get k
 cases hf:od L k with
 |some x=>rw[hf] at hg;simp[aR,bR,hg]
 |none=>rw[hf] at hg;simp[aR,bR,hg];exact⟨J,J,J⟩
theorem YS (h:US u most L) (hn:u.next<1000000) (c g:Int):(most<=L.length->wO.f u c g=some (0,false,u))/\
 ((L.length:Int)<most-> ∃u',wO.f u c g=some (u.next,true,u')/\u'.next=u.next+1/\US u' most (L++[⟨u.next,c,g⟩])):=by
 have hb:=h.next
 have ho:=h.ob;unfold wO.f;rw[h.len,h.KX];refine⟨λhl=>by rw[af hl],λhl=>?_⟩
 have NZ:=h.eV;have gO:cS u.live u.next=none:=by
  rw[h.get]
  cases hf:od L u.next with
  |none=>rfl
  |some x=>
   obtain⟨h1,h2⟩:=BG hf;have:x.Id∈u.order.filter (λk=>bR u.live k):=by rw[h.ord];exact List.mem_map.2 ⟨x,h1,J⟩
   have:=h.aZ _ (List.mem_filter.1 this).1;omega
 have Uw: ∀k,bR (cJ u.live u.next ⟨u.next,c,g⟩) k=(decide (u.next=k)||bR u.live k):=λk=>EN ..
 refine⟨_,by rw[ah U,af U],by simp only;rw[wi U U],?_⟩
 rw[wi U U];refine⟨J,h.mb,by simp only;omega,CW h.keys _ _,?_,?_,?_,?_,?_,?_,?_⟩
 ·simp only;rw[VB,ah (by simp[bR,gO]),h.len];simp
 ·intro k hk;rw[Uw] at hk;rcases Bool.or_eq_true_iff.1 hk with hk |hk
  ·exact⟨⟨u.next,c,g⟩,by simp,by simpa using hk⟩
  ·obtain⟨x,hx,e⟩:=h.has k hk;exact⟨x,by simp[hx],e⟩
 ·intro x hx;simp only[Ba];rcases List.mem_append.1 hx with hx |hx
  ·rw[ah (λe=>by rw[e,h.val x hx] at gO;cases gO)];exact h.val x hx
  ·simp at hx;subst hx;simp
 ·simp only[Uw,List.filter_append,List.map_append]
  congr 1
  ·rw[<-h.ord];refine List.filter_congr λk hk=>?_
   have:=h.aZ k hk;have:decide (u.next=k)=false:=by simp;omega
   rw[this];rfl
  ·simp
 ·intro k hk;simp only at hk⊢;rcases List.mem_append.1 hk with hk |hk
  ·have:=h.aZ k hk;omega
  ·simp at hk;omega
 ·have:=h.HH;simp;omega
 ·rw[List.map_append,List.pairwise_append];refine⟨h.up,by simp,λa ha b gf=>?_⟩
  simp at gf;rw[<-h.ord] at ha;have:=h.aZ a (List.mem_filter.1 ha).1;omega
theorem ajO {f:aF->aF} (hf: ∀x,(f x).Id=x.Id) (k:Int):(gQ L k f).map (·.Id)=L.map (·.Id):=by
 unfold gQ;rw[List.map_map];refine List.map_congr_left λx _=>?_
 simp only[Function.comp];split
 ·exact hf x
 ·rfl
theorem XQ (h:US u most L) {k:Int} {x:aF} (hx:od L k=some x) (f:aF->aF) (hf: ∀x,(f x).Id=x.Id):
 US (fk.mk u.most u.next (cJ u.live k (f x)) u.order) most (gQ L k f):=by
 obtain⟨h1,h2⟩:=BG hx;have hg:cS u.live k=some x:=by rw[h.get,hx]
 have hh: ∀q,bR (cJ u.live k (f x)) q=bR u.live q:=λq=>by
  rw[EN]
  by_cases e:k=q
  ·subst e;simp[HA hg]
  ·simp[e]
 have Ew:=ajO (L:=L) hf k;refine⟨h.KX,h.mb,h.next,CW h.keys _ _,?_,?_,?_,?_,h.aZ,h.HH,by rw[Ew];exact h.up⟩
 ·simp only;rw[VB,af (HA hg),h.len];simp[gQ]
 ·intro q hq;rw[hh] at hq;obtain⟨y,hy,e⟩:=h.has q hq;have:q∈(gQ L k f).map (·.Id):=by rw[Ew];exact List.mem_map.2 ⟨y,hy,e⟩
  obtain⟨z,hz,e⟩:=List.mem_map.1 this;exact⟨z,hz,e⟩
 ·intro y hy;unfold gQ at hy;obtain⟨z,hz,rfl⟩:=List.mem_map.1 hy;simp only[Ba]
  by_cases e:z.Id=k
  ·rw[af e,hf,e,af J];have:z=x:=CE h.up hz h1 (e.trans h2.symm);rw[this]
  ·rw[ah e,ah (λq=>e q.symm)];exact h.val z hz
 ·simp only[hh];rw[h.ord,Ew]
theorem YV (h:US u most L) (k g:Int): ∃u',ye.f u k g=some (BH L k,u')/\u'.next=u.next/\US u' most (gQ L k (λx=>⟨x.Id,x.Cell,g⟩)):=by
 unfold ye.f BH
 first |unfold yh.f |unfold yi.f
 rw[Eb h];unfold zW
 cases hf:od L k with
 |some x=>exact⟨_,J,J,XQ h hf (λx=>⟨x.Id,x.Cell,g⟩) (λ_=>rfl)⟩
 |none=>
  refine⟨u,J,J,?_⟩;have:gQ L k (λx=>⟨x.Id,x.Cell,g⟩)=L:=by
   unfold gQ
   conv=>rhs;rw[<-List.map_id L]
   refine List.map_congr_left λx hx=>?_
   rw[ah (Iw hf x hx)];rfl
  rw[this];exact h
theorem agB (h:US u most L) (k g:Int): ∃u',yg.f u k g=some (BH L k,u')/\u'.next=u.next/\US u' most (gQ L k (λx=>⟨x.Id,g,x.Goal⟩)):=by
 unfold yg.f BH
 first |unfold yi.f |unfold yh.f
 rw[Eb h];unfold zW
 cases hf:od L k with
 |some x=>exact⟨_,J,J,XQ h hf (λx=>⟨x.Id,g,x.Goal⟩) (λ_=>rfl)⟩
 |none=>
  refine⟨u,J,J,?_⟩;have:gQ L k (λx=>⟨x.Id,g,x.Goal⟩)=L:=by
   unfold gQ
   conv=>rhs;rw[<-List.map_id L]
   refine List.map_congr_left λx hx=>?_
   rw[ah (Iw hf x hx)];rfl
  rw[this];exact h
theorem ajN {k:Int} (hf:od L k=none):mi L k=L:=by
 unfold mi;rw[List.filter_eq_self];intro x hx;simpa using Iw hf x hx
theorem Lz (h:(L.map (·.Id)).Pairwise (· < ·)) {k:Int} {x:aF} (hx:od L k=some x):(mi L k).length+1=L.length:=by
 obtain⟨h1,h2⟩:=BG hx;clear hx
 induction L with
 |nil=>cases h1
 |cons y r ih=>
  rw[List.map_cons,List.pairwise_cons] at h;unfold mi at ih⊢
  by_cases e:y.Id=k
  ·have:r.filter (λz=>z.Id !=k)=r:=by
    rw[List.filter_eq_self];intro z hz;have:=h.1 z.Id (List.mem_map.2 ⟨z,hz,J⟩);simp;omega
   simp[e,this]
  ·have hxr:x∈r:=by
    rcases List.mem_cons.1 h1 with q |q
    ·subst q;exact absurd h2 e
    ·exact q
   have:=ih h.2 hxr;simp[e];omega
theorem abK (h:US u most L) (k:Int): ∃u',yf.f u k=some (BH L k,u')/\u'.next=u.next/\US u' most (mi L k):=by
 unfold yf.f BH;rw[Eb h];unfold zW
 cases hf:od L k with
 |none=>rw[ajN hf];exact⟨u,J,J,h⟩
 |some x=>
  obtain⟨h1,h2⟩:=BG hf;have hg:cS u.live k=some x:=by rw[h.get,hf]
  have hh: ∀q,bR (dT u.live k) q=(!decide (k=q)&&bR u.live q):=λq=>agu h.keys ..
  have Cz:u.order.filter (λq=>bR (dT u.live k) q)=(mi L k).map (·.Id):=by
   simp only[hh];rw[<-List.filter_filter,h.ord];unfold mi;rw[List.filter_map]
   congr 1
   refine List.filter_congr λy _=>?_
   simp only[Function.comp]
   by_cases e:y.Id=k
   ·simp[e]
   ·have: ¬k=y.Id:=λq=>e q.symm
    simp[e,this]
  have xC:US (fk.mk u.most u.next (dT u.live k) u.order) most (mi L k):=by
   refine⟨h.KX,h.mb,h.next,KS h.keys _,?_,?_,?_,Cz,h.aZ,h.HH,?_⟩
   ·simp only;rw[agp,af (HA hg),h.len];have:=Lz h.up hf;omega
   ·intro q hq;rw[hh] at hq;simp only[Bool.and_eq_true,Bool.not_eq_true',decide_eq_false_iff_not] at hq;obtain⟨y,hy,e⟩:=h.has q hq.2;exact⟨y,by unfold mi;rw[List.mem_filter];exact⟨hy,by simp;omega⟩,e⟩
   ·intro y hy;unfold mi at hy;rw[List.mem_filter] at hy;have:y.Id≠k:=by simpa using hy.2
    simp only;rw[KV h.keys,ah (λq=>this q.symm)];exact h.val y hy.1
   ·exact h.up.sublist ((List.filter_sublist).map _)
  have hn:=h.next
  have hob:=h.ob;have hc:=h.eV;have Cs:=Lz h.up hf;simp only[aI,Bool.not_true,Bool.false_eq_true,if_false];have Of:((dT u.live k).length:Int)=(mi L k).length:=by have:=xC.len;simp only at this;omega
  split
  ·rw[QE xC];refine⟨_,J,J,?_⟩;have hl:((mi L k).length:Int)<=u.next:=xC.eV
   refine⟨h.KX,h.mb,h.next,xC.keys,xC.len,xC.has,xC.val,?_,?_,by simpa using hl,xC.up⟩
   ·simp only;rw[List.filter_eq_self];intro q hq;obtain⟨y,hy,rfl⟩:=List.mem_map.1 hq;exact HA (xC.val y hy)
   ·intro q hq;simp only at hq⊢;rw[<-Cz] at hq;exact h.aZ q (List.mem_filter.1 hq).1
  ·exact⟨_,J,J,xC⟩
def rF (n:Int) (f:fA):Prop:=(f.words.length:Int)=n/\ ∀c,0<=c->c<n->0<=rd f.words c/\rd f.words c<=4294967295
def mW (n:Int) (f:fA) (c:Int):Int:=if 0<=c/\c<n then rd f.words c-1 else-1
def rQ (n:Int) (f:fA) (c:Int):Prop:=0<=c/\c<n/\rd f.words c=0
instance (n:Int) (f:fA) (c:Int):Decidable (rQ n f c):=by unfold rQ;infer_instance
def iH (f:fA) (c v k:Int):fA:=fA.mk (List.set f.words (Int.toNat c) v) (f.count+k)
theorem ab5 (n:Int):sY.f n=some (if 1<=n/\n<=1048576 then some (fA.mk (List.replicate n.toNat 0) 0) else none):=by
 unfold sY.f
 by_cases h:1<=n/\n<=1048576
 ·rw[ah bm,af h,af U]
 ·rw[af bm,ah h]
theorem ab6 {n:Int} (h:1<=n):rF n (fA.mk (List.replicate n.toNat 0) 0):=by
 refine⟨by simp;omega,λc c0 c1=>?_⟩
 rw[wq c0 U];omega
variable {n : Int} {f : fA}
theorem Sg (hf:rF n f) (c:Int):yT.f f c=some (decide (0<=c/\c<n)):=by
 unfold yT.f;rw[hf.1]
 by_cases h:0<=c
 ·rw[af U];simp[h]
 ·rw[ah U];simp[h]
theorem Sm (hf:rF n f) (c:Int):yS.f f c=some (decide (rQ n f c)):=by
 unfold yS.f;rw[Sg hf,hf.1]
 by_cases h:0<=c/\c<n
 ·by_cases q:rd f.words c=0
  ·have:rQ n f c:=⟨h.1,h.2,q⟩;simp[h,q,this]
  ·have: ¬rQ n f c:=λz=>q z.2.2
   simp[h,q,this]
 ·have: ¬rQ n f c:=λz=>h ⟨z.1,z.2.1⟩
  simp[h,this]
theorem LK (hf:rF n f) (c:Int):qO.f f c=some (mW n f c):=by
 unfold qO.f mW;rw[Sg hf,hf.1]
 by_cases h:0<=c/\c<n
 ·have:=hf.2 c h.1 h.2;simp only[aI,decide_eq_true h,Bool.not_true,Bool.false_eq_true,if_false,af h];rw[wi (x:=rd f.words c) U U,wi U U]
 ·simp only[aI,decide_eq_false h,Bool.not_false,if_true,ah h]
theorem Ih (hf:rF n f) {c v k:Int} (h0:0<=c) (h1:c<n) (v0:0<=v) (v1:v<=4294967295):rF n (iH f c v k):=by
 refine⟨by simp[iH,hf.1],λd d0 d1=>?_⟩
 unfold iH;simp only;rw[lB h0 (by rw[hf.1];exact h1) d0]
 split
 ·exact⟨v0,v1⟩
 ·exact hf.2 d d0 d1
theorem Bh (hf:rF n f) {c v k d:Int} (h0:0<=c) (h1:c<n) (d0:0<=d):rd (iH f c v k).words d=if d=c then v else rd f.words d:=by
 unfold iH;simp only;rw[lB h0 (by rw[hf.1];exact h1) d0]
def D9 (n:Int) (f:fA) (c id:Int):Bool×fA:=if rQ n f c/\0<=id/\id<4294967295 then(true,iH f c (id+1) 1) else(false,f)
def D_ (n:Int) (f:fA) (c:Int):Int×fA:=if mW n f c= -1 then(-1,f) else(mW n f c,iH f c 0 (-1))
theorem Wj (hf:rF n f) (hc:0<=f.count/\f.count<=2000000) (c id:Int):sW.f f c id=some (D9 n f c id):=by
 unfold sW.f D9;rw[Sm hf]
 by_cases h:rQ n f c
 ·by_cases h2:0<=id/\id<4294967295
  ·obtain⟨q1,q2,q3⟩:=h;have h:rQ n f c:=⟨q1,q2,q3⟩;simp only[aI,decide_eq_true h,Bool.not_true];rw[ah bm,af (by rw[hf.1];omega),af ⟨h,h2⟩,wi (x:=id+1) U U,ajU U U,wi U U]
   rfl
  ·simp only[aI,decide_eq_true h,Bool.not_true];rw[af bm,ah (λq=>h2 q.2)]
 ·simp only[aI,decide_eq_false h,Bool.not_false,Bool.true_or,if_true];rw[ah (λq=>h q.1)]
theorem XI (hf:rF n f) (hc: -2000000<=f.count/\f.count<=2000000) (c:Int):sX.f f c=some (D_ n f c):=by
 unfold sX.f D_;rw[LK hf]
 by_cases h:mW n f c= -1
 ·simp[h]
 ·have cu:0<=c/\c<n:=by
   unfold mW at h
   by_cases q:0<=c/\c<n
   ·exact q
   ·rw[ah q] at h;exact absurd J h
  simp only[aI];rw[af (by simpa using h),af (by rw[hf.1];omega),ah h,wi U U]
  rfl
def JE (n:Int) (f:fA) (a b:Int):Bool×fA:=if mW n f a≠ -1/\rQ n f b then(true,iH (iH f a 0 (-1)) b (mW n f a+1) 1) else(false,f)
theorem ajY {c:Int} (h:mW n f c≠ -1):0<=c/\c<n/\mW n f c=rd f.words c-1:=by
 unfold mW at h⊢
 by_cases q:0<=c/\c<n
 ·rw[af q];exact⟨q.1,q.2,J⟩
 ·rw[ah q] at h;exact absurd J h
theorem ai2 (hf:rF n f) (hc:1<=f.count/\f.count<=2000000) (a b:Int):xo.f f a b=some (JE n f a b):=by
 unfold xo.f JE;rw[LK hf,Sm hf]
 by_cases h1:mW n f a= -1
 ·simp[h1]
 ·by_cases h2:rQ n f b
  ·obtain⟨a0,a1,a2⟩:=ajY h1;have hr:=hf.2 a a0 a1;have hs:rF n (iH f a 0 (-1)):=Ih hf a0 a1 U U;have bQ:b≠a:=λe=>by have:=h2.2.2;rw[e] at this;omega
   have h3:rQ n (iH f a 0 (-1)) b:=⟨h2.1,h2.2.1,by rw[Bh hf a0 a1 h2.1,ah bQ];exact h2.2.2⟩
   have e:D_ n f a=(mW n f a,iH f a 0 (-1)):=by unfold D_;rw[ah h1]
   have e2:D9 n (iH f a 0 (-1)) b (mW n f a)=(true,iH (iH f a 0 (-1)) b (mW n f a+1) 1):=by
    unfold D9;rw[af ⟨h3,by omega,by omega⟩]
   have q1:(mW n f a== -1)=false:=by simpa using h1
   simp only[aI,q1,Bool.false_eq_true,if_false,decide_eq_true h2,Bool.not_true,XI hf (by omega: -2000000<=f.count/\f.count<=2000000),e]
   rw[Wj hs (by simp[iH];omega),e2,af ⟨h1,h2⟩];rfl
  ·simp[h1,h2]
theorem aj5 (hf:rF n f) (h:n<=1048576):xp.f f=some f.words:=by
 unfold xp.f zS.f;have:=hf.1;rw[af bm];simp
theorem ahc {s:List Int} (hb:s.length<=4611686018427387000): ∀(n k:Nat) (i:Int),i+n=s.length->0<=i->n<k->
 ∃r,rl.l0 k s i=some r/\(r≥0↔ ∃j,i<=j/\j<s.length/\(rd s j<0∨rd s j>5)):=by
 intro n
 induction n with
 |zero=>
  intro k i hi h0 hk;obtain⟨k,rfl⟩:=bl hk;exact⟨-1,by rw[rl.l0,ah U],⟨λq=>by omega,λ⟨j,j0,j1,_⟩=>by omega⟩⟩
 |succ n ih=>
  intro k i hi h0 hk;obtain⟨k,rfl⟩:=bl hk;rw[rl.l0,af U,af U];simp only[EL.f,aI]
  by_cases e:rd s i<0∨rd s i>5
  ·rw[af (by simpa using e)]
   exact⟨i,J,⟨λ_=>⟨i,by omega,by omega,e⟩,λ_=>by omega⟩⟩
  ·rw[ah (by simpa using e),wi U U]
   obtain⟨r,r1,r2⟩:=ih k (i+1) U U U;refine⟨r,r1,r2.trans ⟨λ⟨j,j0,j1,j2⟩=>⟨j,by omega,j1,j2⟩,λ⟨j,j0,j1,j2⟩=>?_⟩⟩
   by_cases z:j=i
   ·subst z;exact absurd j2 e
   ·exact⟨j,by omega,j1,j2⟩
theorem ahb {s:List Int} (hb:s.length<=4611686018427387000): ∃r,Dx.f s=some r/\(r=true↔ ∃d∈s,d<0∨d>5):=by
 unfold Dx.f rl.f;obtain⟨r,r1,r2⟩:=ahc hb s.length fuel 0 U U (by rw[cI];omega)
 rw[r1,aI];refine⟨decide (r≥0),J,?_⟩;rw[decide_eq_true_iff,r2];constructor
 ·rintro⟨j,j0,j1,j2⟩;exact⟨_,dU j0 j1,j2⟩
 ·rintro⟨d,hd,h⟩;obtain⟨j,j0,j1,rfl⟩:=jL hd;exact⟨j,j0,j1,h⟩
abbrev yr:=List aF×List eD×List Int
def dF (w h:Int) (u:aF) (d:Int):Int:=if 0<=d/\d<=3 then cH w h u.Cell d else-1
def mX (w h:Int) (now:List aF) (u:aF) (d:Int):Prop:=0<=dF w h u d/\ ∀x∈now,x.Cell≠dF w h u d
instance (w h:Int) (now:List aF) (u:aF) (d:Int):Decidable (mX w h now u d):=by unfold mX;infer_instance
def lp (w h:Int) (s:yr) (i:Int) (u:aF) (d:Int):yr:=
 if mX w h s.1 u d then(s.1.set i.toNat ⟨u.Id,if dF w h u d=u.Goal then-1 else dF w h u d,u.Goal⟩,s.2.1++[⟨u.Id,dF w h u d⟩],if dF w h u d=u.Goal then s.2.2++[u.Id] else s.2.2) else s
def dO (w h:Int) (l:List aF) (aM:List Int):Nat->yr
 |0=>(l,[],[])
 |n+1=>lp w h (dO w h l aM n) n (rd l (n:Int)) (rd aM (n:Int))
def gC (w h:Int) (l:List aF) (aM:List Int):List aF×List eD×List Int:=
 ((dO w h l aM l.length).1.filter (λx=>decide (0<=x.Cell)),(dO w h l aM l.length).2.1,(dO w h l aM l.length).2.2)
structure BQ (w h:Int) (l:List aF) (n:Nat) (s:yr):Prop where
 len:s.1.length=l.length
 rest: ∀j:Int,n<=j->j<l.length->rd s.1 j=rd l j
 same: ∀j:Int,0<=j->j<l.length->(rd s.1 j).Id=(rd l j).Id/\(rd s.1 j).Goal=(rd l j).Goal
 cell: ∀j:Int,0<=j->j<l.length->(rd s.1 j).Cell= -1∨bZ w h (rd s.1 j).Cell
 apart: ∀i j:Int,0<=i->i<l.length->0<=j->j<l.length->i≠j->0<=(rd s.1 i).Cell->(rd s.1 i).Cell≠(rd s.1 j).Cell
 HB:s.2.1.length<=n
 JR:s.2.2.length<=n
theorem ajq {w h c d:Int} (hs:0<=cH w h c d):bZ w h (cH w h c d):=by
 unfold cH at hs⊢;split
 ·unfold pK at hs⊢;rename_i q;rw[af q] at hs;split
  ·rename_i z;exact⟨z.1,sS z.2.1 z.2.2.1 z.2.2.2.1 z.2.2.2.2⟩
  ·rename_i z;rw[ah z] at hs;omega
 ·rename_i q;rw[ah q] at hs;omega
theorem SJ {w h:Int} {u:aF} {d:Int} (hs:0<=dF w h u d):bZ w h (dF w h u d):=by
 unfold dF at hs⊢;split
 ·rename_i q;rw[af q] at hs;exact ajq hs
 ·rename_i q;rw[ah q] at hs;omega
theorem acb {w h:Int} {l:List aF} (hm:iC w h l):BQ w h l 0 (l,[],[]):=
 ⟨J,λ_ _ _=>rfl,λ_ _ _=>⟨J,J⟩,λj j0 j1=> .inr (hm.cell j0 j1),λi j i0 i1 j0 j1 rW _=>hm.apart i0 i1 j0 j1 rW,by simp,by simp⟩
theorem Sq {w h:Int} {l:List aF} {n:Nat} {s:yr} (hi:BQ w h l n s) (hn:n<l.length) (d:Int):BQ w h l (n+1) (lp w h s n (rd l (n:Int)) d):=by
 unfold lp
 by_cases hc:mX w h s.1 (rd l (n:Int)) d
 ·rw[af hc];obtain⟨c1,c2⟩:=hc;have eK:=SJ c1;have hlen:=hi.len;have hr: ∀j:Int,0<=j->rd (s.1.set (n:Int).toNat ⟨(rd l (n:Int)).Id,if dF w h (rd l (n:Int)) d=(rd l (n:Int)).Goal then-1 else dF w h (rd l (n:Int)) d,(rd l (n:Int)).Goal⟩) j=
   if j=n then⟨(rd l (n:Int)).Id,if dF w h (rd l (n:Int)) d=(rd l (n:Int)).Goal then-1 else dF w h (rd l (n:Int)) d,(rd l (n:Int)).Goal⟩ else rd s.1 j:=
   λj j0=>lB U U j0
  generalize dF w h (rd l (n:Int)) d=to at*;have gO: ∀j:Int,0<=j->j<l.length->(rd s.1 j).Cell≠to:=λj j0 j1=>c2 _ (dU j0 U);refine⟨by simpa using hlen,λj j0 j1=>?_,λj j0 j1=>?_,λj j0 j1=>?_,λi j i0 i1 j0 j1 rW hp=>?_,by simpa using hi.HB,?_⟩
  ·simp only;rw[hr j U,ah U];exact hi.rest j U j1
  ·simp only;rw[hr j j0]
   by_cases q:j=n
   ·rw[af q,q];exact⟨J,J⟩
   ·rw[ah q];exact hi.same j j0 j1
  ·simp only;rw[hr j j0]
   by_cases q:j=n
   ·rw[af q];simp only;split
    ·exact .inl J
    ·exact .inr eK
   ·rw[ah q];exact hi.cell j j0 j1
  ·simp only at hp⊢;rw[hr i i0] at hp⊢;rw[hr j j0]
   by_cases qi:i=n
   ·rw[af qi] at hp⊢;rw[ah (show ¬j=(n:Int) from λq=>rW U)]
    simp only at hp⊢
    by_cases z:to=(rd l (n:Int)).Goal
    ·rw[af z] at hp;omega
    ·rw[ah z];exact λe=>gO j j0 j1 e.symm
   ·rw[ah qi] at hp⊢
    by_cases qj:j=n
    ·rw[af qj];simp only;split
     ·omega
     ·exact gO i i0 i1
    ·rw[ah qj];exact hi.apart i j i0 i1 j0 j1 rW hp
  ·simp only;have:=hi.JR;split<;>simp<;>omega
 ·rw[ah hc];exact⟨hi.len,λj j0 j1=>hi.rest j U j1,hi.same,hi.cell,hi.apart,by have:=hi.HB;omega,by have:=hi.JR;omega⟩
theorem xq {w h:Int} {l:List aF} (hm:iC w h l) (aM:List Int): ∀n:Nat,n<=l.length->BQ w h l n (dO w h l aM n)
 |0,_=>acb hm
 |n+1,hn=>Sq (xq hm aM n U) U _
def Stood (m:List (Int×Bool)) (now:List aF):Prop:=(m.map (·.1)).Nodup/\ ∀c:Int,0<=c->(aR m c=true↔ ∃x∈now,x.Cell=c)
def Sa (f:mC) (u:aF) (d:Int):Option (Bool×mC×aF):=(mj.f f.w f.h u.Cell d).bind λv2=>(if v2<0 then(some true) else(some (aR f.j4 v2))).bind λx3=>if x3=true then(some (true,f,u)) else(if(List.length f.kJ+1<=1099511627776) then(if(v2==u.Goal)=true then(if(List.length f.gone+1<=1099511627776) then(some (false,(mC.mk f.w f.h (dT f.j4 u.Cell) (f.kJ++[(eD.mk u.Id v2)]) (f.gone++[u.Id])),(aF.mk u.Id v2 u.Goal))) else none) else(some (true,(mC.mk f.w f.h (cJ (dT f.j4 u.Cell) v2 true) (f.kJ++[(eD.mk u.Id v2)]) f.gone),(aF.mk u.Id v2 u.Goal)))) else none)
theorem ab' (f:mC) (u:aF) {d:Int} (hd:0<=d/\d<=3):wc.f f u d=Sa f u d:=by
 have:d=0∨d=1∨d=2∨d=3:=U;rcases this with rfl |rfl |rfl |rfl<;>rfl
theorem ab_ {w h:Int} {l:List aF} {n:Nat} {s:yr} (hi:BQ w h l n s) (hn:n<l.length) (hl:l.length<=1000000) (hc:bZ w h (rd l (n:Int)).Cell) {m:List (Int×Bool)} (nJ:Stood m s.1) (d:Int):
 ∃m',wc.f ⟨w,h,m,s.2.1,s.2.2⟩ (rd l (n:Int)) d=some (decide (0<=(rd (lp w h s n (rd l (n:Int)) d).1 (n:Int)).Cell),⟨w,h,m',(lp w h s n (rd l (n:Int)) d).2.1,(lp w h s n (rd l (n:Int)) d).2.2⟩,
  ⟨(rd l (n:Int)).Id,if mX w h s.1 (rd l (n:Int)) d then dF w h (rd l (n:Int)) d else(rd l (n:Int)).Cell,(rd l (n:Int)).Goal⟩)/\Stood m' (lp w h s n (rd l (n:Int)) d).1:=by
 have hlen:=hi.len;have tl:rd s.1 (n:Int)=rd l (n:Int):=hi.rest n U U;have Of:=hi.HB;have nf:=hi.JR;unfold lp;generalize hu:rd l (n:Int)=u at*;have stay: ¬mX w h s.1 u d->(some (true,mC.mk w h m s.2.1 s.2.2,u):Option (Bool×mC×aF))=
  some (decide (0<=(rd (if mX w h s.1 u d then(s.1.set (n:Int).toNat ⟨u.Id,if dF w h u d=u.Goal then-1 else dF w h u d,u.Goal⟩,s.2.1++[⟨u.Id,dF w h u d⟩],if dF w h u d=u.Goal then s.2.2++[u.Id] else s.2.2) else s).1 (n:Int)).Cell),
   ⟨w,h,m,(if mX w h s.1 u d then(s.1.set (n:Int).toNat ⟨u.Id,if dF w h u d=u.Goal then-1 else dF w h u d,u.Goal⟩,s.2.1++[⟨u.Id,dF w h u d⟩],if dF w h u d=u.Goal then s.2.2++[u.Id] else s.2.2) else s).2.1,(if mX w h s.1 u d then(s.1.set (n:Int).toNat ⟨u.Id,if dF w h u d=u.Goal then-1 else dF w h u d,u.Goal⟩,s.2.1++[⟨u.Id,dF w h u d⟩],if dF w h u d=u.Goal then s.2.2++[u.Id] else s.2.2) else s).2.2⟩,
   ⟨u.Id,if mX w h s.1 u d then dF w h u d else u.Cell,u.Goal⟩):=by
  intro q;rw[ah q,ah q,tl];have:decide (0<=u.Cell)=true:=by simpa using hc.2.1
  rw[this]
 by_cases hd:0<=d/\d<=3
 ·have v_:dF w h u d=cH w h u.Cell d:=by unfold dF;rw[af hd]
  rw[ab' _ u hd];unfold Sa;simp only[Ir,aI];rw[<-v_];have hbl:((if dF w h u d<0 then some true else some (aR m (dF w h u d))):Option Bool)=some (!decide (mX w h s.1 u d)):=by
   unfold mX
   by_cases q:dF w h u d<0
   ·rw[af q];have:decide (0<=dF w h u d/\ ∀x∈s.1,x.Cell≠dF w h u d)=false:=by
     rw[decide_eq_false_iff_not];intro z;omega
    rw[this];rfl
   ·rw[ah q]
    congr 1
    have h0:=nJ.2 (dF w h u d) U
    by_cases z:aR m (dF w h u d)=true
    ·rw[z];obtain⟨x,hx,e⟩:=h0.1 z;have:decide (0<=dF w h u d/\ ∀x∈s.1,x.Cell≠dF w h u d)=false:=by
      rw[decide_eq_false_iff_not];intro y;exact y.2 x hx e
     rw[this];rfl
    ·have z':aR m (dF w h u d)=false:=by simpa using z
     rw[z'];have:decide (0<=dF w h u d/\ ∀x∈s.1,x.Cell≠dF w h u d)=true:=by
      rw[decide_eq_true_iff];exact⟨by omega,λx hx e=>z (h0.2 ⟨x,hx,e⟩)⟩
     rw[this];rfl
  rw[hbl];simp only[aI]
  by_cases yZ:mX w h s.1 u d
  ·have aeR:=yZ;obtain⟨c1,c2⟩:=aeR;rw[ah (by simpa using yZ),af U]
   simp only[af yZ];have hr: ∀(v:aF) (j:Int),0<=j->rd (s.1.set (n:Int).toNat v) j=if j=n then v else rd s.1 j:=λv j j0=>lB U U j0
   have akB:u.Cell≠dF w h u d:=λe=>c2 u (by rw[<-tl];exact dU U U) e
   have ju: ∀(v:aF) (c:Int),(∃x∈s.1.set (n:Int).toNat v,x.Cell=c)↔v.Cell=c∨ ∃j:Int,0<=j/\j<l.length/\j≠n/\(rd s.1 j).Cell=c:=by
    intro v c;constructor
    ·rintro⟨x,hx,e⟩;obtain⟨j,j0,j1,rfl⟩:=jL hx;rw[hr v j j0] at e;rw[List.length_set] at j1
     by_cases q:j=n
     ·rw[af q] at e;exact .inl e
     ·rw[ah q] at e;exact .inr ⟨j,j0,by omega,q,e⟩
    ·rintro(e |⟨j,j0,j1,j2,e⟩)
     ·refine⟨rd (s.1.set (n:Int).toNat v) (n:Int),dU U (by rw[List.length_set];omega),?_⟩
      rw[hr v n U,af J];exact e
     ·refine⟨rd (s.1.set (n:Int).toNat v) j,dU j0 (by rw[List.length_set];omega),?_⟩
      rw[hr v j j0,ah j2];exact e
   have hold: ∀c:Int,0<=c->(aR m c=true↔u.Cell=c∨ ∃j:Int,0<=j/\j<l.length/\j≠n/\(rd s.1 j).Cell=c):=by
    intro c c0;rw[nJ.2 c c0];constructor
    ·rintro⟨x,hx,e⟩;obtain⟨j,j0,j1,rfl⟩:=jL hx
     by_cases q:j=n
     ·subst q;rw[tl] at e;exact .inl e
     ·exact .inr ⟨j,j0,by omega,q,e⟩
    ·rintro(e |⟨j,j0,j1,j2,e⟩)
     ·exact⟨rd s.1 (n:Int),dU U U,by rw[tl];exact e⟩
     ·exact⟨rd s.1 j,dU j0 U,e⟩
   have S8: ∀j:Int,0<=j->j<l.length->j≠n->(rd s.1 j).Cell≠u.Cell:=by
    intro j j0 j1 j2 e;have:=hi.apart n j U U j0 j1 (λz=>j2 z.symm) (by rw[tl];exact hc.2.1)
    rw[tl] at this;exact this e.symm
   by_cases hg:dF w h u d=u.Goal
   ·rw[af (by simpa using hg),af U]
    refine⟨dT m u.Cell,?_,KS nJ.1 _,λc c0=>?_⟩
    ·simp only[af hg];rw[hr _ n U,af J];simp
    ·rw[VC nJ.1,af hg,ju];simp only
     by_cases q:u.Cell=c
     ·rw[af q];constructor
      ·intro z;cases z
      ·rintro(z |⟨j,j0,j1,j2,e⟩)
       ·omega
       ·exact absurd (e.trans q.symm) (S8 j j0 j1 j2)
     ·rw[ah q,hold c c0];constructor
      ·rintro(z |z)
       ·exact absurd z q
       ·exact .inr z
      ·rintro(z |z)
       ·omega
       ·exact .inr z
   ·rw[ah (by simpa using hg)]
    refine⟨cJ (dT m u.Cell) (dF w h u d) true,?_,CW (KS nJ.1 _) _ _,λc c0=>?_⟩
    ·simp only[ah hg];rw[hr _ n U,af J];simp[c1]
    ·rw[u5,VC nJ.1,ah hg,ju];simp only
     by_cases z:dF w h u d=c
     ·rw[af z];exact⟨λ_=> .inl z,λ_=>rfl⟩
     ·rw[ah z]
      by_cases q:u.Cell=c
      ·rw[af q];constructor
       ·intro y;cases y
       ·rintro(y |⟨j,j0,j1,j2,e⟩)
        ·exact absurd y z
        ·exact absurd (e.trans q.symm) (S8 j j0 j1 j2)
      ·rw[ah q,hold c c0];constructor
       ·rintro(y |y)
        ·exact absurd y q
        ·exact .inr y
       ·rintro(y |y)
        ·exact absurd y z
        ·exact .inr y
  ·rw[af (by simpa using yZ)]
   refine⟨m,stay yZ,?_⟩;rw[ah yZ];exact nJ
 ·have yZ: ¬mX w h s.1 u d:=by
   unfold mX dF;rw[ah hd];intro q;omega
  unfold wc.f;rw[ah bm,ah bm,ah bm,ah bm];refine⟨m,stay yZ,?_⟩;rw[ah yZ];exact nJ
theorem ajy {w h:Int} {l:List aF} {aM:List Int} (hb:l.length<=1000000): ∀(n k:Nat) (i:Int) (m:List (Int×Bool)),i+n=l.length->0<=i->n<k->
 (m.map (·.1)).Nodup->(∀c,aR m c=true↔ ∃q,0<=q/\q<i/\(rd l q).Cell=c)->
 ∃m',jK.l0 k w h l aM m i=jK.l1 fuel w h l aM [] w h m' [] [] 0/\Stood m' l:=by
 intro n
 induction n with
 |zero=>
  intro k i m hi h0 hk hn hm;obtain⟨k,rfl⟩:=bl hk;refine⟨m,by rw[jK.l0,ah U],hn,λc _=>?_⟩
  rw[hm c];constructor
  ·rintro⟨q,q0,q1,e⟩;exact⟨_,dU q0 U,e⟩
  ·rintro⟨x,hx,e⟩;obtain⟨q,q0,q1,rfl⟩:=jL hx;exact⟨q,q0,by omega,e⟩
 |succ n ih=>
  intro k i m hi h0 hk hn hm;obtain⟨k,rfl⟩:=bl hk;rw[jK.l0,af U,af U,wi U U];refine ih k (i+1) _ U U U (CW hn _ _) (λc=>?_);rw[u5]
  by_cases e:(rd l i).Cell=c
  ·rw[af e];exact⟨λ_=>⟨i,h0,by omega,e⟩,λ_=>rfl⟩
  ·rw[ah e,hm c];constructor
   ·rintro⟨q,q0,q1,q2⟩;exact⟨q,q0,by omega,q2⟩
   ·rintro⟨q,q0,q1,q2⟩
    by_cases z:q=i
    ·subst z;exact absurd q2 e
    ·exact⟨q,q0,by omega,q2⟩
def p_ (s:yr) (n:Nat):List aF:=(s.1.take n).filter (λx=>decide (0<=x.Cell))
theorem SH {w h:Int} {l:List aF} {n:Nat} {s:yr} (hi:BQ w h l n s) (hn:n<l.length) (d:Int):
 rd (lp w h s n (rd l (n:Int)) d).1 (n:Int)=⟨(rd l (n:Int)).Id,if mX w h s.1 (rd l (n:Int)) d then(if dF w h (rd l (n:Int)) d=(rd l (n:Int)).Goal then-1 else dF w h (rd l (n:Int)) d) else(rd l (n:Int)).Cell,(rd l (n:Int)).Goal⟩:=by
 have hlen:=hi.len;unfold lp
 by_cases hc:mX w h s.1 (rd l (n:Int)) d
 ·rw[af hc,af hc];rw[lB U U U,af J]
 ·rw[ah hc,ah hc,hi.rest n U U]
theorem Sp {w h:Int} {l:List aF} {n:Nat} {s:yr} (hi:BQ w h l n s) (hn:n<l.length) (d:Int):
 p_ (lp w h s n (rd l (n:Int)) d) (n+1)=p_ s n++(if 0<=(rd (lp w h s n (rd l (n:Int)) d).1 (n:Int)).Cell then[rd (lp w h s n (rd l (n:Int)) d).1 (n:Int)] else[]):=by
 have rV:=Sq hi hn d;have qR:=rV.len;have ht:(lp w h s n (rd l (n:Int)) d).1.take n=s.1.take n:=by
  unfold lp;split
  ·simp only;rw[show(n:Int).toNat=n by simp,List.take_set_of_le (Nat.le_refl _)]
  ·rfl
 unfold p_;have aS:n<(lp w h s n (rd l (n:Int)) d).1.length:=U;rw[List.take_add_one,ht,List.getElem?_eq_getElem aS,List.filter_append,EZ aS]
 congr 1
 simp only[Option.toList_some,List.filter_cons,List.filter_nil,decide_eq_true_eq]
theorem acr {w h:Int} {l:List aF} {aM:List Int} (hm:iC w h l) (hb:l.length<=1000000) (hd:aM.length=l.length): ∀(m k:Nat) (n:Nat) (st:List (Int×Bool)),n+m=l.length->m<k->Stood st (dO w h l aM n).1->
 jK.l1 k w h l aM (p_ (dO w h l aM n) n) w h st (dO w h l aM n).2.1 (dO w h l aM n).2.2 (n:Int)=some ((gC w h l aM).1,(gC w h l aM).2.1,(gC w h l aM).2.2,0):=by
 intro m
 induction m with
 |zero=>
  intro k n st hn hk nJ;obtain⟨k,rfl⟩:=bl hk;have hi:=xq hm aM n U;rw[jK.l1,ah U];have:n=l.length:=U;subst this;unfold gC p_;rw[List.take_of_length_le (by rw[hi.len];omega)]
 |succ m ih=>
  intro k n st hn hk nJ;obtain⟨k,rfl⟩:=bl hk;have hi:=xq hm aM n U;have aS:n<l.length:=U;rw[jK.l1,af U,af U,af U];obtain⟨st',e1,e2⟩:=ab_ hi aS hb (hm.cell U U) nJ (rd aM (n:Int));have tg:=SH hi aS (rd aM (n:Int));have Gs:=Sp hi aS (rd aM (n:Int));have akw:(p_ (dO w h l aM n) n).length<=n:=by
   unfold p_;refine Nat.le_trans (List.length_filter_le ..) bm
  simp only[e1,aI];rw[wi U U];have GO:(n:Int)+1=((n+1:Nat):Int):=U;have GG:lp w h (dO w h l aM n) n (rd l (n:Int)) (rd aM (n:Int))=dO w h l aM (n+1):=rfl;rw[GG] at Gs tg e2;have:=ih k (n+1) st' U U e2
  by_cases hp:0<=(rd (dO w h l aM (n+1)).1 (n:Int)).Cell
  ·rw[af (by rw[GG];simpa using hp),af U]
   rw[af hp] at Gs;rw[GO,<-this,Gs,GG];have hu:(⟨(rd l (n:Int)).Id,if mX w h (dO w h l aM n).1 (rd l (n:Int)) (rd aM (n:Int)) then dF w h (rd l (n:Int)) (rd aM (n:Int)) else(rd l (n:Int)).Cell,(rd l (n:Int)).Goal⟩:aF)=rd (dO w h l aM (n+1)).1 (n:Int):=by
    rw[tg] at hp⊢;simp only at hp⊢
    by_cases hc:mX w h (dO w h l aM n).1 (rd l (n:Int)) (rd aM (n:Int))
    ·rw[af hc] at hp⊢;rw[af hc]
     by_cases hg:dF w h (rd l (n:Int)) (rd aM (n:Int))=(rd l (n:Int)).Goal
     ·rw[af hg] at hp;omega
     ·rw[ah hg]
    ·rw[ah hc,ah hc]
   rw[hu]
  ·rw[ah (by rw[GG];simpa using hp)]
   rw[ah hp,List.append_nil] at Gs;rw[GO,<-this,Gs,GG]
def IZ (aM:List Int) (n:Nat):Prop:=aM.length=n/\ ∀d∈aM,0<=d/\d<=5
theorem go_ok {w h:Int} {l:List aF} {aM:List Int} (hm:iC w h l) (hb:l.length<=1000000) (hd:IZ aM l.length):
 jK.f w h l aM=some ((gC w h l aM).1,(gC w h l aM).2.1,(gC w h l aM).2.2,0):=by
 unfold jK.f;obtain⟨r,r1,r2⟩:=Wh (w:=w) (h:=h) (l:=l) U;obtain⟨o,o1,o2⟩:=ahb (s:=aM) (by have:=hd.1;omega)
 have ho:o=false:=by
  rw[Bool.eq_false_iff];intro q;obtain⟨d,Um,hx⟩:=o2.1 q;have:=hd.2 d Um;omega
 rw[r1,aI,r2.2 hm,o1,ho];rw[ah (by simp[hd.1])]
 simp only[aI,Bool.false_eq_true,if_false];obtain⟨m',e1,e2⟩:=ajy (w:=w) (h:=h) (l:=l) (aM:=aM) hb l.length fuel 0 [] U U (by rw[cI];omega) bd (λc=>by
  constructor
  ·intro q;simp[aR,cS] at q
  ·rintro⟨q,q0,q1,_⟩;omega)
 rw[e1];exact acr hm hb hd.1 l.length fuel 0 m' U (by rw[cI];omega) e2
section
variable {w h : Int} {l : List aF} {aM : List Int}
abbrev tu (w h:Int) (l:List aF) (aM:List Int) (n:Nat):Prop:=mX w h (dO w h l aM n).1 (rd l (n:Int)) (rd aM (n:Int))
abbrev lR (w h:Int) (l:List aF) (aM:List Int) (n:Nat):Int:=dF w h (rd l (n:Int)) (rd aM (n:Int))
def EO (w h:Int) (l:List aF) (aM:List Int) (n:Nat):Int:=if tu w h l aM n then(if lR w h l aM n=(rd l (n:Int)).Goal then-1 else lR w h l aM n) else(rd l (n:Int)).Cell
theorem OT (n:Nat):(dO w h l aM (n+1)).2.1=(dO w h l aM n).2.1++(if tu w h l aM n then[⟨(rd l (n:Int)).Id,lR w h l aM n⟩] else[]):=by
 show(lp w h (dO w h l aM n) n (rd l (n:Int)) (rd aM (n:Int))).2.1=_
 unfold lp
 by_cases hc:tu w h l aM n
 ·rw[af hc,af hc]
 ·rw[ah hc,ah hc,List.append_nil]
theorem SD (n:Nat):(dO w h l aM (n+1)).2.2=(dO w h l aM n).2.2++(if tu w h l aM n/\lR w h l aM n=(rd l (n:Int)).Goal then[(rd l (n:Int)).Id] else[]):=by
 show(lp w h (dO w h l aM n) n (rd l (n:Int)) (rd aM (n:Int))).2.2=_
 unfold lp
 by_cases hc:tu w h l aM n
 ·rw[af hc];simp only
  by_cases hg:lR w h l aM n=(rd l (n:Int)).Goal
  ·rw[af hg,af ⟨hc,hg⟩]
  ·rw[ah hg,ah (λq=>hg q.2),List.append_nil]
 ·rw[ah hc,ah (λq=>hc q.1),List.append_nil]
theorem ZX (hm:iC w h l) {n:Nat} (hn:n<l.length):rd (dO w h l aM (n+1)).1 (n:Int)=⟨(rd l (n:Int)).Id,EO w h l aM n,(rd l (n:Int)).Goal⟩:=
 SH (xq hm aM n U) hn _
theorem Mh (hm:iC w h l) {n:Nat} (hn:n<l.length):p_ (dO w h l aM (n+1)) (n+1)=p_ (dO w h l aM n) n++(if 0<=EO w h l aM n then[⟨(rd l (n:Int)).Id,EO w h l aM n,(rd l (n:Int)).Goal⟩] else[]):=by
 have:=Sp (xq hm aM n U) hn (rd aM (n:Int));have e:lp w h (dO w h l aM n) n (rd l (n:Int)) (rd aM (n:Int))=dO w h l aM (n+1):=rfl;rw[e,ZX hm hn] at this;exact this
theorem ajC (hm:iC w h l): ∀(d n:Nat),n+d=l.length-> ∃A M G,(gC w h l aM).1=p_ (dO w h l aM n) n++A/\(gC w h l aM).2.1=(dO w h l aM n).2.1++M/\(gC w h l aM).2.2=(dO w h l aM n).2.2++G/\
 (∀m∈M,∃j:Int,n<=j/\j<l.length/\m.Id=(rd l j).Id)/\(∀g∈G,∃j:Int,n<=j/\j<l.length/\g=(rd l j).Id):=by
 intro d
 induction d with
 |zero=>
  intro n hn;have:n=l.length:=U;subst this;have hi:=xq hm aM l.length (Nat.le_refl _);refine⟨[],[],[],?_,by simp[gC],by simp[gC],by simp,by simp⟩
  unfold gC p_;rw[List.take_of_length_le (by rw[hi.len];omega),List.append_nil]
 |succ d ih=>
  intro n hn;obtain⟨A,M,G,h1,h2,h3,h4,h5⟩:=ih (n+1) U;rw[Mh hm U,List.append_assoc] at h1;rw[OT,List.append_assoc] at h2;rw[SD,List.append_assoc] at h3;refine⟨_,_,_,h1,h2,h3,λm Og=>?_,λg hg=>?_⟩
  ·rcases List.mem_append.1 Og with q |q
   ·split at q
    ·simp at q;subst q;exact⟨n,by omega,by omega,rfl⟩
    ·cases q
   ·obtain⟨j,j0,j1,e⟩:=h4 m q;exact⟨j,by omega,j1,e⟩
  ·rcases List.mem_append.1 hg with q |q
   ·split at q
    ·simp at q;subst q;exact⟨n,by omega,by omega,rfl⟩
    ·cases q
   ·obtain⟨j,j0,j1,e⟩:=h5 g q;exact⟨j,by omega,j1,e⟩
theorem parts (hm:iC w h l) {n:Nat} (hn:n<l.length): ∃A M G,(gC w h l aM).1=p_ (dO w h l aM n) n++((if 0<=EO w h l aM n then[⟨(rd l (n:Int)).Id,EO w h l aM n,(rd l (n:Int)).Goal⟩] else[])++A)/\
 (gC w h l aM).2.1=(dO w h l aM n).2.1++((if tu w h l aM n then[⟨(rd l (n:Int)).Id,lR w h l aM n⟩] else[])++M)/\
 (gC w h l aM).2.2=(dO w h l aM n).2.2++((if tu w h l aM n/\lR w h l aM n=(rd l (n:Int)).Goal then[(rd l (n:Int)).Id] else[])++G)/\
 (∀m∈M,(rd l (n:Int)).Id<m.Id)/\(∀g∈G,(rd l (n:Int)).Id<g):=by
 obtain⟨A,M,G,h1,h2,h3,h4,h5⟩:=ajC (aM:=aM) hm (l.length-(n+1)) (n+1) U;rw[Mh hm U,List.append_assoc] at h1;rw[OT,List.append_assoc] at h2;rw[SD,List.append_assoc] at h3;refine⟨A,M,G,h1,h2,h3,λm Og=>?_,λg hg=>?_⟩
 ·obtain⟨j,j0,j1,e⟩:=h4 m Og;rw[e];exact hm.CF U U j1
 ·obtain⟨j,j0,j1,e⟩:=h5 g hg;rw[e];exact hm.CF U U j1
theorem agC (hm:iC w h l) {n:Nat} (hn:n<l.length):((dO w h l aM n).2.1.length<(gC w h l aM).2.1.length/\(rd (gC w h l aM).2.1 ((dO w h l aM n).2.1.length:Int)).Id=(rd l (n:Int)).Id↔tu w h l aM n)/\
 (tu w h l aM n->rd (gC w h l aM).2.1 ((dO w h l aM n).2.1.length:Int)=⟨(rd l (n:Int)).Id,lR w h l aM n⟩):=by
 obtain⟨A,M,G,_,h2,_,h4,_⟩:=parts (aM:=aM) hm hn;rw[h2]
 by_cases hc:tu w h l aM n
 ·rw[af hc];have e:rd ((dO w h l aM n).2.1++([⟨(rd l (n:Int)).Id,lR w h l aM n⟩]++M)) ((dO w h l aM n).2.1.length:Int)=⟨(rd l (n:Int)).Id,lR w h l aM n⟩:=by
   rw[mJ U,Int.sub_self];rfl
  rw[e];exact⟨⟨λ_=>hc,λ_=>⟨by simp,J⟩⟩,λ_=>rfl⟩
 ·rw[ah hc,List.nil_append];refine⟨⟨λq=>?_,λq=>absurd q hc⟩,λq=>absurd q hc⟩
  obtain⟨q1,q2⟩:=q;rw[List.length_append] at q1;rw[mJ U,Int.sub_self] at q2;have:=h4 _ (dU (a:=M) (i:=0) U U);omega
end
structure FS (f:fA) (n:Int) (L:List aF):Prop where
 fl:rF n f
 eV:f.count=L.length
 at_: ∀x∈L,0<=x.Cell/\x.Cell<n/\rd f.words x.Cell=x.Id+1
 only: ∀c,0<=c->c<n->rd f.words c≠0-> ∃x∈L,x.Cell=c
structure CS (c:dN) (w h most:Int) (L:List aF):Prop where
 w_:c.w=w
 h_:c.h=h
 m_:c.most=most
 may:iO w h
 us:US c.cU most L
 fl:FS c.floor (w*h) L
 ok: ∀x∈L,bZ w h x.Cell/\bZ w h x.Goal/\x.Cell≠x.Goal
 ln:(L.length:Int)<=most
def mT (L:List aF) (c:Int):Int:=match L.find? (λx=>x.Cell==c) with
 |some x=>x.Id
 |none=> -1
variable {c : dN} {w h most : Int} {L : List aF}
theorem US.G4 {u:fk} (hu:US u most L) {x:aF} (hx:x∈L):0<=x.Id/\x.Id<u.next:=by
 have:x.Id∈u.order.filter (λk=>bR u.live k):=by rw[hu.ord];exact List.mem_map.2 ⟨x,hx,J⟩
 exact hu.aZ _ (List.mem_filter.1 this).1
theorem CS.inj (hc:CS c w h most L) {x y:aF} (hx:x∈L) (hy:y∈L) (e:x.Cell=y.Cell):x=y:=by
 have h1:=(hc.fl.at_ x hx).2.2;have h2:=(hc.fl.at_ y hy).2.2;rw[e] at h1;exact CE hc.us.up hx hy U
theorem F5 (hc:CS c w h most L) {x:aF} (hx:x∈L):mT L x.Cell=x.Id:=by
 unfold mT
 cases hf:L.find? (λy=>y.Cell==x.Cell) with
 |none=>have:=List.find?_eq_none.1 hf x hx;simp at this
 |some y=>
  have h1:=List.mem_of_find?_eq_some hf;have h2:y.Cell=x.Cell:=by simpa using List.find?_some hf
  simp only;rw[hc.inj h1 hx h2]
theorem MC {cell:Int} (h0: ∀x∈L,x.Cell≠cell):mT L cell= -1:=by
 unfold mT
 cases hf:L.find? (λy=>y.Cell==cell) with
 |none=>rfl
 |some y=>
  have h1:=List.mem_of_find?_eq_some hf;have h2:y.Cell=cell:=by simpa using List.find?_some hf
  exact absurd h2 (h0 y h1)
theorem aaK (hc:CS c w h most L) {cell:Int}:mT L cell= -1↔ ∀x∈L,x.Cell≠cell:=by
 constructor
 ·intro q x hx e;rw[<-e,F5 hc hx] at q;have:=(hc.us.G4 hx).1;omega
 ·exact MC
theorem LJ (hc:CS c w h most L) (cell:Int):mW (w*h) c.floor cell=mT L cell:=by
 unfold mW
 by_cases q:0<=cell/\cell<w*h
 ·rw[af q]
  by_cases z: ∃x∈L,x.Cell=cell
  ·obtain⟨x,hx,rfl⟩:=z;rw[F5 hc hx,(hc.fl.at_ x hx).2.2];omega
  ·have hn: ∀x∈L,x.Cell≠cell:=λx hx e=>z ⟨x,hx,e⟩
   rw[MC hn];have:rd c.floor.words cell=0:=Classical.byContradiction λy=>z (hc.fl.only cell q.1 q.2 y);omega
 ·rw[ah q,MC];intro x hx e;have:=hc.fl.at_ x hx;exact q ⟨by omega,by omega⟩
theorem RP (hc:CS c w h most L) (cell:Int):yN.f c cell=some (mT L cell):=by
 unfold yN.f;rw[LK hc.fl.fl,LJ hc];rfl
theorem D6 (hc:CS c w h most L):oA.f c=some L:=by
 unfold oA.f;rw[Y0 hc.us];rfl
theorem MG (hc:CS c w h most L) (cell:Int):vB.f c cell=some (decide (bZ w h cell)):=by
 unfold vB.f;rw[hc.w_,hc.h_,tY,aI]
 congr 1
 by_cases q:bZ w h cell
 ·rw[decide_eq_true q,decide_eq_true_iff];have: ¬aY w h cell<0:=λz=>zP.1 z q
  omega
 ·rw[decide_eq_false q,decide_eq_false_iff_not];have:=zP.2 q;omega
theorem abe (w h most:Int): ∃r,vD.f w h most=some r/\(r.isSome=true↔iO w h/\1<=most/\most<=65536)/\ ∀c,r=some c->CS c w h most []/\c.cU.next=0:=by
 unfold vD.f;rw[A',aI]
 by_cases q:iO w h/\1<=most/\most<=65536
 ·obtain⟨q1,q2,q3⟩:=q;have hp:=uZ q1;rw[ah (by rw[decide_eq_true q1];simp;omega),agY,af ⟨q2,q3⟩,aI,wi U U]
  simp only[cT,ab5];rw[af hp];refine⟨_,J,⟨λ_=>⟨q1,q2,q3⟩,λ_=>rfl⟩,λc e=>?_⟩
  simp only[Option.some.injEq] at e;subst e;refine⟨⟨J,J,J,q1,ag0 ⟨q2,q3⟩,⟨ab6 hp.1,J,by simp,λd d0 d1 hd=>?_⟩,by simp,by simp;omega⟩,J⟩
  exact absurd (wq d0 U) hd
 ·refine⟨none,?_,⟨λz=>by simp at z,λz=>absurd z q⟩,λc e=>by cases e⟩
  rw[af]
  by_cases z:iO w h
  ·rw[decide_eq_true z];simp;omega
  ·rw[decide_eq_false z];simp
theorem CS.next (hc:CS c w h most L):0<=c.cU.next/\c.cU.next<=1000000:=hc.us.next
theorem ab8 {f:fA} {n:Int} (hf:FS f n L) {x:aF} (h0:0<=x.Cell) (h1:x.Cell<n) (gO: ∀y∈L,y.Cell≠x.Cell) (i0:0<=x.Id) (i1:x.Id<4294967295):FS (iH f x.Cell (x.Id+1) 1) n (L++[x]):=by
 refine⟨Ih hf.fl h0 h1 U U,by simp[iH,hf.eV],λy hy=>?_,λd d0 d1 hd=>?_⟩
 ·rcases List.mem_append.1 hy with q |q
  ·obtain⟨a,b,e⟩:=hf.at_ y q;refine⟨a,b,?_⟩;rw[Bh hf.fl h0 h1 a,ah (gO y q)];exact e
  ·simp at q;subst q;exact⟨h0,h1,by rw[Bh hf.fl h0 h1 h0,af J]⟩
 ·rw[Bh hf.fl h0 h1 d0] at hd
  by_cases q:d=x.Cell
  ·exact⟨x,by simp,q.symm⟩
  ·rw[ah q] at hd;obtain⟨y,hy,e⟩:=hf.only d d0 d1 hd;exact⟨y,by simp[hy],e⟩
theorem aca {f:fA} {n:Int} (hf:FS f n L) (G1:(L.map (·.Id)).Pairwise (· < ·)) {x:aF} (hx:x∈L):FS (iH f x.Cell 0 (-1)) n (mi L x.Id):=by
 obtain⟨h0,h1,h2⟩:=hf.at_ x hx;have hl:=Lz G1 (P6 G1 hx);refine⟨Ih hf.fl h0 h1 U U,by simp[iH,hf.eV];omega,λy hy=>?_,λd d0 d1 hd=>?_⟩
 ·unfold mi at hy;obtain⟨q1,q2⟩:=List.mem_filter.1 hy;have bQ:y.Id≠x.Id:=by simpa using q2
  obtain⟨a,b,e⟩:=hf.at_ y q1;refine⟨a,b,?_⟩;rw[Bh hf.fl h0 h1 a,ah]
  ·exact e
  ·intro z;rw[z,h2] at e;omega
 ·rw[Bh hf.fl h0 h1 d0] at hd
  by_cases q:d=x.Cell
  ·rw[af q] at hd;exact absurd J hd
  ·rw[ah q] at hd;obtain⟨y,hy,e⟩:=hf.only d d0 d1 hd;refine⟨y,?_,e⟩;unfold mi;rw[List.mem_filter];refine⟨hy,?_⟩;have:y.Id≠x.Id:=λz=>q (by rw[<-e,CE G1 hy hx z])
   simpa using this
theorem MT {k:Int} {x:aF} (hx:x∈mi L k):x∈L:=(List.mem_filter.1 hx).1
theorem MF (hc:CS c w h most L) {x:aF} (hx:x∈L): ∃c',pZ.f c x=some c'/\CS c' w h most (mi L x.Id)/\c'.cU.next=c.cU.next:=by
 unfold pZ.f;obtain⟨u',e1,e2,e3⟩:=abK hc.us x.Id;have my:=hc.us.G4 hx;have hw:mW (w*h) c.floor x.Cell=x.Id:=by rw[LJ hc,F5 hc hx]
 have kG:=hc.us.eV;have GO:=hc.next
 have NZ:=hc.fl.eV;have et:D_ (w*h) c.floor x.Cell=(x.Id,iH c.floor x.Cell 0 (-1)):=by unfold D_;rw[hw,ah U]
 rw[e1,aI,XI hc.fl.fl U,et];refine⟨_,J,⟨hc.w_,hc.h_,hc.m_,hc.may,e3,aca hc.fl hc.us.up hx,λy hy=>hc.ok y (MT hy),?_⟩,e2⟩;have:=Lz hc.us.up (P6 hc.us.up hx);have:=hc.ln;omega
def nu (w h most:Int) (L:List aF) (next cell goal:Int):Int×Int×List aF:=
 if ¬bZ w h cell∨ ¬bZ w h goal then(-1,7,L) else if mT L cell≠ -1 then(-1,10,L) else if most<=L.length then(-1,11,L) else if cell=goal then(-1,13,L) else(next,0,L++[⟨next,cell,goal⟩])
theorem aj_ (hc:CS c w h most L) (cell goal:Int):vC.f c 3 cell goal=some (if cell=goal then 13 else 0):=by
 unfold vC.f;rw[ah bd,ah bd,ah bd,af bd]
 by_cases q:cell=goal
 ·rw[af (by simpa using q),af q]
 ·rw[ah (by simpa using q),ah q]
theorem RM {next cell goal:Int} (a: ¬bZ w h cell∨ ¬bZ w h goal):nu w h most L next cell goal=(-1,7,L):=by unfold nu;rw[af a]
theorem abr {next cell goal:Int} (a:bZ w h cell) (b:bZ w h goal) (d:mT L cell≠ -1):nu w h most L next cell goal=(-1,10,L):=by
 unfold nu;rw[ah (λq=>q.elim (λz=>z a) (λz=>z b)),af d]
theorem abt {next cell goal:Int} (a:bZ w h cell) (b:bZ w h goal) (d:mT L cell= -1) (e:most<=L.length):nu w h most L next cell goal=(-1,11,L):=by
 unfold nu;rw[ah (λq=>q.elim (λz=>z a) (λz=>z b)),ah (λq=>q d),af e]
theorem abu {next cell goal:Int} (a:bZ w h cell) (b:bZ w h goal) (d:mT L cell= -1) (e: ¬most<=L.length) (g:cell=goal):nu w h most L next cell goal=(-1,13,L):=by
 unfold nu;rw[ah (λq=>q.elim (λz=>z a) (λz=>z b)),ah (λq=>q d),ah e,af g]
theorem abv {next cell goal:Int} (a:bZ w h cell) (b:bZ w h goal) (d:mT L cell= -1) (e: ¬most<=L.length) (g: ¬cell=goal):nu w h most L next cell goal=(next,0,L++[⟨next,cell,goal⟩]):=by
 unfold nu;rw[ah (λq=>q.elim (λz=>z a) (λz=>z b)),ah (λq=>q d),ah e,ah g]
theorem aj9 (hc:CS c w h most L) (cell goal next:Int):vC.f c 0 cell goal=some (nu w h most L next cell goal).2.1:=by
 unfold vC.f;rw[af bd,MG hc,MG hc];simp only[aI,LK hc.fl.fl,LJ hc,aga hc.us,hc.m_]
 by_cases a:bZ w h cell
 ·by_cases b:bZ w h goal
  ·simp only[decide_eq_true a,decide_eq_true b,Bool.not_true,aI,Bool.false_eq_true,if_false]
   by_cases d:mT L cell= -1
   ·rw[ah (by simpa using d)]
    by_cases e:most<=(L.length:Int)
    ·rw[af U,abt a b d e]
    ·rw[ah U]
     by_cases g:cell=goal
     ·rw[af (by simpa using g),abu a b d e g]
     ·rw[ah (by simpa using g),abv a b d e g]
   ·rw[af (by simpa using d),abr a b d]
  ·rw[RM (.inr b)];simp only[decide_eq_true a,decide_eq_false b,Bool.not_true,Bool.not_false,aI,Bool.false_eq_true,if_false,if_true]
 ·rw[RM (.inl a)];simp only[decide_eq_false a,Bool.not_false,aI,if_true]
theorem RN (hc:CS c w h most L) (hn:c.cU.next<1000000) (cell goal:Int): ∃c',uF.f c cell goal=some ((nu w h most L c.cU.next cell goal).1,(nu w h most L c.cU.next cell goal).2.1,c')/\
 CS c' w h most (nu w h most L c.cU.next cell goal).2.2/\c'.cU.next=c.cU.next+(if(nu w h most L c.cU.next cell goal).2.1=0 then 1 else 0):=by
 unfold uF.f;rw[aj9 hc cell goal c.cU.next,aI]
 have GO:=hc.next
 unfold nu
 by_cases a: ¬bZ w h cell∨ ¬bZ w h goal
 ·simp only[af a];rw[af bd];exact⟨c,J,hc,by simp⟩
 ·simp only[ah a]
  by_cases b:mT L cell≠ -1
  ·simp only[af b];rw[af bd];exact⟨c,J,hc,by simp⟩
  ·simp only[ah b]
   by_cases d:most<=(L.length:Int)
   ·simp only[af d];rw[af bd];exact⟨c,J,hc,by simp⟩
   ·simp only[ah d]
    by_cases e:cell=goal
    ·simp only[af e];rw[af bd];exact⟨c,J,hc,by simp⟩
    ·simp only[ah e];rw[ah bd];obtain⟨u',a1,a2,a3⟩:=(YS hc.us hn cell goal).2 U;have eK:bZ w h cell:=Classical.byContradiction λz=>a (.inl z);have GK:bZ w h goal:=Classical.byContradiction λz=>a (.inr z);have hw:mT L cell= -1:=Classical.byContradiction λz=>b z
     have gO:=(aaK hc).1 hw;have GH:rQ (w*h) c.floor cell:=by
      refine⟨eK.2.1,eK.2.2,Classical.byContradiction λz=>?_⟩
      obtain⟨x,hx,q⟩:=hc.fl.only cell eK.2.1 eK.2.2 z;exact gO x hx q
     have NZ:=hc.fl.eV;have kG:=hc.us.eV;have ep:D9 (w*h) c.floor cell c.cU.next=(true,iH c.floor cell (c.cU.next+1) 1):=by
      unfold D9;rw[af ⟨GH,by omega,by omega⟩]
     rw[a1,aI,Wj hc.fl.fl U,ep];refine⟨_,J,⟨hc.w_,hc.h_,hc.m_,hc.may,a3,?_,λy hy=>?_,by simp;omega⟩,by simp[a2]⟩
     ·exact ab8 (x:=⟨c.cU.next,cell,goal⟩) hc.fl eK.2.1 eK.2.2 gO (by simp only;omega) (by simp only;omega)
     ·rcases List.mem_append.1 hy with q |q
      ·exact hc.ok y q
      ·simp at q;subst q;exact⟨eK,GK,e⟩
def xi (L:List aF) (id:Int):Int×List aF:=if BH L id=true then(0,mi L id) else(12,L)
theorem Rq (hc:CS c w h most L) (id:Int): ∃c',uC.f c id=some ((xi L id).1,c')/\CS c' w h most (xi L id).2/\c'.cU.next=c.cU.next:=by
 unfold uC.f xi BH;rw[Eb hc.us,aI];unfold zW
 cases hf:od L id with
 |none=>
  exact⟨c,J,by simpa using hc,J⟩
 |some x=>
  obtain⟨h1,h2⟩:=BG hf;obtain⟨c',e1,e2,e3⟩:=MF hc h1;simp only[Bool.not_true,Bool.false_eq_true,if_false,e1,aI];rw[h2] at e2;exact⟨c',J,by simpa using e2,e3⟩
def xj (w h:Int) (L:List aF) (id goal:Int):Int×List aF:=
 match od L id with
 |none=>(12,L)
 |some x=>if ¬bZ w h goal then(7,L) else if x.Cell=goal then(13,mi L id) else(0,gQ L id (λx=>⟨x.Id,x.Cell,goal⟩))
theorem RJ (hc:CS c w h most L) (id goal:Int): ∃c',uD.f c id goal=some ((xj w h L id goal).1,c')/\CS c' w h most (xj w h L id goal).2/\c'.cU.next=c.cU.next:=by
 unfold uD.f xj;rw[Eb hc.us,aI];unfold zW
 cases hf:od L id with
 |none=>
  exact⟨c,J,by simpa using hc,J⟩
 |some x=>
  obtain⟨h1,h2⟩:=BG hf;simp only[Bool.not_true,Bool.false_eq_true,if_false,MG hc,aI,aj_ hc]
  by_cases q:bZ w h goal
  ·simp only[decide_eq_true q,Bool.not_true,Bool.false_eq_true,if_false]
   by_cases g:x.Cell=goal
   ·obtain⟨c',e1,e2,e3⟩:=MF hc h1;rw[h2] at e2;simp only[af g,e1,aI,ah (λz: ¬bZ w h goal=>z q)];exact⟨c',J,e2,e3⟩
   ·obtain⟨u',e1,e2,e3⟩:=YV hc.us id goal;simp only[ah g,e1,aI,ah (λz: ¬bZ w h goal=>z q)];refine⟨_,J,⟨hc.w_,hc.h_,hc.m_,hc.may,e3,⟨hc.fl.fl,by simp[gQ,hc.fl.eV],λy hy=>?_,λd d0 d1 hd=>?_⟩,λy hy=>?_,by simpa[gQ] using hc.ln⟩,e2⟩
    ·unfold gQ at hy;obtain⟨z,hz,rfl⟩:=List.mem_map.1 hy;have:=hc.fl.at_ z hz;split<;>exact this
    ·obtain⟨z,hz,e⟩:=hc.fl.only d d0 d1 hd;refine⟨if z.Id=id then⟨z.Id,z.Cell,goal⟩ else z,List.mem_map.2 ⟨z,hz,J⟩,?_⟩
     split<;>exact e
    ·unfold gQ at hy;obtain⟨z,hz,rfl⟩:=List.mem_map.1 hy;have UZ:=hc.ok z hz;split
     ·rename_i y;have:z=x:=CE hc.us.up hz h1 (y.trans h2.symm);exact⟨UZ.1,q,by rw[this];exact g⟩
     ·exact UZ
  ·simp only[decide_eq_false q,Bool.not_false,if_true,af q];exact⟨c,J,hc,J⟩
end Go.Proofs.YthodkonhneebbaaGreatDoor
