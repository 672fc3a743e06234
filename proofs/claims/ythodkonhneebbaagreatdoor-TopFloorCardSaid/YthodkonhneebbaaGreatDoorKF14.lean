/- What the functions do, in plain Lean, on the objects that are kept in order. -/
import Derived.Test.YthodkonhneebbaaGreatDoorKF6
import Derived.Test.YthodkonhneebbaaGreatDoorKF5
import Derived.Test.YthodkonhneebbaaGreatDoorKF11
import Derived.Test.YthodkonhneebbaaGreatDoorKF7
import Derived.Test.YthodkonhneebbaaGreatDoorKF10
import Derived.Test.YthodkonhneebbaaGreatDoorKF8
namespace Go.Proofs.YthodkonhneebbaaGreatDoor
open Go.Hx
set_option linter.unusedVariables false
set_option linter.unusedSimpArgs false
theorem bj {x:Int} (h1: -9223372036854775808<=x) (h2:x<=9223372036854775807):aa x=x:=by
 unfold aa IntKind.wrap IntKind.signed IntKind.bits;simp;omega
theorem qP {a b:Int} (h:0<=a):Int.tdiv a b=a/b:=Int.tdiv_eq_ediv_of_nonneg h
theorem mS {a b:Int} (h:0<=a):Int.tmod a b=a%b:=Int.tmod_eq_emod_of_nonneg h
abbrev iD (w h:Int):Prop:=1<=w/\w<=1024/\1<=h/\h<=1024
abbrev bT (w h c:Int):Prop:=iD w h/\0<=c/\c<w*h
theorem kA {a b m n:Int} (ha:0<=a) (hb:0<=b) (h1:a<=m) (h2:b<=n):a*b<=m*n:=
 Int.mul_le_mul h1 h2 hb U
theorem nz {a b:Int} (ha:0<=a) (hb:0<=b):0<=a*b:=Int.mul_nonneg ha hb
theorem tX {w h:Int} (hm:iD w h):1<=w*h/\w*h<=1048576:=by
 obtain⟨a,b,c,d⟩:=hm;have h1:w*h<=1024*1024:=kA U U b d;have h2:1*1<=w*h:=Int.mul_le_mul a c U U;omega
theorem Az (w h:Int):nR.f w h=some (decide (iD w h)):=by
 unfold nR.f
 congr 1
 simp only[iD];rw[Bool.eq_iff_iff];simp;omega
theorem NP (n lo hi:Int):sL.f n lo hi=some (decide (lo<=n/\n<=hi)):=by
 unfold sL.f
 congr 1
 rw[Bool.eq_iff_iff];simp
theorem aha (w h:Int):CA.f w h=some (decide (iD w h)):=by
 unfold CA.f;simp only[NP,aL,iD]
 by_cases h1:1<=w/\w<=1024
 ·simp[h1]
 ·simp[h1];omega
def bo (w h:Int):Int×Int:=if iD w h then((w+15)/16,(h+15)/16) else(0,0)
theorem Ep (w h:Int):p9.f w h=some (bo w h):=by
 unfold p9.f bo;simp only[Az,aL]
 by_cases hm:iD w h
 ·rw[decide_eq_true hm,af hm,ah bk];obtain⟨a,b,c,d⟩:=hm;simp only[bj (x:=w+16) U U,bj (x:=h+16) U U,bj (x:=w+16-1) U U,bj (x:=h+16-1) U U,
   qP (a:=w+16-1) U,qP (a:=h+16-1) U,bj (x:=(w+16-1)/16) U U,bj (x:=(h+16-1)/16) U U]
  congr 2<;>omega
 ·simp[hm]
theorem OG (w h:Int):vA.f w h=some (bo w h):=by
 rw[<-Ep];unfold vA.f p9.f;rw[aha,Az]
theorem CL {w h:Int} (hm:iD w h):1<=(bo w h).1/\(bo w h).1<=64/\1<=(bo w h).2/\(bo w h).2<=64:=by
 unfold bo;rw[af hm];obtain⟨a,b,c,d⟩:=hm;simp only;omega
theorem ahH (w h:Int):0<=(bo w h).1/\(bo w h).1<=64/\0<=(bo w h).2/\(bo w h).2<=64:=by
 by_cases hm:iD w h
 ·have:=CL hm;omega
 ·unfold bo;rw[ah hm];simp
def dT (w h:Int):Int:=(bo w h).1*(bo w h).2
theorem oR (w h:Int):0<=dT w h/\dT w h<=4096:=by
 obtain⟨a,b,c,d⟩:=ahH w h;have h1:dT w h<=64*64:=kA a c b d;have h2:0<=dT w h:=nz a c;omega
theorem aal {w h:Int} (hm:iD w h):1<=dT w h:=by
 obtain⟨a,b,c,d⟩:=CL hm;have h2:1*1<=dT w h:=Int.mul_le_mul a c U U;omega
theorem Ov (w h:Int):yY.f w h=some (dT w h):=by
 unfold yY.f;have:=oR w h;simp only[OG,aL,dT];unfold dT at this;rw[bj U U]
abbrev bI (w h s:Int):Prop:=0<=s/\s<dT w h
def G9 (w h s:Int):Int×Int×Bool:=if bI w h s then(16*(s%(bo w h).1),16*(s/(bo w h).1),true) else(0,0,false)
theorem sW {w h s:Int} (hs:bI w h s):iD w h:=by
 by_cases hm:iD w h
 ·exact hm
 ·have:dT w h=0:=by unfold dT bo;rw[ah hm];simp
  obtain⟨a,b⟩:=hs;omega
theorem ug {w h s:Int} (hs:bI w h s):0<=s%(bo w h).1/\s%(bo w h).1<(bo w h).1/\0<=s/(bo w h).1/\s/(bo w h).1<(bo w h).2:=by
 obtain⟨a,b,c,d⟩:=CL (sW hs);obtain⟨h0,h1⟩:=hs;refine⟨Int.emod_nonneg _ U,Int.emod_lt_of_pos _ U,Int.ediv_nonneg h0 U,?_⟩;unfold dT at h1;exact Int.ediv_lt_of_lt_mul U (by rw[Int.mul_comm];exact h1)
theorem QO (w h s:Int):zq.f w h s=some (G9 w h s):=by
 unfold zq.f G9;simp only[Ep,aL];have hc:=oR w h;have hw:aa ((bo w h).1*(bo w h).2)=dT w h:=by unfold dT at hc⊢;exact bj U U
 rw[hw]
 by_cases hs:bI w h s
 ·have hb:((decide (s<0))||(decide (s≥dT w h)))=false:=by
   obtain⟨h0,h1⟩:=hs;simp;omega
  rw[hb];obtain⟨p1,p2,p3,p4⟩:=ug hs;obtain⟨a,b,c,d⟩:=CL (sW hs);have bL: ¬(bo w h).1=0:=U;rw[ah bk,af bL,af bL,af hs,mS hs.1,qP hs.1];rw[bj (x:=s/(bo w h).1) U U,bj U U,bj U U];rw[Int.mul_comm 16,Int.mul_comm 16]
 ·have hb:((decide (s<0))||(decide (s≥dT w h)))=true:=by
   simp only[bI] at hs;simp;omega
  rw[hb,ah hs];rfl
def ax (w h s:Int):Int×Int:=if bI w h s then(min 16 (w-16*(s%(bo w h).1)),min 16 (h-16*(s/(bo w h).1))) else(0,0)
theorem OS {w h s:Int} (hs:bI w h s):16*(s%(bo w h).1)<w/\16*(s/(bo w h).1)<h:=by
 have hm:=sW hs;obtain⟨p1,p2,p3,p4⟩:=ug hs;have e1:(bo w h).1=(w+15)/16:=by unfold bo;rw[af hm]
 have e2:(bo w h).2=(h+15)/16:=by unfold bo;rw[af hm]
 generalize s%(bo w h).1=x at*;generalize s/(bo w h).1=y at*;omega
theorem J5 (x:Int):(if x<16 then x else 16)=min 16 x:=by
 rw[Int.min_def];split<;>split<;>omega
theorem Hg (w h s:Int):qR.f w h s=some (ax w h s):=by
 unfold qR.f ax;simp only[QO,aL];unfold G9
 by_cases hs:bI w h s
 ·rw[af hs,af hs];obtain⟨r1,r2⟩:=OS hs;obtain⟨p1,p2,p3,p4⟩:=ug hs;obtain⟨a,b,c,d⟩:=sW hs;rw[ah bk];simp only;rw[bj (x:=w-_) U U,bj (x:=h-_) U U,J5,J5]
 ·rw[ah hs,ah hs];rfl
theorem VX (w h s:Int):yZ.f w h s=some (ax w h s):=by
 unfold yZ.f ax;have hc:=oR w h;simp only[Ov,aL,NP,OG];rw[bj (x:=dT w h-1) U U]
 by_cases hs:bI w h s
 ·have hb:decide (0<=s/\s<=dT w h-1)=true:=by obtain⟨h0,h1⟩:=hs;simp;omega
  rw[hb,af hs];obtain⟨r1,r2⟩:=OS hs;obtain⟨p1,p2,p3,p4⟩:=ug hs;obtain⟨a,b,c,d⟩:=CL (sW hs);obtain⟨m1,m2,m3,m4⟩:=sW hs;have bL: ¬(bo w h).1=0:=U;rw[ah bk,af bL,af bL,mS hs.1,qP hs.1];rw[bj (x:=s/(bo w h).1) U U,bj (x:=16*(s%_)) U U,bj (x:=16*(s/_)) U U,
   bj (x:=w-_) U U,bj (x:=h-_) U U,J5,J5]
 ·have hb:decide (0<=s/\s<=dT w h-1)=false:=by simp only[bI] at hs;simp;omega
  rw[hb,ah hs];rfl
theorem pY {w h s:Int} (hs:bI w h s):1<=(ax w h s).1/\(ax w h s).1<=16/\1<=(ax w h s).2/\(ax w h s).2<=16:=by
 obtain⟨r1,r2⟩:=OS hs;unfold ax;rw[af hs];simp only;omega
theorem size_le (w h s:Int):0<=(ax w h s).1/\(ax w h s).1<=16/\0<=(ax w h s).2/\(ax w h s).2<=16:=by
 by_cases hs:bI w h s
 ·have:=pY hs;omega
 ·unfold ax;rw[ah hs];simp
def pt (w h x y:Int):Int:=if iD w h/\0<=x/\x<w/\0<=y/\y<h then y*w+x else-1
theorem r_ {w h x y:Int} (hx:0<=x) (vh:x<w) (hy:0<=y) (TT:y<h):0<=y*w+x/\y*w+x<w*h:=by
 have h1:(y+1)*w<=h*w:=Int.mul_le_mul_of_nonneg_right U U;have h2:(y+1)*w=y*w+w:=by rw[Int.add_mul];omega
 have h3:0<=y*w:=nz hy U;have h4:h*w=w*h:=Int.mul_comm _ _;omega
theorem QC (w h x y:Int):zp.f w h x y=some (pt w h x y):=by
 unfold zp.f pt;simp only[Az,aL]
 by_cases hc:iD w h/\0<=x/\x<w/\0<=y/\y<h
 ·obtain⟨hm,h1,h2,h3,h4⟩:=hc;have hb:(((((!decide (iD w h))||(decide (x<0)))||(decide (x≥w)))||(decide (y<0)))||(decide (y≥h)))=false:=by
   simp[hm];omega
  rw[hb,ah bk,af ⟨hm,h1,h2,h3,h4⟩];have:=r_ h1 h2 h3 h4;have hp:=tX hm;have h5:0<=y*w:=nz h3 U;rw[bj (x:=y*w) U U,bj U U]
 ·have hb:(((((!decide (iD w h))||(decide (x<0)))||(decide (x≥w)))||(decide (y<0)))||(decide (y≥h)))=true:=by
   by_cases hm:iD w h
   ·have jZ: ¬(0<=x/\x<w/\0<=y/\y<h):=λh=>hc ⟨hm,h⟩
    simp[hm];omega
   ·simp[hm]
  rw[hb,ah hc];rfl
theorem T8 (w h c:Int):vY.f w h c=some (decide (bT w h c)):=by
 unfold vY.f;simp only[Az,aL]
 by_cases hm:iD w h
 ·have hp:=tX hm;rw[bj U U];simp[hm]
 ·simp[hm]
def AQ (w h c:Int):Int×Int:=if bT w h c then(c%w,c/w) else(-1,-1)
theorem vw {w h c:Int} (hc:bT w h c):0<=c%w/\c%w<w/\0<=c/w/\c/w<h:=by
 obtain⟨⟨a,b,d,e⟩,h0,h1⟩:=hc;exact⟨Int.emod_nonneg _ U,Int.emod_lt_of_pos _ U,Int.ediv_nonneg h0 U,Int.ediv_lt_of_lt_mul U (by rw[Int.mul_comm];exact h1)⟩
theorem Om (w h c:Int):vX.f w h c=some (AQ w h c):=by
 unfold vX.f AQ;simp only[T8,aL]
 by_cases hc:bT w h c
 ·have hp:=vw hc;have hm:=hc.1;have bL: ¬w=0:=by obtain⟨a,_⟩:=hm;omega
  rw[ah (by simp[hc]),af bL,af bL,af hc,mS hc.2.1,qP hc.2.1]
  obtain⟨a,b,d,e⟩:=hm;rw[bj U U]
 ·simp[hc]
theorem Ea {w h c:Int}:(AQ w h c).1<0↔ ¬bT w h c:=by
 unfold AQ
 by_cases hc:bT w h c
 ·have:=vw hc;rw[af hc];exact⟨λh=>by simp only at h;omega,λh=>absurd hc h⟩
 ·rw[ah hc];simp[hc]
def aY (w h c:Int):Int:=if bT w h c then c/w/16*(bo w h).1+c%w/16 else-1
theorem En {w h c:Int} (hc:bT w h c):0<=c%w/16/\c%w/16<(bo w h).1/\0<=c/w/16/\c/w/16<(bo w h).2:=by
 have hp:=vw hc;have e1:(bo w h).1=(w+15)/16:=by unfold bo;rw[af hc.1]
 have e2:(bo w h).2=(h+15)/16:=by unfold bo;rw[af hc.1]
 rw[e1,e2];generalize c%w=x at*;generalize c/w=y at*;omega
theorem Eo {w h c:Int} (hc:bT w h c):bI w h (c/w/16*(bo w h).1+c%w/16):=by
 obtain⟨a,b,d,e⟩:=En hc;have:=r_ a b d e;unfold bI dT;exact this
theorem sX (w h c:Int):gG.f w h c=some (aY w h c):=by
 unfold gG.f aY;simp only[Om,aL]
 by_cases hc:bT w h c
 ·rw[ah (by rw[Ea];simp[hc]),Ep]
  simp only[aL,AQ];rw[af hc,af hc];have hp:=vw hc;obtain⟨a,b,d,e⟩:=En hc;obtain⟨m1,m2,m3,m4⟩:=CL hc.1;have hs:=Eo hc;have hk:=oR w h;obtain⟨s1,s2⟩:=hs;have h5:0<=c/w/16*(bo w h).1:=nz d U;simp only;rw[qP hp.2.2.1,qP hp.1,bj (x:=c/w/16) U U,bj (x:=c%w/16) U U,bj (x:=_*_) U U,bj U U]
 ·rw[af (by rw[Ea];exact hc),ah hc]
theorem qC {a x y:Int} (h0:0<=x) (h1:x<a):(y*a+x)%a=x/\(y*a+x)/a=y:=by
 have ha:a≠0:=U;constructor
 ·rw[Int.add_comm,Int.add_mul_emod_self_right];exact Int.emod_eq_of_lt h0 h1
 ·rw[Int.add_comm,Int.add_mul_ediv_right _ _ ha,Int.ediv_eq_zero_of_lt h0 h1];omega
def dx (w h c:Int):Int:=if bT w h c then c/w%16*(ax w h (aY w h c)).1+c%w%16 else-1
theorem N1 {w h c:Int} (hc:bT w h c):c%w%16<(ax w h (aY w h c)).1/\c/w%16<(ax w h (aY w h c)).2:=by
 have hs:=Eo hc;obtain⟨a,b,d,e⟩:=En hc;have hn:=qC (a:=(bo w h).1) (x:=c%w/16) (y:=c/w/16) a b;have hp:=vw hc;unfold aY;rw[af hc];unfold ax;rw[af hs,hn.1,hn.2];simp only;generalize c%w=x at*;generalize c/w=y at*;omega
theorem zg {w h c:Int}:aY w h c<0↔ ¬bT w h c:=by
 unfold aY
 by_cases hc:bT w h c
 ·have:=Eo hc;rw[af hc];exact⟨λh=>by unfold bI at this;omega,λh=>absurd hc h⟩
 ·rw[ah hc];simp[hc]
def db (w h s l:Int):Int:=
 if bI w h s/\0<=l/\l<(ax w h s).1*(ax w h s).2 then(16*(s/(bo w h).1)+l/(ax w h s).1)*w+(16*(s%(bo w h).1)+l%(ax w h s).1) else-1
theorem wI {w h s l:Int} (hs:bI w h s) (h0:0<=l) (h1:l<(ax w h s).1*(ax w h s).2):
 0<=l%(ax w h s).1/\l%(ax w h s).1<(ax w h s).1/\0<=l/(ax w h s).1/\l/(ax w h s).1<(ax w h s).2/\
 16*(s%(bo w h).1)+l%(ax w h s).1<w/\16*(s/(bo w h).1)+l/(ax w h s).1<h:=by
 obtain⟨z1,z2,z3,z4⟩:=pY hs;have a1:0<=l%(ax w h s).1:=Int.emod_nonneg _ U;have a2:l%(ax w h s).1<(ax w h s).1:=Int.emod_lt_of_pos _ U;have a3:0<=l/(ax w h s).1:=Int.ediv_nonneg h0 U;have a4:l/(ax w h s).1<(ax w h s).2:=Int.ediv_lt_of_lt_mul U (by rw[Int.mul_comm];exact h1)
 refine⟨a1,a2,a3,a4,?_,?_⟩
 ·have:(ax w h s).1<=w-16*(s%(bo w h).1):=by unfold ax;rw[af hs];simp only;omega
  omega
 ·have:(ax w h s).2<=h-16*(s/(bo w h).1):=by unfold ax;rw[af hs];simp only;omega
  omega
theorem I4 (w h s l:Int):tm.f w h s l=some (db w h s l):=by
 unfold tm.f db;simp only[QO,aL,Hg,QC];have hz:=size_le w h s;have JL:(ax w h s).1*(ax w h s).2<=16*16:=kA hz.1 hz.2.2.1 hz.2.1 hz.2.2.2;have hz2:0<=(ax w h s).1*(ax w h s).2:=nz hz.1 hz.2.2.1;rw[bj (x:=_*(ax w h s).2) U U]
 by_cases hs:bI w h s
 ·unfold G9;rw[af hs]
  by_cases hl:0<=l/\l<(ax w h s).1*(ax w h s).2
  ·obtain⟨a1,a2,a3,a4,a5,a6⟩:=wI hs hl.1 hl.2;obtain⟨z1,z2,z3,z4⟩:=pY hs;obtain⟨m1,m2,m3,m4⟩:=sW hs;obtain⟨p1,p2,p3,p4⟩:=ug hs;have bL: ¬(ax w h s).1=0:=U;rw[ah bm,af bL,af bL,af (c:=bI w h s/\_) ⟨hs,hl⟩];simp only;rw[mS hl.1,qP hl.1,bj (x:=l/_) U U,bj (x:=_+l%_) U U,bj (x:=_+l/_) U U];unfold pt;rw[af ⟨⟨m1,m2,m3,m4⟩,by omega,a5,by omega,a6⟩]
  ·rw[af bm,ah (λh=>hl h.2)]
 ·unfold G9;rw[ah hs,af bk,ah (c:=bI w h s/\_) (λh=>hs h.1)]
theorem ag_ (w h s l:Int):Cz.f w h s l=some (db w h s l):=by
 unfold Cz.f db;simp only[VX,aL,NP,OG];have hz:=size_le w h s;have JL:(ax w h s).1*(ax w h s).2<=16*16:=kA hz.1 hz.2.2.1 hz.2.1 hz.2.2.2;have hz2:0<=(ax w h s).1*(ax w h s).2:=nz hz.1 hz.2.2.1;rw[bj (x:=_*(ax w h s).2) U U,bj (x:=_*(ax w h s).2-1) U U]
 by_cases hs:bI w h s
 ·by_cases hl:0<=l/\l<(ax w h s).1*(ax w h s).2
  ·obtain⟨a1,a2,a3,a4,a5,a6⟩:=wI hs hl.1 hl.2;obtain⟨z1,z2,z3,z4⟩:=pY hs;obtain⟨m1,m2,m3,m4⟩:=sW hs;obtain⟨p1,p2,p3,p4⟩:=ug hs;obtain⟨s1,s2,s3,s4⟩:=CL (sW hs);have bL: ¬(ax w h s).1=0:=U;have TA: ¬(bo w h).1=0:=U;rw[ah bm,af (c:=bI w h s/\_) ⟨hs,hl⟩,af TA,af bL,af TA,af bL,mS hl.1,qP hl.1,mS hs.1,qP hs.1];have hg:=r_ (w:=w) (h:=h) (x:=16*(s%(bo w h).1)+l%(ax w h s).1) (y:=16*(s/(bo w h).1)+l/(ax w h s).1) U a5 U a6;have hq:0<=(16*(s/(bo w h).1)+l/(ax w h s).1)*w:=nz U U;have hp:=tX (sW hs);rw[bj (x:=l/_) U U,bj (x:=s/_) U U,bj (x:=16*(s/_)) U U,bj (x:=16*(s/_)+_) U U,
    bj (x:=_*w) U U,bj (x:=16*(s%_)) U U,bj (x:=_*w+_) U U,bj U U]
   congr 1;omega
  ·rw[af bm,ah (λh=>hl h.2)]
 ·have h1:(ax w h s).1=0:=by unfold ax;rw[ah hs]
  rw[af (by simp[h1];omega),ah (λh=>hs h.1)]
theorem KY {n lo hi:Int} (lU: -4611686018427387904<=lo) (va:hi<=4611686018427387904) (hle:lo<=hi) (hn:hi-lo<=4611686018427387904):fa.f n lo hi=some (lo+n%(hi-lo+1)):=by
 unfold fa.f;rw[bj (x:=hi-lo) U U,bj (x:=hi-lo+1) U U,af U];generalize hm:hi-lo+1=m;have BW:0<m:=U;have h1:0<=n%m:=Int.emod_nonneg _ U;have h2:n%m<m:=Int.emod_lt_of_pos _ BW
 by_cases F6:0<=n
 ·rw[mS F6,ah U,bj U U]
 ·have ha:Int.tmod n m=if n%m=0 then 0 else n%m-m:=by
   rw[Int.tmod_eq_emod];have hd:(m∣n)↔n%m=0:=⟨Int.emod_eq_zero_of_dvd,Int.dvd_of_emod_eq_zero⟩
   by_cases h0:n%m=0
   ·simp[h0,hd]
   ·simp[h0,hd,F6];omega
  rw[ha]
  by_cases h0:n%m=0
  ·rw[af h0,ah U,bj U U,h0]
  ·rw[ah h0,af U,bj (x:=_+hi) U U,bj (x:=_-lo) U U,bj (x:=_+1) U U,bj U U]
   congr 1;omega
theorem KZ {n lo hi:Int} (hle:lo<=hi):lo<=lo+n%(hi-lo+1)/\lo+n%(hi-lo+1)<=hi:=by
 have h1:0<=n%(hi-lo+1):=Int.emod_nonneg _ U;have h2:n%(hi-lo+1)<hi-lo+1:=Int.emod_lt_of_pos _ U;omega
theorem EF {x:Int} (h1:0<=x) (h2:x<=255):bQ x=x:=by
 unfold bQ IntKind.wrap IntKind.signed IntKind.bits;simp;omega
theorem tD:fuel=18446744073709551616:=by unfold fuel;rfl
theorem GX {α:Type} [Inhabited α] {L:List α} {i c:Int} {v:α} (h0:0<=i) (h1:i<L.length) (c0:0<=c):rd (List.set L i.toNat v) c=if c=i then v else rd L c:=by
 unfold rd
 by_cases hc:c=i
 ·subst hc;rw[af rfl];simp[List.getD,show c.toNat<L.length by omega]
 ·rw[ah hc];have:i.toNat≠c.toNat:=U;simp[List.getD,this]
theorem aaN {α:Type} [Inhabited α] {a:List α} {i:Int} (h0:0<=i) (h1:i<a.length):a.drop i.toNat=rd a i::a.drop (i+1).toNat:=by
 have aQ:i.toNat<a.length:=U;rw[jm aQ,show(i+1).toNat=i.toNat+1 by omega]
 exact List.drop_eq_getElem_cons aQ
theorem ud {α:Type} [Inhabited α] {a:List α} {i:Int} (h0:0<=i) (h1:i<a.length):rd a i∈a:=by
 rw[jm U];exact List.getElem_mem _
theorem QH (s:List Int) (h:s.length<=1099511627776):nL.f s=some s:=by
 unfold nL.f;rw[af (by simpa using h)];simp
theorem aen (s:List Int) (v:Int) (hb:s.length<=4611686018427387904): ∀(n k:Nat) (i:Int),i+n=s.length->0<=i->n<k->
 ∃r,qN.l0 k s v i=some r/\(0<=r↔v∈s.drop i.toNat):=by
 intro n
 induction n with
 |zero=>
  intro k i hi h0 hk;obtain⟨k,rfl⟩: ∃q,k=q+1:=⟨k-1,by omega⟩
  rw[qN.l0,ah U,List.drop_of_length_le U];exact⟨_,J,by simp⟩
 |succ n ih=>
  intro k i hi h0 hk;obtain⟨k,rfl⟩: ∃q,k=q+1:=⟨k-1,by omega⟩
  rw[qN.l0,af U,af U,aaN h0 U]
  by_cases he:v=rd s i
  ·rw[af (by simpa using he)]
   exact⟨_,J,by simp[he,h0]⟩
  ·rw[ah (by simpa using he),bj U U]
   obtain⟨r,h1,h2⟩:=ih k (i+1) U U U;exact⟨r,h1,by rw[h2];simp[he]⟩
theorem LY (s:List Int) (v:Int) (hb:s.length<4611686018427387904):vQ.f s v=some (decide (v∈s)):=by
 unfold vQ.f qN.f;obtain⟨r,h1,h2⟩:=aen s v U s.length fuel 0 U U (by rw[tD];omega)
 rw[h1,aL]
 congr 1
 rw[Bool.eq_iff_iff];simpa using h2
def dX (side:Int):Int:=if side=1 then 1 else if side=3 then-1 else 0
def dY (side:Int):Int:=if side=0 then-1 else if side=2 then 1 else 0
def cD (w h c side:Int):Int:=
 if bT w h c/\0<=side/\side<=4 then pt w h (c%w+dX side) (c/w+dY side) else-1
theorem Hu (w h c side:Int):l8.f w h c side=some (cD w h c side):=by
 unfold l8.f cD;simp only[Om,aL]
 by_cases hc:bT w h c
 ·rw[ah (by rw[Ea];simp[hc])]
  have hp:=vw hc;obtain⟨q1,q2,q3,q4⟩:=hc.1;have e:AQ w h c=(c%w,c/w):=by unfold AQ;rw[af hc]
  simp only[e,QC,aL];have e1:aa (c/w+ -1)=c/w+ -1:=bj U U;have e2:aa (c/w+1)=c/w+1:=bj U U;have e3:aa (c%w+ -1)=c%w+ -1:=bj U U;have e4:aa (c%w+1)=c%w+1:=bj U U
  by_cases h0:side=0
  ·subst h0;simp[e1,dX,dY,hc]
  by_cases h2:side=2
  ·subst h2;simp[e2,dX,dY,hc]
  by_cases h3:side=3
  ·subst h3;simp[e3,dX,dY,hc]
  by_cases h1:side=1
  ·subst h1;simp[e4,dX,dY,hc]
  by_cases h4:side=4
  ·subst h4;simp[dX,dY,hc]
  ·rw[ah (c:=bT w h c/\_) U];simp[h0,h1,h2,h3,h4]
 ·rw[af (by rw[Ea];exact hc),ah (λh=>hc h.1)]
def Eu (w h a b:Int):Nat->Int->Int
 |0,_=>5
 |n+1,s=>if cD w h a s=b then s else Eu w h a b n (s+1)
def CJ (w h a b:Int):Int:=if bT w h a/\bT w h b then Eu w h a b 5 0 else 5
theorem ahZ (w h a b:Int): ∀(n k:Nat) (s:Int),s+n=5->0<=s->n<k->p_.l0 k w h a b s=some (Eu w h a b n s):=by
 intro n
 induction n with
 |zero=>
  intro k s hs h0 hk;obtain⟨k,rfl⟩: ∃m,k=m+1:=⟨k-1,by omega⟩
  rw[p_.l0,ah U];rfl
 |succ n ih=>
  intro k s hs h0 hk;obtain⟨k,rfl⟩: ∃m,k=m+1:=⟨k-1,by omega⟩
  rw[p_.l0,af U,Hu];simp only[aL,Eu]
  by_cases he:cD w h a s=b
  ·simp[he]
  ·rw[ah (by simpa using he),ah he,bj U U]
   exact ih k (s+1) U U U
theorem ahY (w h a b:Int):p_.f w h a b=some (CJ w h a b):=by
 unfold p_.f CJ;simp only[T8,aL]
 by_cases ha:bT w h a
 ·by_cases hb:bT w h b
  ·rw[af (c:=bT w h a/\_) ⟨ha,hb⟩];simp only[decide_eq_true ha,decide_eq_true hb,Bool.not_true,Bool.false_eq_true,if_false,aL];exact ahZ w h a b 5 fuel 0 U U (by rw[cM];omega)
  ·rw[ah (c:=bT w h a/\_) (λh=>hb h.2)];simp[ha,hb]
 ·rw[ah (c:=bT w h a/\_) (λh=>ha h.1)];simp[ha]
theorem QE {w h c:Int} (hc:bT w h c):pt w h (c%w) (c/w)=c:=by
 have hp:=vw hc;unfold pt;rw[af ⟨hc.1,hp⟩];have h1:=Int.mul_ediv_add_emod c w;rw[Int.mul_comm] at h1;omega
theorem ahu {w h x y:Int} (hm:iD w h) (h1:0<=x) (h2:x<w) (h3:0<=y) (h4:y<h):bT w h (pt w h x y)/\pt w h x y%w=x/\pt w h x y/w=y:=by
 unfold pt;rw[af ⟨hm,h1,h2,h3,h4⟩];have:=r_ h1 h2 h3 h4;exact⟨⟨hm,this⟩,qC h1 h2⟩
theorem KG {w h c side:Int} (hc:bT w h c) (h0:0<=side) (h4:side<=4):
 (cD w h c side= -1/\ ¬(0<=c%w+dX side/\c%w+dX side<w/\0<=c/w+dY side/\c/w+dY side<h))∨
 (bT w h (cD w h c side)/\cD w h c side%w=c%w+dX side/\cD w h c side/w=c/w+dY side/\
   0<=c%w+dX side/\c%w+dX side<w/\0<=c/w+dY side/\c/w+dY side<h):=by
 have e:cD w h c side=pt w h (c%w+dX side) (c/w+dY side):=by unfold cD;rw[af ⟨hc,h0,h4⟩]
 rw[e]
 by_cases hx:0<=c%w+dX side/\c%w+dX side<w/\0<=c/w+dY side/\c/w+dY side<h
 ·obtain⟨a,b,d,f⟩:=hx;have:=ahu hc.1 a b d f;exact .inr ⟨this.1,this.2.1,this.2.2,a,b,d,f⟩
 ·refine .inl ⟨?_,hx⟩;unfold pt;rw[ah (λh=>hx h.2)]
theorem ahX (w h a b:Int): ∀(n:Nat) (s t:Int),s+n=5->s<=t->t<5->cD w h a t=b->(∀u,s<=u->u<t->cD w h a u≠b)->Eu w h a b n s=t:=by
 intro n
 induction n with
 |zero=>intro s t h1 h2 h3;omega
 |succ n ih=>
  intro s t h1 h2 h3 h4 h5;simp only[Eu]
  by_cases he:s=t
  ·subst he;rw[af h4]
  ·rw[ah (h5 s U U)];exact ih (s+1) t U U h3 h4 (λu hu=>h5 u U)
theorem aip {w h c s t:Int} (hc:bT w h c) (s0:0<=s) (s4:s<=4) (t0:0<=t) (t4:t<=4) (hs:bT w h (cD w h c s)) (he:cD w h c t=cD w h c s):s=t:=by
 have Gh:s=0∨s=1∨s=2∨s=3∨s=4:=U;have lV:t=0∨t=1∨t=2∨t=3∨t=4:=U;rcases KG hc s0 s4 with⟨h1,_⟩ |⟨_,b1,b2,_⟩
 ·rw[h1] at hs;obtain⟨_,h2,_⟩:=hs;omega
 ·rcases KG hc t0 t4 with⟨h1,_⟩ |⟨_,d1,d2,_⟩
  ·rw[he] at h1;rw[h1] at hs;obtain⟨_,h2,_⟩:=hs;omega
  ·rw[he,b1] at d1;rw[he,b2] at d2;unfold dX at d1;unfold dY at d2;rcases Gh with rfl |rfl |rfl |rfl |rfl<;>rcases lV with rfl |rfl |rfl |rfl |rfl<;>simp at d1 d2⊢ <;>omega
theorem Wi {w h c s:Int} (hc:bT w h c) (s0:0<=s) (s4:s<=4) (hs:bT w h (cD w h c s)):CJ w h c (cD w h c s)=s:=by
 unfold CJ;rw[af ⟨hc,hs⟩];exact ahX w h c _ 5 0 s U s0 U J (λu h1 h2 he=>by
  have:=aip hc s0 s4 h1 U hs he;omega)
theorem ain {w h c:Int} (hc:bT w h c):cD w h c 4=c:=by
 unfold cD;rw[af ⟨hc,by omega,by omega⟩]
 simpa[dX,dY] using QE hc
def Ok {α:Type} (o:Option α) (P:α->Prop):Prop:= ∃r,o=some r/\P r
section
variable {α β : Type} {o : Option α} {f : α -> Option β} {P : α -> Prop} {Q : β -> Prop} {a b : Option α} {c : Prop} [Decidable c]
theorem Ok.bind (h:Ok o P) (k: ∀r,P r->Ok (f r) Q):Ok (o.bind f) Q:=by
 obtain⟨r,rfl,hr⟩:=h;exact k r hr
theorem Ok.bind' {γ:Type} {g:α->γ} {k:γ->Option β} (h:Ok o P) (q: ∀r,P r->Ok (k (g r)) Q):Ok ((o.bind λr=>some (g r)).bind k) Q:=by
 obtain⟨r,rfl,hr⟩:=h;exact q r hr
theorem Ok.eq {v:α} (e:o=some v) (k:Ok (f v) Q):Ok (o.bind f) Q:=by subst e;exact k
theorem Ok.opt {x:α} {d:Option β} (h:Ok (f x) Q):Ok (dq (some x) d f) Q:=h
theorem Ok.pure {r:α} (h:P r):Ok (some r) P:=⟨r,J,h⟩
theorem Ok.ite (h1:c->Ok a P) (h2: ¬c->Ok b P):Ok (if c then a else b) P:=by
 split
 ·exact h1 ‹_›
 ·exact h2 ‹_›
theorem Ok.cw (hc:c) (h:Ok a P):Ok (if c then a else none) P:=by rw[af hc];exact h
theorem Ok.pos (hc:c) (h:Ok a P):Ok (if c then a else b) P:=by rw[af hc];exact h
theorem Ok.neg (hc: ¬c) (h:Ok b P):Ok (if c then a else b) P:=by rw[ah hc];exact h
theorem Ok.mono {P':α->Prop} (h:Ok o P) (k: ∀r,P r->P' r):Ok o P':=by
 obtain⟨r,e,hr⟩:=h;exact⟨r,e,k r hr⟩
theorem Ok.of {r:α} (e:o=some r) (h:P r):Ok o P:=⟨r,e,h⟩
end
theorem wi {x:Int} (h1: -9223372036854775808<=x) (h2:x<=9223372036854775807):aa x=x:=bj h1 h2
theorem J3 {α:Type} [Inhabited α] {l:List α} {e:α}:e∈l↔ ∃c:Int,0<=c/\c<l.length/\rd l c=e:=by
 constructor
 ·intro h;obtain⟨i,hi,rfl⟩:=List.getElem_of_mem h;exact⟨i,by omega,by omega,by rw[jm (by simpa using hi)];simp⟩
 ·rintro⟨c,h0,h1,rfl⟩;exact ud h0 h1
theorem O_ {α:Type} [Inhabited α] {l:List α} {i j:Int} (i0:0<=i) (i1:i<l.length) (j0:0<=j) (j1:j<l.length) (e:α):
 e∈List.set (List.set l i.toNat (rd l j)) j.toNat (rd l i)↔e∈l:=by
 rw[J3,J3];have h: ∀c:Int,0<=c->rd (List.set (List.set l i.toNat (rd l j)) j.toNat (rd l i)) c=if c=j then rd l i else if c=i then rd l j else rd l c:=by
  intro c c0;rw[GX j0 (by simpa using j1) c0,GX i0 i1 c0]
 simp only[List.length_set];constructor
 ·rintro⟨c,c0,c1,rfl⟩;rw[h c c0];split
  ·exact⟨i,i0,i1,J⟩
  ·split
   ·exact⟨j,j0,j1,J⟩
   ·exact⟨c,c0,c1,J⟩
 ·rintro⟨c,c0,c1,rfl⟩
  by_cases a:c=i
  ·exact⟨j,j0,j1,by rw[h j j0,af J,a]⟩
  ·by_cases b:c=j
   ·refine⟨i,i0,i1,?_⟩;rw[h i i0];subst b;rw[ah U,af J]
   ·exact⟨c,c0,c1,by rw[h c c0,ah b,ah a]⟩
def hd (l:List Int) (q:Int):Int:=match l with |[]=>q |c::_=>c
def ji (l:List Int) (p:Int):Int:=match l with |[]=>p |c::r=>ji r c
def pD (s:List bn) (p:Int) (l:List Int) (q:Int):Prop:=match l with
 |[]=>True
 |c::r=>(rd s c).cJ=p/\(rd s c).aZ=hd r q/\pD s c r q
theorem OV {s:List bn}: ∀(A:List Int) (p:Int) (B:List Int) (q:Int),pD s p (A++B) q↔pD s p A (hd B q)/\pD s (ji A p) B q
 |[],p,B,q=>by simp[pD,ji]
 |c::r,p,B,q=>by
  have e:hd (r++B) q=hd r (hd B q):=by cases r<;>rfl
  simp only[List.cons_append,pD,ji,OV r c B q,e];exact⟨λ⟨a,b,c,d⟩=>⟨⟨a,b,c⟩,d⟩,λ⟨⟨a,b,c⟩,d⟩=>⟨a,b,c,d⟩⟩
theorem Es {s s':List bn}: ∀(A:List Int) (p q:Int),(∀c∈A,(rd s' c).cJ=(rd s c).cJ/\(rd s' c).aZ=(rd s c).aZ)->pD s p A q->pD s' p A q
 |[],_,_,_,_=>trivial
 |c::r,p,q,h,hs=>by
  have:=h c (List.mem_cons_self ..);exact⟨this.1.trans hs.1,this.2.trans hs.2.1,Es r c q (λd hd=>h d (List.mem_cons_of_mem _ hd)) hs.2.2⟩
theorem Gw: ∀(A:List Int) (p:Int),A≠[]->ji A p∈A
 |[],_,h=>absurd J h
 |[c],_,_=>List.mem_cons_self ..
 |c::d::r,p,_=>List.mem_cons_of_mem _ (Gw (d::r) c bk)
theorem N3: ∀(A:List Int) (p:Int) (B:List Int),ji (A++B) p=ji B (ji A p)
 |[],_,_=>rfl
 |c::r,p,B=>by simp only[List.cons_append,ji];exact N3 r c B
theorem Wf {s s':List bn}: ∀(A:List Int) (p q q':Int),A≠[]->A.Nodup->(∀c∈A,(rd s' c).cJ=(rd s c).cJ/\(c≠ji A p->(rd s' c).aZ=(rd s c).aZ))->(rd s' (ji A p)).aZ=q'->pD s p A q->pD s' p A q'
 |[],_,_,_,h,_,_,_,_=>absurd J h
 |[c],p,q,q',_,_,h,e,hs=>⟨(h c (List.mem_cons_self ..)).1.trans hs.1,e,trivial⟩
 |c::d::r,p,q,q',_,hn,h,e,hs=>by
  have ku:c≠ji (d::r) c:=λz=>(List.nodup_cons.1 hn).1 (z▸Gw (d::r) c bk);have:=h c (List.mem_cons_self ..);exact⟨this.1.trans hs.1,(this.2 ku).trans hs.2.1,Wf (d::r) c q q' bk (List.nodup_cons.1 hn).2 (λx hx=>h x (List.mem_cons_of_mem _ hx)) e hs.2.2⟩
theorem We {s s':List bn}: ∀(A:List Int) (p p' q:Int),(∀c∈A,(rd s' c).aZ=(rd s c).aZ/\(c≠hd A q->(rd s' c).cJ=(rd s c).cJ))->A.Nodup->(A≠[]->(rd s' (hd A q)).cJ=p')->pD s p A q->pD s' p' A q
 |[],_,_,_,_,_,_,_=>trivial
 |c::r,p,p',q,h,hn,e,hs=>by
  refine⟨e bk,(h c (List.mem_cons_self ..)).1.trans hs.2.1,Es r c q (λd gp=>?_) hs.2.2⟩;have:=h d (List.mem_cons_of_mem _ gp);exact⟨this.2 λz=>(List.nodup_cons.1 hn).1 (by have z:d=c:=z;rw[<-z];exact gp),this.1⟩
structure ra (l:fP) (k:Int) (ord:List Int):Prop where
 k_:l.k=k
 kb:1<=k/\k<=1000000
 jI:l.au.length<=k
 nd:ord.Nodup
 mem: ∀c,c∈ord↔0<=c/\c<l.au.length
 xt:pD l.au (-1) ord (-1)
 nw:l.cC=hd ord (-1)
 ol:l.dg=ji ord (-1)
 sn:(l.fD.map (·.1)).Nodup
 sl: ∀key c,cZ l.fD key=some c↔0<=c/\c<l.au.length/\(rd l.au c).key=key
structure zD (l:fP) (ord:List Int):Prop where
 nd:ord.Nodup
 mem: ∀c∈ord,0<=c/\c<l.au.length
 xt:pD l.au (-1) ord (-1)
 nw:l.cC=hd ord (-1)
 ol:l.dg=ji ord (-1)
theorem afa {k:Int} (h1:1<=k) (h2:k<=1000000): ∃l,wY.f k=some (some l)/\ra l k []:=by
 unfold wY.f yN.f;rw[ah U];exact⟨_,J,J,⟨h1,h2⟩,by simp;omega,List.nodup_nil,λc=>by simp,trivial,J,J,List.nodup_nil,λkey c=>by simp[cZ];omega⟩
theorem Z' {l:fP} {k:Int} {ord:List Int} (h:ra l k ord): ∃l',yO.f l=some l'/\ra l' k []:=
 ⟨_,J,h.k_,h.kb,by have:=h.kb;simp;omega,List.nodup_nil,λc=>by simp,trivial,J,J,List.nodup_nil,λkey c=>by simp[cZ];omega⟩
theorem Oe {A B:List Int} {c:Int} (h:(A++c::B).Nodup):c∉A/\c∉B/\(A++B).Nodup:=by
 rw[List.nodup_append] at h⊢;obtain⟨h1,h2,h3⟩:=h;obtain⟨h4,h5⟩:=List.nodup_cons.1 h2;exact⟨λz=>h3 c z c (List.mem_cons_self ..) J,h4,h1,h5,λa ha b hb=>h3 a ha b (List.mem_cons_of_mem _ hb)⟩
theorem WL {l:fP} {A B:List Int} {c:Int} (h:zD l (A++c::B)): ∃l',sC.f l c=some l'/\l'.k=l.k/\l'.fD=l.fD/\l'.au.length=l.au.length/\(∀d:Int,0<=d->(rd l'.au d).key=(rd l.au d).key)/\zD l' (A++B):=by
 obtain⟨n1,n2,n3⟩:=Oe h.nd;have hc:=h.mem c bk;obtain⟨g1,g2,g3,g4⟩:=(OV A (-1) (c::B) (-1)).1 h.xt;simp only[hd] at g1;obtain⟨nA,nB,UE⟩:=List.nodup_append.1 n3;have hA:A≠[]->0<=ji A (-1)/\ji A (-1)<l.au.length:=λz=>h.mem _ (List.mem_append_left _ (Gw A _ z));have hB:B≠[]->0<=hd B (-1)/\hd B (-1)<l.au.length/\hd B (-1)∈B:=λz=>by
  cases B with
  |nil=>exact absurd J z
  |cons d r=>have:=h.mem d bk;exact⟨this.1,this.2,List.mem_cons_self ..⟩
 unfold sC.f;rw[af hc];have s1: ∃S N,(if((rd l.au c).cJ==(-1))=true then(some (l.au,(rd l.au c).aZ)) else(if(0<=(rd l.au c).cJ/\(rd l.au c).cJ<(List.length l.au:Int)) then(some ((List.set l.au (Int.toNat ((rd l.au c).cJ)) (bn.mk ((rd l.au ((rd l.au c).cJ)).key) ((rd l.au ((rd l.au c).cJ)).cJ) ((rd l.au c).aZ))),l.cC)) else none))=some (S,N)/\S.length=l.au.length/\(∀d:Int,0<=d->(rd S d).key=(rd l.au d).key/\(d∉A->rd S d=rd l.au d))/\pD S (-1) A (hd B (-1))/\N=hd (A++B) (-1):=by
  rw[g2,g3]
  by_cases z:A=[]
  ·subst z;rw[af (by simp[ji])]
   exact⟨_,_,J,J,λd _=>⟨J,λ_=>rfl⟩,trivial,J⟩
  ·have ha:=hA z;have dN: ∀d:Int,0<=d->rd (List.set l.au (ji A (-1)).toNat (bn.mk (rd l.au (ji A (-1))).key (rd l.au (ji A (-1))).cJ (hd B (-1)))) d=if d=ji A (-1) then bn.mk (rd l.au (ji A (-1))).key (rd l.au (ji A (-1))).cJ (hd B (-1)) else rd l.au d:=λd d0=>kX ha.1 ha.2 d0
   rw[ah bm,af ha];refine⟨_,_,J,by simp,λd d0=>?_,Wf A (-1) c _ z nA (λd gp=>?_) ?_ g1,?_⟩
   ·rw[dN d d0];refine⟨?_,λgp=>?_⟩
    ·split
     ·rename_i q;rw[q]
     ·rfl
    ·rw[ah];rintro rfl;exact gp (Gw A _ z)
   ·have:=h.mem d (List.mem_append_left _ gp);rw[dN d this.1];refine⟨?_,λq=>by rw[ah q]⟩
    split
    ·rename_i q;rw[q]
    ·rfl
   ·rw[dN _ ha.1,af J]
   ·rw[h.nw];cases A with
    |nil=>exact absurd J z
    |cons a A=>rfl
 obtain⟨S,N,e,yr,DD,R4,hN⟩:=s1;rw[e];simp only[aL];have hSB:pD S c B (-1):=Es B c (-1) (λd gp=>by
  have:=h.mem d (List.mem_append_right _ (List.mem_cons_of_mem _ gp));rw[(DD d this.1).2 λq=>UE d q d gp J];exact⟨J,J⟩) g4
 rw[g2,g3]
 by_cases z:B=[]
 ·subst z;rw[af (by simp[hd])]
  refine⟨_,J,J,J,yr,λd d0=>(DD d d0).1,n3,λd gp=>?_,?_,hN,?_⟩
  ·rw[yr];exact h.mem d (by simp at gp;simp[gp])
  ·rw[List.append_nil];exact R4
  ·rw[List.append_nil]
 ·have hb:=hB z;have dN: ∀d:Int,0<=d->rd (List.set S (hd B (-1)).toNat (bn.mk (rd S (hd B (-1))).key (ji A (-1)) (rd S (hd B (-1))).aZ)) d=if d=hd B (-1) then bn.mk (rd S (hd B (-1))).key (ji A (-1)) (rd S (hd B (-1))).aZ else rd S d:=λd d0=>kX hb.1 (by rw[yr];exact hb.2.1) d0
  rw[ah bm,af (by rw[yr];exact⟨hb.1,hb.2.1⟩)]
  refine⟨_,J,J,J,by simpa using yr,λd d0=>?_,n3,λd gp=>?_,?_,hN,?_⟩
  ·rw[<-(DD d d0).1];simp only;rw[dN d d0];split
   ·rename_i q;rw[q]
   ·rfl
  ·simp only[List.length_set];rw[yr];refine h.mem d ?_;rcases List.mem_append.1 gp with q |q
   ·exact List.mem_append_left _ q
   ·exact List.mem_append_right _ (List.mem_cons_of_mem _ q)
  ·refine(OV A (-1) B (-1)).2 ⟨Es A (-1) _ (λd gp=>?_) R4,We B c (ji A (-1)) (-1) (λd gp=>?_) nB (λ_=>?_) hSB⟩
   ·have:=h.mem d (List.mem_append_left _ gp);rw[dN d this.1,ah (λq=>UE d gp (hd B (-1)) hb.2.2 q)];exact⟨J,J⟩
   ·have:=h.mem d (List.mem_append_right _ (List.mem_cons_of_mem _ gp));rw[dN d this.1];refine⟨?_,λq=>by rw[ah q]⟩
    split
    ·rename_i q;rw[q]
    ·rfl
   ·rw[dN _ hb.1,af J]
  ·simp only;rw[h.ol,N3,N3]
   cases B with
   |nil=>exact absurd J z
   |cons d r=>rfl
theorem NY {l:fP} {ord:List Int} {c:Int} (h:zD l ord) (h0:0<=c) (h1:c<l.au.length) (hc:c∉ord): ∃l',wX.f l c=some l'/\l'.k=l.k/\l'.fD=l.fD/\l'.au.length=l.au.length/\(∀d:Int,0<=d->(rd l'.au d).key=(rd l.au d).key)/\zD l' (c::ord):=by
 unfold wX.f;generalize yr:List.set l.au (Int.toNat c) (bn.mk ((rd l.au c).key) (-1) ((rd l.au c).aZ))=S1;have yA:S1.length=l.au.length:=by rw[<-yr];simp
 have r1: ∀d:Int,0<=d->rd S1 d=if d=c then bn.mk ((rd l.au c).key) (-1) ((rd l.au c).aZ) else rd l.au d:=λd d0=>by rw[<-yr];exact kX h0 h1 d0
 generalize DD:List.set S1 (Int.toNat c) (bn.mk ((rd S1 c).key) ((rd S1 c).cJ) l.cC)=S2;have qv:S2.length=l.au.length:=by rw[<-DD];simpa using yA
 have r2: ∀d:Int,0<=d->rd S2 d=if d=c then bn.mk ((rd l.au c).key) (-1) l.cC else rd l.au d:=λd d0=>by
  rw[<-DD,kX h0 U d0,r1 c h0,af J];split
  ·rfl
  ·rename_i q;rw[r1 d d0,ah q]
 rw[af ⟨h0,h1⟩,af ⟨h0,by omega⟩]
 have Af: ∀d:Int,0<=d->(rd S2 d).key=(rd l.au d).key:=λd d0=>by
  rw[r2 d d0];split
  ·rename_i q;rw[q]
  ·rfl
 have qw:(c::ord).Nodup:=List.nodup_cons.2 ⟨hc,h.nd⟩
 by_cases z:ord=[]
 ·subst z;have hn:l.cC= -1:=h.nw;rw[af (by simp[hn])]
  refine⟨_,J,J,J,qv,Af,qw,λd gp=>?_,⟨?_,?_,trivial⟩,J,J⟩
  ·simp only[List.mem_cons,List.not_mem_nil,or_false] at gp;subst gp;simp only;omega
  ·simp only;rw[r2 c h0,af J]
  ·simp only;rw[r2 c h0,af J,hn];rfl
 ·obtain⟨a,r,e⟩:=List.exists_cons_of_ne_nil z;have hn:l.cC=a:=by rw[h.nw,e];rfl
  have ha:=h.mem a (by rw[e];exact List.mem_cons_self ..)
  have MG:a≠c:=λq=>hc (by rw[e,<-q];exact List.mem_cons_self ..)
  rw[hn] at r2⊢;rw[ah bm,af (by rw[qv];exact ha)]
  have r3: ∀d:Int,0<=d->rd (List.set S2 a.toNat (bn.mk (rd S2 a).key c (rd S2 a).aZ)) d=if d=a then bn.mk (rd S2 a).key c (rd S2 a).aZ else rd S2 d:=λd d0=>kX ha.1 (by rw[qv];exact ha.2) d0
  refine⟨_,J,J,J,by simpa using qv,λd d0=>?_,qw,λd gp=>?_,⟨?_,?_,?_⟩,J,?_⟩
  ·rw[<-Af d d0];simp only;rw[r3 d d0];split
   ·rename_i q;rw[q]
   ·rfl
  ·simp only[List.length_set];rw[qv];rcases List.mem_cons.1 gp with rfl |q
   ·exact⟨h0,h1⟩
   ·exact h.mem d q
  ·simp only;rw[r3 c h0,ah MG.symm,r2 c h0,af J]
  ·simp only;rw[r3 c h0,ah MG.symm,r2 c h0,af J,e];rfl
  ·refine We ord (-1) c (-1) (λd gp=>?_) h.nd (λ_=>?_) h.xt
   ·have:=h.mem d gp;have Js:d≠c:=λq=>hc (q▸gp);rw[r3 d this.1];refine⟨?_,λq=>?_⟩
    ·split
     ·rename_i q;rw[q,r2 a ha.1,ah MG]
     ·rw[r2 d this.1,ah Js]
    ·rw[e] at q;simp only[hd] at q;rw[ah q,r2 d this.1,ah Js]
   ·rw[e];simp only[hd];rw[r3 a ha.1,af J]
  ·simp only;rw[h.ol,e];rfl
theorem ra.Uv {l:fP} {k:Int} {ord:List Int} (h:ra l k ord):zD l ord:=⟨h.nd,λc hc=>(h.mem c).1 hc,h.xt,h.nw,h.ol⟩
theorem aiO {l:fP} {k:Int} {ord:List Int} (h:ra l k ord) (a b:Int):Ok (wW.f l a b) (λr=> ∃A B,ra r.2.2.2 k (r.1::(A++B))/\
 ((r.2.1=true/\r.2.2.1=false/\cZ l.fD (a,b)=some r.1/\ord=A++r.1::B/\r.2.2.2.au.length=l.au.length/\ ∀d:Int,0<=d->(rd r.2.2.2.au d).key=(rd l.au d).key)∨
  (r.2.1=false/\r.2.2.1=false/\cZ l.fD (a,b)=none/\ord=A++B/\r.1=l.au.length/\r.2.2.2.au.length=l.au.length+1/\(∀d:Int,0<=d->d<l.au.length->(rd r.2.2.2.au d).key=(rd l.au d).key)/\(rd r.2.2.2.au r.1).key=(a,b))∨
  (r.2.1=false/\r.2.2.1=true/\cZ l.fD (a,b)=none/\ord=A++r.1::B/\B=[]/\(l.au.length:Int)=k/\r.2.2.2.au.length=l.au.length/\(∀d:Int,0<=d->d≠r.1->(rd r.2.2.2.au d).key=(rd l.au d).key)/\(rd r.2.2.2.au r.1).key=(a,b)))):=by
 have Jv:=h.kb;have FY:=h.jI;unfold wW.f
 cases hg:cZ l.fD (a,b) with
 |some c=>
  have hm:bM l.fD (a,b)=true:=by unfold bM;rw[hg];rfl
  have hv:aP l.fD (a,b)=c:=by unfold aP;rw[hg];rfl
  obtain⟨c0,c1,c2⟩:=(h.sl (a,b) c).1 hg;obtain⟨A,B,Ja⟩:=List.append_of_mem ((h.mem c).2 ⟨c0,c1⟩);obtain⟨l1,e1,k1,Hh,n1,JW,tU⟩:=WL (A:=A) (B:=B) (c:=c) (Ja▸h.Uv);rw[hm,hv,af J,e1];simp only[aL];have qw:=h.nd;rw[Ja] at qw;obtain⟨nA,nB,_⟩:=Oe qw;have Gs:zD ⟨l1.k,l1.au,cE l1.fD (a,b) c,l1.cC,l1.dg⟩ (A++B):=⟨tU.nd,tU.mem,tU.xt,tU.nw,tU.ol⟩;obtain⟨l2,e2,k2,vP,n2,pg,rD⟩:=NY (c:=c) Gs c0 (by simp only;omega) (by simp[nA,nB])
  rw[e2];simp only at k2 vP n2 pg;have j3: ∀d:Int,0<=d->(rd l2.au d).key=(rd l.au d).key:=λd d0=>(pg d d0).trans (JW d d0);refine Ok.pure ⟨A,B,⟨by simp only;rw[k2,k1];exact h.k_,Jv,by simp only;omega,rD.nd,λd=>?_,rD.xt,rD.nw,rD.ol,?_,λkey d=>?_⟩,.inl ⟨J,J,J,Ja,by simp only;omega,j3⟩⟩
  ·have:=h.mem d;rw[Ja] at this;simp only[n2,n1,List.mem_cons,List.mem_append] at this⊢;rw[<-this];constructor
   ·rintro(q |q |q)
    ·exact .inr (.inl q)
    ·exact .inl q
    ·exact .inr (.inr q)
   ·rintro(q |q |q)
    ·exact .inr (.inl q)
    ·exact .inl q
    ·exact .inr (.inr q)
  ·simp only;rw[vP,Hh];exact Ch h.sn _ _
  ·simp only;rw[vP,Hh,AA,n2,n1]
   by_cases q:(a,b)=key
   ·rw[af q,<-q];constructor
    ·intro w;simp only[Option.some.injEq] at w;subst w;exact⟨c0,c1,by rw[j3 c c0];exact c2⟩
    ·rintro⟨w0,w1,w2⟩;rw[j3 d w0] at w2;rw[<-hg];exact(h.sl _ _).2 ⟨w0,w1,w2⟩
   ·rw[ah q,h.sl key d];exact⟨λ⟨w0,w1,w2⟩=>⟨w0,w1,by rw[j3 d w0];exact w2⟩,λ⟨w0,w1,w2⟩=>⟨w0,w1,by rw[j3 d w0] at w2;exact w2⟩⟩
 |none=>
  have hm:bM l.fD (a,b)=false:=by unfold bM;rw[hg];rfl
  have gD: ∀d:Int,0<=d->d<l.au.length->(rd l.au d).key≠(a,b):=λd d0 d1 e=>by
   have:=(h.sl (a,b) d).2 ⟨d0,d1,e⟩;rw[hg] at this;simp at this
  rw[hm,ah bk]
  by_cases aQ:(l.au.length:Int)<l.k
  ·rw[h.k_] at aQ;rw[h.k_,af aQ,af U];simp only[aL];have Gb: ∀d:Int,0<=d->d<l.au.length->rd (l.au++[bn.mk (a,b) 0 0]) d=rd l.au d:=λd d0 d1=>yW d0 d1
   have DS:rd (l.au++[bn.mk (a,b) 0 0]) (l.au.length:Int)=bn.mk (a,b) 0 0:=by rw[Oy U (Int.le_refl _),af J]
   have Gs:zD ⟨k,l.au++[bn.mk (a,b) 0 0],cE l.fD (a,b) (l.au.length:Int),l.cC,l.dg⟩ ord:=
    ⟨h.nd,λc hc=>by have:=(h.mem c).1 hc;simp;omega,Es ord _ _ (λc hc=>by have:=(h.mem c).1 hc;simp only;rw[Gb c this.1 this.2];exact⟨J,J⟩) h.xt,h.nw,h.ol⟩
   have ku:(l.au.length:Int)∉ord:=λz=>by have:=(h.mem _).1 z;omega
   obtain⟨l2,e2,k2,vP,n2,pg,rD⟩:=NY (c:=(l.au.length:Int)) Gs U bm ku;rw[e2];simp only[List.length_append,List.length_cons,List.length_nil] at k2 vP n2 pg;refine Ok.pure ⟨[],ord,⟨k2,Jv,by simp only;omega,rD.nd,λd=>?_,rD.xt,rD.nw,rD.ol,?_,λkey d=>?_⟩,.inr (.inl ⟨J,J,by first |rfl |trivial,J,J,by simp only;omega,λd d0 d1=>?_,?_⟩)⟩
   ·simp only[List.nil_append,List.mem_cons,n2];rw[h.mem d];omega
   ·simp only;rw[vP];exact Ch h.sn _ _
   ·simp only;rw[vP,AA,n2]
    by_cases q:(a,b)=key
    ·rw[af q,<-q];constructor
     ·intro w;simp only[Option.some.injEq] at w;subst w;exact⟨by omega,by omega,by rw[pg _ U,DS]⟩
     ·rintro⟨w0,w1,w2⟩
      by_cases y:d=l.au.length
      ·rw[y]
      ·rw[pg d w0,Gb d w0 U] at w2;exact absurd w2 (gD d w0 U)
    ·rw[ah q,h.sl key d];constructor
     ·rintro⟨w0,w1,w2⟩;exact⟨w0,by omega,by rw[pg d w0,Gb d w0 w1];exact w2⟩
     ·rintro⟨w0,w1,w2⟩
      by_cases y:d=l.au.length
      ·rw[y,pg _ U,DS] at w2;exact absurd w2 q
      ·rw[pg d w0,Gb d w0 U] at w2;exact⟨w0,by omega,w2⟩
   ·simp only;rw[pg d d0,Gb d d0 d1]
   ·simp only;rw[pg _ U,DS]
  ·rw[h.k_] at aQ;rw[h.k_,ah aQ];have bL:ord≠[]:=λz=>by have:=(h.mem 0).2 U;rw[z] at this;simp at this
   have hlm:=Gw ord (-1) bL;have rB:=(h.mem _).1 hlm;obtain⟨A,hA⟩: ∃A,ord=A++ji ord (-1)::[]:=by
    refine⟨ord.dropLast,?_⟩;have:ji ord (-1)=ord.getLast bL:=by
     have: ∀(L:List Int) (p:Int) (hL:L≠[]),ji L p=L.getLast hL:=by
      intro L
      induction L with
      |nil=>intro p hL;exact absurd J hL
      |cons c r ih=>
       intro p hL
       cases r with
       |nil=>rfl
       |cons d r=>rw[List.getLast_cons bk];exact ih c bk
     exact this ord (-1) bL
    rw[this,List.dropLast_concat_getLast]
   rw[<-h.ol] at hA rB;generalize hc:l.dg=c at*;obtain⟨l1,e1,k1,Hh,n1,JW,tU⟩:=WL (A:=A) (B:=[]) (c:=c) (hA▸h.Uv);rw[e1];simp only[aL];rw[af U];simp only[aL];have hck:((rd l1.au c).key.1,(rd l1.au c).key.2)=(rd l.au c).key:=by rw[JW c rB.1]
   rw[hck];have hr: ∀d:Int,0<=d->rd (List.set l1.au c.toNat (bn.mk (a,b) (rd l1.au c).cJ (rd l1.au c).aZ)) d=if d=c then bn.mk (a,b) (rd l1.au c).cJ (rd l1.au c).aZ else rd l1.au d:=λd d0=>kX rB.1 U d0
   have qw:=h.nd;rw[hA] at qw;obtain⟨nA,nB,_⟩:=Oe qw;have Gs:zD ⟨l1.k,List.set l1.au c.toNat (bn.mk (a,b) (rd l1.au c).cJ (rd l1.au c).aZ),cE (dO l1.fD (rd l.au c).key) (a,b) c,l1.cC,l1.dg⟩ (A++[]):=
    ⟨tU.nd,λd gp=>by simp only[List.length_set];exact tU.mem d gp,Es _ _ _ (λd gp=>by
      have:=tU.mem d gp;simp only;rw[hr d this.1,ah (λq=>nA (by rw[<-q];simpa using gp))];exact⟨J,J⟩) tU.xt,tU.nw,tU.ol⟩
   obtain⟨l2,e2,k2,vP,n2,pg,rD⟩:=NY (c:=c) Gs rB.1 bm (by simpa using nA)
   rw[e2];simp only[List.length_set] at k2 vP n2 pg;have j3: ∀d:Int,0<=d->d≠c->(rd l2.au d).key=(rd l.au d).key:=λd d0 Js=>by rw[pg d d0,hr d d0,ah Js,JW d d0]
   have Jw:(rd l2.au c).key=(a,b):=by rw[pg c rB.1,hr c rB.1,af J]
   refine Ok.pure ⟨A,[],⟨by simp only;rw[k2,k1];exact h.k_,Jv,by simp only;omega,rD.nd,λd=>?_,rD.xt,rD.nw,rD.ol,?_,λkey d=>?_⟩,.inr (.inr ⟨J,J,by first |rfl |trivial,hA,J,by omega,by simp only;omega,j3,Jw⟩)⟩
   ·have:=h.mem d;rw[hA] at this;simp only[n2,n1,List.mem_cons,List.mem_append,List.not_mem_nil,or_false] at this⊢;rw[<-this];exact or_comm
   ·simp only;rw[vP,Hh];exact Ch (J2 h.sn _) _ _
   ·simp only;rw[vP,Hh,AA,J4 h.sn,n2,n1]
    by_cases q:(a,b)=key
    ·rw[af q,<-q];constructor
     ·intro w;simp only[Option.some.injEq] at w;subst w;exact⟨rB.1,rB.2,Jw⟩
     ·rintro⟨w0,w1,w2⟩
      by_cases y:d=c
      ·rw[y]
      ·rw[j3 d w0 y] at w2;exact absurd w2 (gD d w0 w1)
    ·rw[ah q]
     by_cases y:(rd l.au c).key=key
     ·rw[af y];constructor
      ·intro w;simp at w
      ·rintro⟨w0,w1,w2⟩
       by_cases x:d=c
       ·rw[x,Jw] at w2;exact absurd w2 q
       ·rw[j3 d w0 x] at w2;have a1:=(h.sl key d).2 ⟨w0,w1,w2⟩;have a2:=(h.sl key c).2 ⟨rB.1,rB.2,y⟩;rw[a1] at a2;simp only[Option.some.injEq] at a2;exact absurd a2 x
     ·rw[ah y,h.sl key d];constructor
      ·rintro⟨w0,w1,w2⟩;have x:d≠c:=λx=>y (by rw[<-x];exact w2)
       exact⟨w0,w1,by rw[j3 d w0 x];exact w2⟩
      ·rintro⟨w0,w1,w2⟩;have x:d≠c:=λx=>q (by rw[x,Jw] at w2;exact w2)
       exact⟨w0,w1,by rw[j3 d w0 x] at w2;exact w2⟩
def rV (t:aJ):Prop:=1<=t.W/\t.W<=16/\1<=t.H/\t.H<=16/\(t.C.length:Int)=t.W*t.H/\0∉t.C
instance (t:aJ):Decidable (rV t):=by unfold rV;infer_instance
theorem ou {t:aJ} (h:rV t):1<=t.C.length/\t.C.length<=256:=by
 obtain⟨a,b,c,d,e,_⟩:=h;have h1:t.W*t.H<=16*16:=kA U U b d;have h2:1*1<=t.W*t.H:=kA U U a c;omega
theorem KI (t:aJ) (hb:t.C.length<4611686018427387904):tg.f t=some (decide (rV t)):=by
 unfold tg.f A5.f;simp only[aL]
 by_cases hw:1<=t.W/\t.W<=16
 ·by_cases hh:1<=t.H/\t.H<=16
  ·have h1:t.W*t.H<=16*16:=kA U U hw.2 hh.2;have h2:0<=t.W*t.H:=nz U U;rw[af bm,af bm,bj U U,LY _ _ hb]
   by_cases hl:(t.C.length:Int)=t.W*t.H
   ·rw[af (by simpa using hl)]
    simp only[aL]
    congr 1
    rw[Bool.eq_iff_iff];simp[rV,hw,hh,hl]
   ·rw[ah (by simpa using hl),decide_eq_false (λq=>hl q.2.2.2.2.1)];rfl
  ·rw[af bm,ah bm,decide_eq_false (λq=>hh ⟨q.2.2.1,q.2.2.2.1⟩)];rfl
 ·rw[ah bm,decide_eq_false (λq=>hw ⟨q.1,q.2.1⟩)];rfl
def ma (t:aJ):Prop:=rV t/\ ∀c:Int,0<=c->c<t.C.length->1<=rd t.C c/\rd t.C c<=255
theorem aiA {t:aJ} (h:ma t) (c:Int):A4.f t c=some (if 0<=c/\c<t.C.length then rd t.C c else 0):=by
 have hl:=ou h.1;unfold A4.f Ez.f;rw[KI _ U,decide_eq_true h.1]
 by_cases a:0<=c
 ·by_cases b:c<t.C.length
  ·have:=h.2 c a b;rw[af a,af b,af ⟨a,b⟩];simp only[aL,Bool.not_true,Bool.false_eq_true,if_false];rw[af ⟨a,b⟩,wi U U]
  ·simp only[af a,ah b,ah (show ¬(0<=c/\c<t.C.length) from λq=>b q.2)];rfl
 ·simp only[ge_iff_le,ah a,ah (show ¬(0<=c/\c<t.C.length) from λq=>a q.1)];rfl
def fS (w h c side:Int):Int:=if cD w h c side<0∨aY w h (cD w h c side)=aY w h c then-1 else cD w h c side
theorem U2 (w h c side:Int):yf.f w h c side=some (fS w h c side):=by
 unfold yf.f fS;rw[Hu,aL]
 by_cases h1:cD w h c side<0
 ·rw[af h1,af (Or.inl h1)];rfl
 ·rw[ah h1,sX,aL,sX,aL]
  by_cases h2:aY w h (cD w h c side)=aY w h c
  ·rw[af (Or.inr h2),h2];simp
  ·rw[ah (c:=_∨_) (λq=>q.elim h1 h2)];simp[h2]
theorem agf {w h c side:Int} (hn: ¬(0<=side/\side<=3)):fS w h c side= -1:=by
 unfold fS
 by_cases hc:bT w h c
 ·by_cases h4:side=4
  ·subst h4;rw[ain hc,af (Or.inr rfl)]
  ·have:cD w h c side= -1:=by unfold cD;rw[ah U]
   rw[this,af (Or.inl U)]
 ·have:cD w h c side= -1:=by unfold cD;rw[ah (λq=>hc q.1)]
  rw[this,af (Or.inl U)]
theorem U1 {w h c side:Int} (h0:0<=fS w h c side):bT w h c/\0<=side/\side<=3/\bT w h (fS w h c side)/\fS w h c side=cD w h c side/\aY w h (fS w h c side)≠aY w h c:=by
 have B0:0<=side/\side<=3:=by
  by_cases hs:0<=side/\side<=3
  ·exact hs
  ·rw[agf hs] at h0;omega
 by_cases hq:cD w h c side<0∨aY w h (cD w h c side)=aY w h c
 ·unfold fS at h0;rw[af hq] at h0;omega
 ·have e:fS w h c side=cD w h c side:=by unfold fS;rw[ah hq]
  have hc:bT w h c:=by
   by_cases hc:bT w h c
   ·exact hc
   ·have:cD w h c side= -1:=by unfold cD;rw[ah (λq=>hc q.1)]
    omega
  rcases KG hc B0.1 (by omega:side<=4) with⟨h1,_⟩ |⟨h1,_⟩
  ·omega
  ·exact⟨hc,B0.1,B0.2,e▸h1,e,λq=>hq (.inr (e▸q))⟩
theorem Mr {w h s l:Int} (hs:bI w h s) (h0:0<=l) (h1:l<(ax w h s).1*(ax w h s).2):
 bT w h (db w h s l)/\db w h s l%w=16*(s%(bo w h).1)+l%(ax w h s).1/\db w h s l/w=16*(s/(bo w h).1)+l/(ax w h s).1:=by
 obtain⟨a1,a2,a3,a4,a5,a6⟩:=wI hs h0 h1;have hp:=ug hs;have e:db w h s l=(16*(s/(bo w h).1)+l/(ax w h s).1)*w+(16*(s%(bo w h).1)+l%(ax w h s).1):=by unfold db;rw[af ⟨hs,h0,h1⟩]
 have:=r_ (h:=h) (x:=16*(s%(bo w h).1)+l%(ax w h s).1) (y:=16*(s/(bo w h).1)+l/(ax w h s).1) U a5 U a6;rw[e];exact⟨⟨sW hs,this⟩,qC U a5⟩
theorem ah0 {w h s:Int} (hs:bI w h s):(ax w h s).1=min 16 (w-16*(s%(bo w h).1))/\(ax w h s).2=min 16 (h-16*(s/(bo w h).1)):=by
 unfold ax;rw[af hs];exact⟨J,J⟩
theorem Kw {w h s l:Int} (hs:bI w h s) (h0:0<=l) (h1:l<(ax w h s).1*(ax w h s).2):aY w h (db w h s l)=s:=by
 obtain⟨hc,e1,e2⟩:=Mr hs h0 h1;obtain⟨a1,a2,a3,a4,a5,a6⟩:=wI hs h0 h1;obtain⟨z1,z2,z3,z4⟩:=pY hs;unfold aY;rw[af hc,e1,e2];have q1:(16*(s/(bo w h).1)+l/(ax w h s).1)/16=s/(bo w h).1:=U;have q2:(16*(s%(bo w h).1)+l%(ax w h s).1)/16=s%(bo w h).1:=U;rw[q1,q2];have:=Int.mul_ediv_add_emod s (bo w h).1;rw[Int.mul_comm] at this;exact this
def AP (w h s side:Int):Prop:=if side=0 then 1<=s/(bo w h).1 else if side=1 then s%(bo w h).1+1<(bo w h).1 else if side=2 then s/(bo w h).1+1<(bo w h).2 else 1<=s%(bo w h).1
def ue (tw th l side:Int):Prop:=if side=0 then l/tw=0 else if side=1 then l%tw=tw-1 else if side=2 then l/tw=th-1 else l%tw=0
instance (w h s side:Int):Decidable (AP w h s side):=by unfold AP;infer_instance
instance (tw th l side:Int):Decidable (ue tw th l side):=by unfold ue;infer_instance
theorem Kg {w h s l side:Int} (hs:bI w h s) (h0:0<=l) (h1:l<(ax w h s).1*(ax w h s).2) (s0:0<=side) (s3:side<=3):
 0<=fS w h (db w h s l) side↔AP w h s side/\ue (ax w h s).1 (ax w h s).2 l side:=by
 obtain⟨hc,e1,e2⟩:=Mr hs h0 h1;obtain⟨a1,a2,a3,a4,a5,a6⟩:=wI hs h0 h1;obtain⟨z1,z2,z3,z4⟩:=pY hs;obtain⟨y1,y2⟩:=ah0 hs;obtain⟨p1,p2,p3,p4⟩:=ug hs;have yD:=Kw hs h0 h1;have hm:=sW hs;have eS:(bo w h).1=(w+15)/16/\(bo w h).2=(h+15)/16:=by unfold bo;rw[af hm];exact⟨J,J⟩
 have Gh:side=0∨side=1∨side=2∨side=3:=U;rcases KG hc s0 (by omega:side<=4) with⟨b1,b2⟩ |⟨b1,b2,b3,b4,b5,b6,b7⟩
 ·have:fS w h (db w h s l) side= -1:=by unfold fS;rw[b1,af (Or.inl U)]
  rw[this];refine⟨λq=>by omega,λq=>?_⟩
  exfalso;apply b2;rw[e1,e2];obtain⟨q1,q2⟩:=q;unfold AP at q1;unfold ue at q2;unfold dX dY;rcases Gh with rfl |rfl |rfl |rfl<;>simp at q1 q2⊢ <;>omega
 ·have b8: ¬cD w h (db w h s l) side<0:=by have:=b1.2;omega
  have key:aY w h (cD w h (db w h s l) side)=s↔(16*(s/(bo w h).1)+l/(ax w h s).1+dY side)/16=s/(bo w h).1/\(16*(s%(bo w h).1)+l%(ax w h s).1+dX side)/16=s%(bo w h).1:=by
   have tN:=En b1;have yB:=qC (a:=(bo w h).1) (y:=cD w h (db w h s l) side/w/16) tN.1 tN.2.1;have e:aY w h (cD w h (db w h s l) side)=cD w h (db w h s l) side/w/16*(bo w h).1+cD w h (db w h s l) side%w/16:=by unfold aY;rw[af b1]
   rw[<-e,b2,b3,e1,e2] at yB;constructor
   ·intro q;rw[q] at yB;exact⟨yB.2.symm,yB.1.symm⟩
   ·rintro⟨q1,q2⟩;rw[e,b2,b3,e1,e2,q1,q2];have:=Int.mul_ediv_add_emod s (bo w h).1;rw[Int.mul_comm] at this;exact this
  rw[e1] at b4 b5;rw[e2] at b6 b7;unfold fS;rw[yD]
  by_cases hq:aY w h (cD w h (db w h s l) side)=s
  ·rw[af (Or.inr hq)];obtain⟨k1,k2⟩:=key.mp hq;refine⟨λq=>by omega,λq=>?_⟩
   exfalso;obtain⟨q1,q2⟩:=q;unfold AP at q1;unfold ue at q2;unfold dX at k2;unfold dY at k1;rcases Gh with rfl |rfl |rfl |rfl<;>simp at q1 q2 k1 k2<;>omega
  ·rw[ah (c:=_∨_) (λq=>q.elim b8 hq)];refine⟨λ_=>?_,λ_=>by omega⟩
   rw[key] at hq;unfold AP ue;unfold dX at hq b4 b5;unfold dY at hq b6 b7;rcases Gh with rfl |rfl |rfl |rfl<;>simp at hq b4 b5 b6 b7⊢ <;>omega
instance :DecidableEq a_:=λa b=>decidable_of_iff (a.Cell=b.Cell/\a.cL=b.cL/\a.Key=b.Key) (by obtain⟨a1,a2,a3⟩:=a;obtain⟨b1,b2,b3⟩:=b;simp)
theorem OT (a b:a_):((a.Cell==b.Cell)&&((a.cL==b.cL)&&((a.Key==b.Key)&&true)))=decide (a=b):=by
 obtain⟨a1,a2,a3⟩:=a;obtain⟨b1,b2,b3⟩:=b;rw[Bool.eq_iff_iff];simp
theorem aah {R:a_->a_->Prop} (s:List a_) (hs:s.Pairwise R) (hb:s.length<=1000000) {x2:Int} (h2:1<=x2/\x2<s.length): ∀(n k:Nat) (x:List a_) (x8 x9:Int),(s.length-x2-x9).toNat<=n->n<k->x.length=s.length->
 1<=x8->x8<=x2+x9-1->1<=x9->x2+x9<=s.length->(∀c:Int,x2+x9-1<=c->c<s.length->rd x c=rd s c)->
 (∀i j:Int,0<=i->i<j->j<x8->R (rd x i) (rd x j))->(∀i c:Int,0<=i->i<x8->x2+x9<=c->c<s.length->R (rd x i) (rd s c))->
 (∀i:Int,0<=i->i<x8->rd x i∈s)->(∀c:Int,0<=c->c<x2+x9-> ∃i:Int,0<=i/\i<x8/\rd x i=rd s c)->
 Ok (jC.l1 k s x2 x x8 x9) (λr=>r.length<=s.length/\(∀e,e∈r↔e∈s)/\r.Pairwise R):=by
 intro n
 induction n with
 |zero=>
  intro k x x8 x9 hn hk hx h8 RP h9 hle hc hR FH cu DQ;obtain⟨k,rfl⟩:=bl hk;have DT:((aA x x2 (s.length:Int)).length:Int)=s.length-x2:=by rw[iP U];omega
  rw[jC.l1,DT,ah U,af U];have e:(cg x (Int.toNat x8) (List.length (aA x x8 (List.length x:Int))) (List.replicate (List.length (aA x x8 (List.length x:Int))) (default:a_)))=x.take x8.toNat++List.replicate (x.length-x8.toNat) default:=by
   unfold cg;rw[iP U,List.drop_of_length_le U];simp
  rw[e];have e2:aA (x.take x8.toNat++List.replicate (x.length-x8.toNat) (default:a_)) 0 x8=x.take x8.toNat:=by
   unfold aA;simp only[Int.toNat_zero,List.drop_zero,Nat.sub_zero];rw[List.take_append_of_le_length bm,List.take_take];simp
  have hr: ∀i:Int,0<=i->i<x8->rd (x.take x8.toNat) i=rd x i:=λi i0 i1=>by
   rw[jm (xs:=List.take _ _) bm,List.getElem_take,jm U]
  have hl:(x.take x8.toNat).length=x8.toNat:=by simp;omega
  refine Ok.cw bm ?_;rw[e2];refine Ok.pure ⟨by omega,λy=>⟨λhy=>?_,λhy=>?_⟩,?_⟩
  ·obtain⟨i,i0,i1,rfl⟩:=jK hy;rw[hr i i0 U];exact cu i i0 U
  ·obtain⟨c,c0,c1,rfl⟩:=jK hy;obtain⟨i,i0,i1,q⟩:=DQ c c0 U;rw[<-q,<-hr i i0 i1];exact dS i0 U
  ·refine Oz λi j i0 ij j1=>?_
   rw[hr i i0 U,hr j U U];exact hR i j i0 ij U
 |succ n ih=>
  intro k x x8 x9 hn hk hx h8 RP h9 hle hc hR FH cu DQ
  by_cases DM:x2+x9=s.length
  ·exact ih k x x8 x9 U U hx h8 RP h9 hle hc hR FH cu DQ
  obtain⟨k,rfl⟩:=bl hk;have DT:((aA x x2 (s.length:Int)).length:Int)=s.length-x2:=by rw[iP U];omega
  have JE: ∀i:Int,0<=i->i<s.length-x2->rd (aA x x2 (s.length:Int)) i=rd x (x2+i):=λi i0 i1=>by
   unfold aA;rw[jm (xs:=List.take _ _) bm,List.getElem_take,List.getElem_drop,jm U]
   congr 1;omega
  rw[jC.l1,DT,wi (x:=x9-1) U U];simp only[OT];rw[JE x9 U U,JE (x9-1) U U,hc (x2+x9) U U,hc (x2+(x9-1)) U U,wi (x:=x9+1) U U];refine Ok.pos U (Ok.cw U (Ok.cw U (Ok.ite (λq=>Ok.cw U ?_) λq=>?_)))
  ·rw[wi U U];have dN: ∀c:Int,0<=c->rd (List.set x x8.toNat (rd s (x2+x9))) c=if c=x8 then rd s (x2+x9) else rd x c:=λc c0=>kX U U c0
   refine ih k _ (x8+1) (x9+1) U U (by simpa using hx) U U U U (λc c0 c1=>?_) (λi j i0 ij j1=>?_) (λi c i0 i1 c0 c1=>?_) (λi i0 i1=>?_) (λc c0 c1=>?_)
   ·rw[dN c U,ah U];exact hc c U c1
   ·rw[dN i i0,dN j U,ah U];split
    ·exact FH i _ i0 U U U
    ·exact hR i j i0 ij U
   ·rw[dN i i0];split
    ·exact uc hs U U c1
    ·exact FH i c i0 U U c1
   ·rw[dN i i0];split
    ·exact dS U U
    ·exact cu i i0 U
   ·by_cases z:c=x2+x9
    ·exact⟨x8,by omega,by omega,by rw[dN _ U,af J,z]⟩
    ·obtain⟨i,i0,i1,y⟩:=DQ c c0 U;exact⟨i,i0,by omega,by rw[dN i i0,ah U];exact y⟩
  ·have q:rd s (x2+x9)=rd s (x2+(x9-1)):=by simpa using q
   refine ih k x x8 (x9+1) U U hx h8 U U U (λc c0 c1=>hc c U c1) hR (λi c i0 i1 c0 c1=>FH i c i0 i1 U c1) cu (λc c0 c1=>?_)
   by_cases z:c=x2+x9
   ·rw[z,q];exact DQ _ U U
   ·exact DQ c c0 U
theorem aag {R:a_->a_->Prop} (s:List a_) (hs:s.Pairwise R) (hb:s.length<=1000000): ∀(n k:Nat) (i:Int),(s.length-i).toNat<=n->n<k->1<=i->
 Ok (jC.l0 k s i) (λr=>r.length<=s.length/\(∀e,e∈r↔e∈s)/\r.Pairwise R):=by
 intro n
 induction n with
 |zero=>
  intro k i hn hk hi;obtain⟨k,rfl⟩:=bl hk;rw[jC.l0,ah U];exact Ok.pure ⟨Nat.le_refl _,λ_=>Iff.rfl,hs⟩
 |succ n ih=>
  intro k i hn hk hi;obtain⟨k,rfl⟩:=bl hk;rw[jC.l0];refine Ok.ite (λhl=>?_) λ_=>Ok.pure ⟨Nat.le_refl _,λ_=>Iff.rfl,hs⟩
  rw[wi (x:=i-1) U U];simp only[OT];refine Ok.cw U (Ok.cw U (Ok.ite (λq=>Ok.cw U ?_) λq=>?_))
  ·have q:rd s i=rd s (i-1):=by simpa using q
   refine aah s hs hb (x2:=i) U s.length fuel s i 1 U (by rw[cM];omega) J hi U U U (λ_ _ _=>rfl) (λa b a0 ab b1=>uc hs a0 ab U) (λa c a0 a1 c0 c1=>uc hs a0 U c1) (λa a0 a1=>dS a0 U) (λc c0 c1=>?_)
   by_cases z:c=i
   ·exact⟨i-1,by omega,by omega,by rw[z,q]⟩
   ·exact⟨c,c0,by omega,J⟩
  ·rw[wi U U];exact ih k (i+1) U U U
theorem aaf {R:a_->a_->Prop} (s:List a_) (hs:s.Pairwise R) (hb:s.length<=1000000):Ok (jC.f s) (λr=>r.length<=s.length/\(∀e,e∈r↔e∈s)/\r.Pairwise R):=by
 unfold jC.f;exact Ok.ite (λ_=>Ok.pure ⟨Nat.le_refl _,λ_=>Iff.rfl,hs⟩) λ_=>aag s hs hb s.length fuel 1 U (by rw[cM];omega) U
def zP (x y:Int):Int:=if x<y then-1 else if x>y then 1 else 0
theorem aac (x y:Int):sa.f x y=some (zP x y):=by
 unfold sa.f cmp_isNaN_int.f zP;simp only[aL,bne_self_eq_false,Bool.false_eq_true,if_false];split
 ·rfl
 ·split<;>rfl
theorem agb (a b c:Int):mB.f [a,b,c]=some (if a≠0 then a else if b≠0 then b else c):=by
 unfold mB.f;obtain⟨k,hk⟩: ∃q,fuel=q+1+1+1+1:=⟨fuel-4,by rw[cM]⟩
 have w1:aa (0+1)=1:=rfl;have w2:aa (1+1)=2:=rfl;have w3:aa (2+1)=3:=rfl;have e0:rd [a,b,c] 0=a:=rfl;have e1:rd [a,b,c] 1=b:=rfl;have e2:rd [a,b,c] 2=c:=rfl;have l3:(List.length [a,b,c]:Int)=3:=rfl;rw[hk];simp only[mB.l0,l3,w1,w2,w3,e0,e1,e2]
 by_cases ha:a=0
 ·by_cases hb:b=0
  ·by_cases hc:c=0<;>simp[ha,hb,hc]
  ·simp[ha,hb]
 ·simp[ha]
def uf (a b:a_):Int:=if zP a.Key b.Key≠0 then zP a.Key b.Key else if zP a.Cell b.Cell≠0 then zP a.Cell b.Cell else zP a.cL b.cL
theorem agc (a b:a_):py.f a b=some (uf a b):=by
 unfold py.f;simp only[aac,agb,aL];rfl
def sQ (a b:a_):Prop:=a.Key<b.Key∨a.Key=b.Key/\(a.Cell<b.Cell∨a.Cell=b.Cell/\a.cL<b.cL)
theorem KC (a b:a_):ltOf uf a b=true↔sQ a b:=by
 unfold ltOf uf sQ zP;rw[decide_eq_true_iff]
 repeat' split
 all_goals omega
theorem swo:Go.Sort.SWO (ltOf uf):=by
 refine⟨λx=>?_,λx y z h1 h2=>?_,λx y z h1 h2=>?_⟩
 ·rw[<-Bool.not_eq_true,KC];unfold sQ;omega
 ·rw[KC] at*;unfold sQ at*;omega
 ·rw[<-Bool.not_eq_true,KC] at*;unfold sQ at*;omega
theorem OY (l:List a_) (hb:l.length<=1000000):Ok (mP.f l) (λr=>r.length<=l.length/\(∀e,e∈r↔e∈l)/\r.Pairwise (λa b=> ¬sQ b a)):=by
 unfold mP.f rK.f AV.f;have e:(λa b=>Option.getD (py.f a b) 0)=uf:=by funext a b;rw[agc];rfl
 have hlen:=Hm swo l;obtain⟨⟨p1,p2,p3⟩,hs⟩:=Wn swo l;have hp: ∀x,x∈pB uf l↔x∈l:=λx=>by
  have h1:(pB uf l).toArray.extract 0 l.length=(pB uf l).toArray:=by rw[<-hlen];simp
  have h2:l.toArray.extract 0 l.length=l.toArray:=by simp
  rw[h1,h2] at p3;exact p3.mem_iff
 have hpw:(pB uf l).Pairwise (λa b=> ¬sQ b a):=Oz λi j i0 ij j1=>by
  have:=hs i.toNat j.toNat U U U;rw[<-KC];have g: ∀c:Int,0<=c->c<(pB uf l).length->(pB uf l).toArray[c.toNat]! =rd (pB uf l) c:=λc c0 c1=>by
   rw[jm U];simp;rw[List.getElem?_eq_getElem U];rfl
  rw[g i i0 U,g j U U] at this;simp[this]
 refine Ok.eq (af bm) ?_;simp only[List.nil_append,e];refine Ok.eq (af U) ((aaf _ hpw U).bind λr hr=>Ok.pure ⟨by omega,λx=>(hr.2.1 x).trans (hp x),hr.2.2⟩)
def G_ (t:aJ) (c side:Int):Prop:=side=4∨(0<=side/\side<=3/\ue t.W t.H c side)
def qf (t:aJ) (s:a_):Prop:=0<=s.Cell/\s.Cell<t.C.length/\rd t.C s.Cell≠255/\0<=s.Key/\s.Key<=1073741824/\G_ t s.Cell s.cL
theorem agd {t:aJ} (h:ma t) {c side:Int} (c0:0<=c) (c1:c<t.C.length):Ok (CN.f t c side) (λb=>b=true↔G_ t c side):=by
 unfold CN.f G_ ue;obtain⟨a,b,d,e,f,_⟩:=h.1;have hl:=ou h.1;have hq:0<=c/t.W/\c/t.W<=c:=⟨Int.ediv_nonneg c0 U,Int.ediv_le_self _ c0⟩;rw[mS c0,qP c0,wi (x:=c/t.W) U U,wi (x:=t.W-1) U U,wi (x:=t.H-1) U U];refine Ok.cw U (Ok.cw U (Ok.ite (λz=>Ok.pure ?_) λz=>Ok.ite (λz=>Ok.pure ?_) λz=>Ok.ite (λz=>Ok.pure ?_) λz=>Ok.ite (λz=>Ok.pure ?_) λz=>Ok.pure ?_))
 all_goals simp only[beq_iff_eq] at*
 ·subst z;simp
 ·subst z;simp
 ·subst z;simp
 ·subst z;simp
 ·constructor
  ·exact .inl
  ·rintro(q |q)
   ·exact q
   ·omega
theorem afk {t:aJ} (h:ma t) (s:a_):Ok (CM.f s t) (λb=>b=true↔ ¬qf t s):=by
 unfold CM.f qf;refine(?_:Ok _ (λb:Bool=>b=true↔ ¬qf t s)).bind λr hr=>Ok.pure hr
 unfold qf;refine Ok.ite (λz=>Ok.pure ?_) λz1=>Ok.ite (λz=>Ok.pure ?_) λz2=>Ok.cw U (Ok.ite (λz=>Ok.pure ?_) λz3=>Ok.ite (λz=>Ok.pure ?_) λz4=>Ok.ite (λz=>Ok.pure ?_) λz5=>?_)
 ·simp;omega
 ·simp;omega
 ·have z:rd t.C s.Cell=255:=by simpa using z
  simp[z]
 ·simp;omega
 ·simp;omega
 ·refine(agd h U U).bind λr hr=>Ok.pure ?_
  have z3:rd t.C s.Cell≠255:=by simpa using z3
  cases r
  ·have: ¬G_ t s.Cell s.cL:=λq=>by have:=hr.2 q;simp at this
   simp[this]
  ·have:G_ t s.Cell s.cL:=hr.1 J;simp only[Bool.not_true,Bool.false_eq_true,false_iff,Classical.not_not];exact⟨by omega,by omega,z3,by omega,by omega,this⟩
theorem aeh {t:aJ} (h:ma t) (l:List a_) (hb:l.length<=1000000): ∀(n k:Nat) (i:Int),(l.length-i).toNat<=n->n<k->0<=i->(∀j:Int,0<=j->j<i->qf t (rd l j))->
 Ok (qK.l0 k l t i) (λr=>0<=r↔ ¬ ∀s∈l,qf t s):=by
 intro n
 induction n with
 |zero=>
  intro k i hn hk hi ha;obtain⟨k,rfl⟩:=bl hk;rw[qK.l0,ah U];refine Ok.pure ⟨λq=>by omega,λq=>absurd (λs hs=>?_) q⟩
  obtain⟨j,j0,j1,rfl⟩:=jK hs;exact ha j j0 U
 |succ n ih=>
  intro k i hn hk hi ha
  by_cases aQ:i<l.length
  ·obtain⟨k,rfl⟩:=bl hk;rw[qK.l0];refine Ok.pos aQ (Ok.cw ⟨hi,aQ⟩ ((afk h (rd l i)).bind λb jv=>Ok.ite (λq=>Ok.pure ⟨λ_ y=>jv.1 q (y _ (dS hi aQ)),λ_=>hi⟩) λq=>?_));rw[wi U U];refine ih k (i+1) U U U (λj j0 j1=>?_)
   by_cases z:j=i
   ·rw[z];exact Classical.byContradiction λy=>q (jv.2 y)
   ·exact ha j j0 U
  ·exact ih k i U U hi ha
theorem Wm {t:aJ} (h:ma t) (l:List a_) (hb:l.length<=1000000):Ok (zh.f t l) (λb=>b=true↔ ∀s∈l,qf t s):=by
 have hl:=ou h.1;unfold zh.f Ev.f qK.f;rw[KI _ U,decide_eq_true h.1];refine Ok.eq J (Ok.neg bk (((aeh h l hb l.length fuel 0 U (by rw[cM];omega) U (λj j0 j1=>by omega)).bind λr hr=>Ok.pure (P:=λb=>b=true↔ ¬ ∀s∈l,qf t s) (by simp only[decide_eq_true_iff];exact hr)).bind λr hr=>Ok.pure ?_))
 cases r
 ·simp only[Bool.not_false,true_iff];exact Classical.byContradiction λy=>by have:=hr.2 y;simp at this
 ·simp only[Bool.not_true,Bool.false_eq_true,false_iff];exact hr.1 J
theorem ahP (a b:List a_) (hl:a.length=b.length) (hb:a.length<=1000000): ∀(n k:Nat) (i:Int),(a.length-i).toNat<=n->n<k->0<=i->(∀j:Int,0<=j->j<i->rd a j=rd b j)->
 qJ.l0 k a b i=some (decide (a=b)):=by
 intro n
 induction n with
 |zero=>
  intro k i hn hk hi ha;obtain⟨k,rfl⟩:=bl hk;rw[qJ.l0,ah U,decide_eq_true (GY hl λj j0 j1=>ha j j0 U)]
 |succ n ih=>
  intro k i hn hk hi ha
  by_cases aQ:i<a.length
  ·obtain⟨k,rfl⟩:=bl hk;rw[qJ.l0,af aQ,af ⟨hi,aQ⟩,af U,OT]
   by_cases q:rd a i=rd b i
   ·rw[ah (by simp[q]),wi U U]
    refine ih k (i+1) U U U (λj j0 j1=>?_)
    by_cases z:j=i
    ·rw[z];exact q
    ·exact ha j j0 U
   ·rw[af (by simp[q]),decide_eq_false (λy=>q (by rw[y]))]
  ·exact ih k i U U hi ha
theorem aie (a b:List a_) (hb:a.length<=1000000):AR.f a b=some (decide (a=b)):=by
 unfold AR.f qJ.f
 by_cases hl:a.length=b.length
 ·rw[ah (by simp[hl]),ahP a b hl hb a.length fuel 0 U (by rw[cM];omega) U (λj j0 j1=>by omega)];rfl
 ·rw[af bm,decide_eq_false (λy=>hl (by rw[y]))];rfl
theorem Zj (l:List a_) (c side:Int) (hb:l.length<=1000000): ∀(n k:Nat) (x:Int) (b:Bool) (i:Int),(l.length-i).toNat<=n->n<k->0<=i->
 ∃r,kE.l0 k l c side x b i=some r:=by
 intro n
 induction n with
 |zero=>
  intro k x b i hn hk hi;obtain⟨k,rfl⟩:=bl hk;exact⟨x,by rw[kE.l0,ah U]⟩
 |succ n ih=>
  intro k x b i hn hk hi
  by_cases aQ:i<l.length
  ·obtain⟨k,rfl⟩:=bl hk;rw[kE.l0,af aQ,af ⟨hi,aQ⟩,wi U U];have: ∃q,(if((rd l i).Cell==c)=true then(if((rd l i).cL==side)=true then(if(!b)=true then(some true) else(some (decide ((rd l i).Key<x)))) else(some false)) else(some false))=some q:=by
    repeat' split
    all_goals exact⟨_,J⟩
   obtain⟨q,hq⟩:=this;rw[hq,aL];split
   ·exact ih k _ _ (i+1) U U U
   ·exact ih k _ _ (i+1) U U U
  ·exact ih k x b i U U hi
theorem Zi (l:List a_) (c side:Int) (hb:l.length<=1000000): ∃r,kE.f l c side=some r:=
 Zj l c side hb l.length fuel _ _ 0 U (by rw[cM];omega) U
def kD (b:jO):List Int:=b.items.drop b.gone.toNat
def kc:List jO->Int
 |[]=>0
 |b::l=>(kD b).length+kc l
theorem Pc: ∀l,0<=kc l
 |[]=>Int.le_refl _
 |b::l=>by have:=Pc l;unfold kc;omega
theorem WJ: ∀(l:List jO) (j:Nat) (b:jO),j<l.length->kc (l.set j b)=kc l-(kD (rd l (j:Int))).length+(kD b).length
 |[],j,b,h=>by simp at h
 |a::l,0,b,_=>by simp[kc,rd];omega
 |a::l,j+1,b,h=>by
  have:=WJ l j b (by simpa using h)
  have e:rd (a::l) ((j+1:Nat):Int)=rd l (j:Int):=by unfold rd;simp
  simp only[List.set_cons_succ,kc];rw[this,e];omega
theorem WG: ∀(l:List jO) (j:Nat),j<l.length->((kD (rd l (j:Int))).length:Int)<=kc l
 |a::l,0,_=>by have:=Pc l;simp[kc,rd];omega
 |a::l,j+1,h=>by
  have:=WG l j (by simpa using h)
  have e:rd (a::l) ((j+1:Nat):Int)=rd l (j:Int):=by unfold rd;simp
  simp only[kc];rw[e];omega
theorem WI: ∀(l:List jO),0<kc l-> ∃j:Nat,j<l.length/\kD (rd l (j:Int))≠[]
 |[],h=>by simp[kc] at h
 |a::l,h=>by
  by_cases z:kD a=[]
  ·obtain⟨j,h1,h2⟩:=WI l (by simp[kc,z] at h;exact h)
   exact⟨j+1,by simpa using h1,by have e:rd (a::l) ((j+1:Nat):Int)=rd l (j:Int):=by unfold rd;simp
                                  rw[e];exact h2⟩
  ·exact⟨0,by simp,by simpa[rd] using z⟩
theorem WH {n:Nat}: ∀(l:List jO),(∀b∈l,b.items.length<=n)->kc l<=l.length*n
 |[],_=>by simp[kc]
 |b::l,h=>by
  have:=WH l (λb hb=>h b (List.mem_cons_of_mem _ hb));have hb:=h b (List.mem_cons_self ..);have:(kD b).length<=b.items.length:=by unfold kD;simp
  rw[kc,List.length_cons,Int.natCast_add,Int.add_mul,Int.natCast_one,Int.one_mul];omega
structure iF (r:ez) (n:Nat):Prop where
 len_:r.buckets.length=256
 at_:0<=r.ba/\r.ba<=8796093022208
 gone: ∀b∈r.buckets,0<=b.gone/\b.gone<=b.items.length/\b.items.length<=n
 A6:r.len=kc r.buckets
 n_:n<=1000000000
def Has (r:ez) (k i:Int):Prop:=r.ba<=k/\k<r.ba+256/\i∈kD (rd r.buckets (k%256))
variable {r : ez} {n : Nat}
theorem iF.Cc (h:iF r n):0<=r.len/\r.len<=256000000000:=by
 have h1:=Pc r.buckets;have h2:=WH r.buckets (λb hb=>(h.gone b hb).2.2);have:=h.n_;rw[h.len_] at h2;rw[h.A6];omega
theorem iF.none (h:iF r n) (h0:r.len=0) (k i:Int): ¬Has r k i:=by
 rintro⟨h1,h2,h3⟩;have:=WG r.buckets (k%256).toNat (by rw[h.len_];omega)
 rw[<-h.A6,h0,show(((k%256).toNat:Nat):Int)=k%256 by omega] at this
 have:=List.length_pos_iff.2 (List.ne_nil_of_mem h3);omega
theorem iF.some (h:iF r n) (h0:r.len≠0): ∃k i,Has r k i:=by
 have:=h.Cc;obtain⟨j,j1,j2⟩:=WI r.buckets (by rw[<-h.A6];omega)
 obtain⟨i,hi⟩:=List.exists_mem_of_ne_nil _ j2;rw[h.len_] at j1;have ha:=h.at_;refine⟨r.ba+(j-r.ba%256)%256,i,by omega,by omega,?_⟩
 rw[show(r.ba+(j-r.ba%256)%256)%256=(j:Int) by omega];exact hi
theorem ag': ∃r,vC.f 0=some (some r)/\r.ba=0/\iF r 0/\ ∀k i,¬Has r k i:=by
 refine⟨_,J,J,⟨List.length_replicate ..,⟨Int.le_refl _,by decide⟩,λb hb=>?_,?_,by omega⟩,λk i=>?_⟩
 ·rw[List.mem_replicate] at hb;rw[hb.2];exact⟨Int.le_refl _,Int.le_refl _,Nat.le_refl _⟩
 ·have: ∀n,kc (List.replicate n (default:jO))=0:=λn=>by
   induction n with
   |zero=>rfl
   |succ n ih=>rw[List.replicate_succ,kc,ih];rfl
  rw[this]
 ·rintro⟨_,_,h3⟩;rw[vy U U] at h3;have:kD (default:jO)=[]:=rfl;rw[this] at h3;simp at h3
theorem VR {b:jO} {j:Int} {l:Int} (h:iF r n) {n':Nat} (hn:n<=n') (F5:n'<=1000000000) (j0:0<=j) (j1:j<256) (hb:0<=b.gone/\b.gone<=b.items.length/\b.items.length<=n') {a:Int} (ha:0<=a/\a<=8796093022208)
 (hl:l=r.len-(kD (rd r.buckets j)).length+(kD b).length):iF ⟨a,l,List.set r.buckets j.toNat b⟩ n':=by
 refine⟨by simp[h.len_],ha,λc hc=>?_,?_,F5⟩
 ·rcases List.mem_or_eq_of_mem_set hc with z |rfl
  ·have:=h.gone c z;omega
  ·exact hb
 ·simp only;rw[WJ _ _ _ (by rw[h.len_];omega),hl,h.A6,show((j.toNat:Nat):Int)=j by omega]
theorem VS (h:iF r n) (hn:n<1000000000) {key:Int} (k1:key<=8796093022208) (k0:0<=key) (i:Int):
 Ok (sM.f r key i) (λx=>x.2.ba=r.ba/\iF x.2 (n+1)/\((x.1=true/\r.ba<=key/\key<r.ba+256/\x.2.len=r.len+1/\ ∀k j,Has x.2 k j↔Has r k j∨(k=key/\j=i))∨(x.1=false/\(key<r.ba∨r.ba+256<=key)/\x.2=r))):=by
 have ha:=h.at_;have hl:=h.Cc;unfold sM.f;have e:(if key<r.ba then some true else some (decide (aa (key-r.ba)≥256)))=some (decide (key<r.ba∨r.ba+256<=key)):=by
  rw[wi U U]
  by_cases z:key<r.ba
  ·simp[z]
  ·simp only[z,if_false,false_or];congr 2;rw[eq_iff_iff];constructor<;>intro<;>omega
 have hs:iF r (n+1):=⟨h.len_,h.at_,λb hb=>by have:=h.gone b hb;omega,h.A6,by omega⟩
 refine Ok.eq e (Ok.ite (λz=>Ok.pure ⟨J,hs,.inr ⟨J,of_decide_eq_true z,J⟩⟩) λz=>?_);have z: ¬(key<r.ba∨r.ba+256<=key):=by simpa using z
 rw[mS k0];have hb:=h.gone (rd r.buckets (key%256)) (dS U (by rw[h.len_];omega))
 refine Ok.cw (by rw[h.len_];omega) ?_
 unfold y6.f;rw[af U];have hp:kD ⟨(rd r.buckets (key%256)).items++[i],(rd r.buckets (key%256)).gone⟩=kD (rd r.buckets (key%256))++[i]:=by
  unfold kD;simp only;rw[List.drop_append_of_le_length U]
 refine Ok.pure ⟨J,VR (b:=⟨(rd r.buckets (key%256)).items++[i],(rd r.buckets (key%256)).gone⟩) h (Nat.le_succ n) U U U ⟨hb.1,by simp;omega,by simp;omega⟩ ha ?_,.inl ⟨J,by omega,by omega,?_,λk j=>?_⟩⟩
 ·rw[wi U U,hp];simp;omega
 ·simp only;rw[wi U U]
 ·unfold Has;simp only;rw[kX U (by rw[h.len_];omega) U]
  by_cases y:k%256=key%256
  ·rw[af y,hp,y];constructor
   ·rintro⟨a,b,c⟩;rcases List.mem_append.1 c with c |c
    ·exact .inl ⟨a,b,c⟩
    ·exact .inr ⟨by omega,by simpa using c⟩
   ·rintro(⟨a,b,c⟩ |⟨rfl,rfl⟩)
    ·exact⟨a,b,List.mem_append_left _ c⟩
    ·exact⟨by omega,by omega,by simp⟩
  ·rw[ah y];constructor
   ·exact .inl
   ·rintro(q |⟨rfl,_⟩)
    ·exact q
    ·exact absurd J y
theorem agn: ∀(m k:Nat) (r:ez) (x y:Int),(x-r.ba).toNat<=m->m<k->iF r n->x<=8796093022208->Has r x y->
 Ok (oq.l0 k r) (λq=>iF q n/\q.buckets=r.buckets/\q.len=r.len/\r.ba<=q.ba/\kD (rd q.buckets (q.ba%256))≠[]/\ ∀a b,Has q a b↔Has r a b):=by
 intro m
 induction m with
 |zero=>
  intro k r x y hm hk h hx hy;obtain⟨k,rfl⟩:=bl hk;have ha:=h.at_;have pa:x=r.ba:=by have:=hy.1;omega
  subst pa;rw[oq.l0,mS ha.1];unfold xn.f;have bL:=List.ne_nil_of_mem hy.2.2;refine Ok.cw (by rw[h.len_];omega) (Ok.neg ?_ (Ok.pure ⟨h,J,J,by omega,bL,λ_ _=>Iff.rfl⟩))
  intro z;have z:(rd r.buckets (r.ba%256)).gone=(rd r.buckets (r.ba%256)).items.length:=by simpa using z
  exact bL (by unfold kD;rw[z];simp)
 |succ m ih=>
  intro k r x y hm hk h hx hy;obtain⟨k,rfl⟩:=bl hk;have ha:=h.at_;rw[oq.l0,mS ha.1];unfold xn.f;have tK:=h.gone (rd r.buckets (r.ba%256)) (dS U (by rw[h.len_];omega))
  refine Ok.cw (by rw[h.len_];omega) (Ok.ite (λz=>?_) λz=>Ok.pure ⟨h,J,J,by omega,λq=>?_,λ_ _=>Iff.rfl⟩)
  ·have z:(rd r.buckets (r.ba%256)).gone=(rd r.buckets (r.ba%256)).items.length:=by simpa using z
   have hp:kD (rd r.buckets (r.ba%256))=[]:=by unfold kD;rw[z];simp
   have bL:x≠r.ba:=by rintro rfl;have:=hy.2.2;rw[hp] at this;simp at this
   have:=hy.1;rw[wi U U];have hh: ∀a b,Has ⟨r.ba+1,r.len,r.buckets⟩ a b↔Has r a b:=λa b=>by
    unfold Has;simp only;constructor
    ·rintro⟨q1,q2,q3⟩;refine⟨by omega,?_,q3⟩
     apply Classical.byContradiction;intro q;have:a%256=r.ba%256:=U;rw[this,hp] at q3;simp at q3
    ·rintro⟨q1,q2,q3⟩;refine⟨?_,by omega,q3⟩
     apply Classical.byContradiction;intro q;have:a=r.ba:=U;rw[this,hp] at q3;simp at q3
   refine(ih k ⟨r.ba+1,r.len,r.buckets⟩ x y (by simp only;omega) U ⟨h.len_,by simp only;omega,h.gone,h.A6,h.n_⟩ hx ((hh x y).2 hy)).mono λq hq=>⟨hq.1,hq.2.1,hq.2.2.1,by have:=hq.2.2.2.1;simp only at this;omega,hq.2.2.2.2.1,λa b=>(hq.2.2.2.2.2 a b).trans (hh a b)⟩
  ·unfold kD at q;rw[List.drop_eq_nil_iff] at q;exact z bm
theorem ahf (h:iF r n) {x y:Int} (hx:x<=8796093022208) (hy:Has r x y):
 Ok (oq.f r) (λq=>q.2.2.1=true/\iF q.2.2.2 n/\q.2.2.2.ba=q.1/\q.2.2.2.len=r.len-1/\Has r q.1 q.2.1/\(∀a b,Has r a b->q.1<=a)/\(∀a b,Has q.2.2.2 a b->Has r a b)/\ ∀a b,Has r a b->(a=q.1/\b=q.2.1)∨Has q.2.2.2 a b):=by
 unfold oq.f vD.f;have hl:=h.Cc;have Ai:r.len≠0:=λz=>h.none z x y hy
 refine Ok.eq J (Ok.neg (by simpa using Ai) ((agn (x-r.ba).toNat fuel r x y U (by rw[cM];have:=h.at_;omega) h hx hy).bind λq hq=>?_))
 obtain⟨h1,h2,h3,h4,h5,h6⟩:=hq;have ha:=h1.at_;rw[mS ha.1];have hb:=h1.gone (rd q.buckets (q.ba%256)) (dS U (by rw[h1.len_];omega))
 refine Ok.cw (by rw[h1.len_];omega) ?_
 generalize hB:rd q.buckets (q.ba%256)=B at hb h5;have hg:B.gone<B.items.length:=by
  apply Classical.byContradiction;intro z;exact h5 (by unfold kD;rw[List.drop_eq_nil_iff];omega)
 have JB:kD B=rd B.items B.gone::B.items.drop (B.gone+1).toNat:=by unfold kD;rw[BF hb.1 hg]
 have hn:=h1.n_;have ad': ∃B',rH.f B=some (rd B.items B.gone,B')/\kD B'=B.items.drop (B.gone+1).toNat/\0<=B'.gone/\B'.gone<=B'.items.length/\B'.items.length<=n:=by
  unfold rH.f xn.f;rw[af ⟨hb.1,hg⟩,wi U U];simp only[aL]
  by_cases z:B.gone+1=B.items.length
  ·rw[af (by simpa using z),af U]
   exact⟨_,J,by unfold kD aA;simp;omega,Int.le_refl _,by simp,by simp[aA]⟩
  ·rw[ah (by simpa using z)]
   exact⟨_,J,J,by simp only;omega,by simp only;omega,hb.2.2⟩
 obtain⟨B',e1,e2,e3⟩:=ad';have hR:iF ⟨q.ba,aa (q.len-1),List.set q.buckets (Int.toNat (q.ba%256)) B'⟩ n:=by
  refine VR h1 (Nat.le_refl _) hn U U e3 ha ?_;rw[wi U U,hB,JB,e2];simp;omega
 have abB:Has r q.ba (rd B.items B.gone):=(h6 _ _).1 ⟨by omega,by omega,by rw[hB,JB];simp⟩
 have dN: ∀a:Int,rd (List.set q.buckets (Int.toNat (q.ba%256)) B') (a%256)=if a%256=q.ba%256 then B' else rd q.buckets (a%256):=λa=>kX U (by rw[h1.len_];omega) U
 refine Ok.eq e1 (Ok.pure ⟨J,hR,J,by simp only;rw[wi U U,h3],abB,λa b yv=>((h6 a b).2 yv).1,λa b yv=>?_,λa b yv=>?_⟩)
 ·obtain⟨q1,q2,q3⟩:=yv;simp only at q1 q2 q3;rw[dN] at q3;refine(h6 a b).1 ⟨q1,q2,?_⟩;split at q3
  ·rename_i z;rw[z,hB,JB];rw[e2] at q3;exact List.mem_cons_of_mem _ q3
  ·exact q3
 ·obtain⟨q1,q2,q3⟩:=(h6 a b).2 yv
  by_cases z:a%256=q.ba%256
  ·have:a=q.ba:=U;subst this;rw[hB,JB] at q3;rcases List.mem_cons.1 q3 with y |y
   ·exact .inl ⟨J,y⟩
   ·exact .inr ⟨q1,q2,by simp only;rw[dN,af J,e2];exact y⟩
  ·exact .inr ⟨q1,q2,by simp only;rw[dN,ah z];exact q3⟩
theorem aeC (h:iF r n) {key:Int} (k0:0<=key) (k1:key<=1099511627776) (h0:r.len=0):
 Ok (xm.f r key) (λx=>iF x.2 n/\x.2.len=0/\x.2.ba=if key<r.ba then r.ba else key):=by
 unfold xm.f;rw[ah U];refine Ok.eq J (Ok.ite (λz=>Ok.pure ⟨h,h0,?_⟩) λz=>Ok.pure ⟨⟨h.len_,by simp only;omega,h.gone,h.A6,h.n_⟩,h0,?_⟩)
 ·simp at z;rw[af U]
 ·simp at z;rw[ah U]
theorem Lr {n:Int} (h0:0<=n) (h1:n<4294967296):((BitVec.toNat (BitVec.ofInt (IntKind.bits .u64) n&&&BitVec.ofInt (IntKind.bits .u64) 4294967295):Nat):Int)=n:=by
 obtain⟨k,rfl⟩: ∃k:Nat,n=(k:Int):=⟨n.toNat,by omega⟩
 have e1:(BitVec.ofInt (IntKind.bits .u64) (k:Int)).toNat=k:=by
  show(BitVec.ofInt 64 (k:Int)).toNat=k
  rw[BitVec.toNat_ofInt];omega
 have e2:(BitVec.ofInt (IntKind.bits .u64) 4294967295).toNat=2^32-1:=by rfl
 rw[BitVec.toNat_and,e1,e2,Nat.and_two_pow_sub_one_eq_mod];omega
theorem qS {x:Int} (h1:0<=x) (h2:x<=18446744073709551615):eB x=x:=by
 unfold eB IntKind.wrap IntKind.signed IntKind.bits;simp;omega
theorem afE {n:Int} (h0:0<=n) (h1:n<4294967296):sD.f 1 n=some (0,n):=by
 unfold sD.f Cf.f;have a1:Int.fdiv 1 (2^32)=0:=by rfl
 have a2:Int.fdiv n (2^32)=0:=by rw[Int.fdiv_eq_ediv_of_nonneg _ U];omega
 have a3:((BitVec.toNat (BitVec.ofInt (IntKind.bits .u64) 1&&&BitVec.ofInt (IntKind.bits .u64) 4294967295):Nat):Int)=1:=Lr U U;have a4:=Lr h0 h1;have w0:eB 0=0:=qS U U;have w1:eB 1=1:=qS U U;have wn:eB n=n:=qS h0 U;have a5:((BitVec.toNat (BitVec.ofInt (IntKind.bits .u64) 0&&&BitVec.ofInt (IntKind.bits .u64) 4294967295):Nat):Int)=0:=Lr U U;have f0:Int.fdiv 0 (2^32)=0:=by rfl
 simp only[a1,a2,a3,a4,Int.zero_mul,Int.mul_zero,Int.one_mul,w0,w1,wn,Int.zero_add,a2,a5,f0,aL]
theorem ag6 {v:Int}: ∀(n k:Nat) (x:List Int) (i:Int),i+n≥x.length->1<=i->(x.length:Int)<=1000000000->n<k->(∀j:Int,0<=j->j<i->j<x.length->rd x j=v)->
 ka.l0 k x i=some (List.replicate x.length v):=by
 intro n
 induction n with
 |zero=>
  intro k x i hi h1 hb hk hx;obtain⟨k,rfl⟩:=bl hk;rw[ka.l0,ah U]
  congr 1
  apply GY bk;intro j j0 j1;rw[hx j j0 U j1,vy j0 U]
 |succ n ih=>
  intro k x i hi h1 hb hk hx;obtain⟨k,rfl⟩:=bl hk
  by_cases hq:i<x.length
  ·have s1:(aA x 0 i).length=i.toNat:=by rw[iP U];omega
   have s2:(aA x i (x.length:Int)).length=(x.length-i.toNat):=by rw[iP U];omega
   rw[ka.l0,af hq,af U,af U,s1,s2];have hlen:(cg x i.toNat (min i.toNat (x.length-i.toNat)) (aA x 0 i)).length=x.length:=zR U (by rw[s1];omega)
   rw[bj U U];have:=ih k (cg x i.toNat (min i.toNat (x.length-i.toNat)) (aA x 0 i)) (i+((min i.toNat (x.length-i.toNat):Nat):Int)) (by rw[hlen];omega) U (by rw[hlen];omega) U (λj j0 j1 j2=>?_)
   ·rw[this,hlen]
   ·rw[hlen] at j2;unfold cg
    by_cases vb:j<i
    ·rw[yW j0 (by rw[List.length_take];omega)]
     have:rd (x.take i.toNat) j=rd x j:=by
      unfold rd;simp[List.getD,List.getElem?_take,show j.toNat<i.toNat by omega]
     rw[this];exact hx j j0 vb U
    ·rw[mO (by rw[List.length_take];omega),List.length_take,show((min i.toNat x.length:Nat):Int)=i by omega]
     rw[yW U (by rw[List.length_take,s1];omega)]
     have:rd ((aA x 0 i).take (min i.toNat (x.length-i.toNat))) (j-i)=rd x (j-i):=by
      unfold rd aA;simp[List.getD,List.getElem?_take,show(j-i).toNat<i.toNat by omega,show(j-i).toNat<x.length-i.toNat by omega]
      rw[af U]
     rw[this];exact hx (j-i) U U U
  ·rw[ka.l0,ah hq]
   congr 1
   apply GY bk;intro j j0 j1;rw[hx j j0 U j1,vy j0 U]
theorem VQ {v:Int} {n:Nat} (h0:1<=n) (h1:n<=1000000000):ka.f [v] (n:Int)=some (List.replicate n v):=by
 unfold ka.f;have e1:eB (([v]:List Int).length:Int)=1:=by rw[show(([v]:List Int).length:Int)=1 from rfl];exact qS U U
 rw[ah U,e1,qS (x:=(n:Int)) U U,afE U U,aL];simp only;rw[ah bm,bj U U,af U,Int.toNat_natCast];have e2:min ([v]:List Int).length (List.replicate n (0:Int)).length=1:=by rw[List.length_replicate];simp;omega
 rw[e2];have e3:cg (List.replicate n (0:Int)) 0 1 [v]=v::List.replicate (n-1) 0:=by
  unfold cg;simp
 have hl:(v::List.replicate (n-1) (0:Int)).length=n:=by simp;omega
 rw[e3,ag6 (v:=v) n fuel _ ((1:Nat):Int) U U U (by rw[cM];omega) (λj j0 j1 _=>by
  rw[show j=0 by omega];rfl),hl]
 rfl
theorem ag5: ∀(k:Nat) (x:List Int) (i:Int),pA.l0 k x i=ka.l0 k x i:=by
 intro k
 induction k with
 |zero=>intros;rfl
 |succ k ih=>intro x i;rw[pA.l0,ka.l0];simp only[ih]
theorem ag8 {v:Int} {n:Nat} (h0:1<=n) (h1:n<=1000000000):pA.f [v] (n:Int)=some (List.replicate n v):=by
 rw[<-VQ h0 h1];unfold pA.f ka.f;simp only[ag5]
def zH (w h c:Int):Nat->Int->Bool
 |0,_=>false
 |n+1,j=>decide (0<=fS w h c j)||zH w h c n (j+1)
def CI (w h s l:Int):Bool:=zH w h (db w h s l) 4 0
def vH (w h s:Int) (n:Nat):List Int:=((List.range n).filter (λl:Nat=>CI w h s (l:Int))).map (λl:Nat=>db w h s (l:Int))
def qI (w h s:Int):List Int:=vH w h s ((ax w h s).1*(ax w h s).2).toNat
theorem ZV (w h s:Int) (n:Nat):vH w h s (n+1)=if CI w h s (n:Int)=true then vH w h s n++[db w h s (n:Int)] else vH w h s n:=by
 unfold vH;rw[List.range_succ,List.filter_append,List.map_append]
 by_cases h:CI w h s (n:Int)=true
 ·rw[af h];simp[h]
 ·rw[ah h];simp[h]
theorem QF (w h s:Int) (n:Nat):(vH w h s n).length<=n:=by
 unfold vH;rw[List.length_map];have:=List.length_filter_le (λl:Nat=>CI w h s (l:Int)) (List.range n);simpa using this
theorem zi (w h s:Int):0<=(ax w h s).1*(ax w h s).2/\(ax w h s).1*(ax w h s).2<=256:=by
 have hz:=size_le w h s;have:(ax w h s).1*(ax w h s).2<=16*16:=kA hz.1 hz.2.2.1 hz.2.1 hz.2.2.2;exact⟨nz hz.1 hz.2.2.1,by omega⟩
theorem OX {w h s l:Int} (h0:0<=l) (h1:l<(ax w h s).1*(ax w h s).2):bI w h s:=by
 by_cases hs:bI w h s
 ·exact hs
 ·have:ax w h s=(0,0):=by unfold ax;rw[ah hs]
  rw[this] at h1;simp at h1;omega
def vJ (tw th side i:Int):Int:=if side=2 then(th-1)*tw+i else if side=0 then i else if side=1 then tw-1+i*tw else i*tw
def pV (tw th side:Int):Int:=if side=2∨side=0 then tw else if side=1∨side=3 then th else 0
def pU (tw th side:Int) (n:Nat):List Int:=(List.range n).map (λi:Nat=>vJ tw th side (i:Int))
def rI (tw th side:Int):List Int:=pU tw th side (pV tw th side).toNat
theorem Iu (tw th side:Int) (n:Nat):pU tw th side (n+1)=pU tw th side n++[vJ tw th side (n:Int)]:=by
 unfold pU;rw[List.range_succ,List.map_append];rfl
theorem E7 (tw th side:Int) (n:Nat):(pU tw th side n).length=n:=by simp[pU]
theorem XT {tw th:Int} (side:Int) (t0:0<=tw) (t1:tw<=16) (u0:0<=th) (u1:th<=16):ff.f tw th side=some (rI tw th side):=by
 unfold ff.f rI;have hb: ∀i:Int,0<=i->i<=16->0<=i*tw/\i*tw<=256:=λi i0 i1=>⟨nz i0 t0,by have:=kA i0 t0 i1 t1;omega⟩
 by_cases h2:side=2
 ·subst h2;rw[af (by rfl)]
  have FT: -16<=(th-1)*tw/\(th-1)*tw<=256:=by
   have:=hb th u0 u1;rw[Int.sub_mul,Int.one_mul];omega
  have key: ∀(n k:Nat) (i:Int),i+n=tw->0<=i->n<k->ff.l0 k tw th (pU tw th 2 i.toNat) i=some (pU tw th 2 tw.toNat):=by
   intro n
   induction n with
   |zero=>
    intro k i hi h0 hk;obtain⟨k,rfl⟩:=bl hk;rw[ff.l0,ah U];rw[show i=tw by omega]
   |succ n ih=>
    intro k i hi h0 hk;obtain⟨k,rfl⟩:=bl hk;rw[ff.l0,af U,af (by rw[E7];omega),bj (x:=th-1) U U,bj (x:=(th-1)*tw) U U,bj U U,bj U U]
    have:=ih k (i+1) U U U;rw[show(i+1).toNat=i.toNat+1 by omega,Iu,show((i.toNat:Nat):Int)=i by omega] at this
    exact this
  exact key tw.toNat fuel 0 U U (by rw[cM];omega)
 rw[ah (by simpa using h2)]
 by_cases h0:side=0
 ·subst h0;rw[af (by rfl)]
  have key: ∀(n k:Nat) (i:Int),i+n=tw->0<=i->n<k->ff.l1 k tw (pU tw th 0 i.toNat) i=some (pU tw th 0 tw.toNat):=by
   intro n
   induction n with
   |zero=>
    intro k i hi h0 hk;obtain⟨k,rfl⟩:=bl hk;rw[ff.l1,ah U];rw[show i=tw by omega]
   |succ n ih=>
    intro k i hi h0 hk;obtain⟨k,rfl⟩:=bl hk;rw[ff.l1,af U,af (by rw[E7];omega),bj U U,bj U U,Int.zero_add]
    have:=ih k (i+1) U U U;rw[show(i+1).toNat=i.toNat+1 by omega,Iu,show((i.toNat:Nat):Int)=i by omega] at this
    exact this
  exact key tw.toNat fuel 0 U U (by rw[cM];omega)
 rw[ah (by simpa using h0)]
 by_cases h1:side=1
 ·subst h1;rw[af (by rfl)]
  have key: ∀(n k:Nat) (i:Int),i+n=th->0<=i->n<k->ff.l2 k tw th (pU tw th 1 i.toNat) i=some (pU tw th 1 th.toNat):=by
   intro n
   induction n with
   |zero=>
    intro k i hi h0 hk;obtain⟨k,rfl⟩:=bl hk;rw[ff.l2,ah U];rw[show i=th by omega]
   |succ n ih=>
    intro k i hi h0 hk;obtain⟨k,rfl⟩:=bl hk;have:=hb i U U;rw[ff.l2,af U,af (by rw[E7];omega),bj (x:=tw-1) U U,bj (x:=i*tw) U U,bj U U,bj U U]
    have:=ih k (i+1) U U U;rw[show(i+1).toNat=i.toNat+1 by omega,Iu,show((i.toNat:Nat):Int)=i by omega] at this
    exact this
  exact key th.toNat fuel 0 U U (by rw[cM];omega)
 rw[ah (by simpa using h1)]
 by_cases h3:side=3
 ·subst h3;rw[af (by rfl)]
  have key: ∀(n k:Nat) (i:Int),i+n=th->0<=i->n<k->ff.l3 k tw th (pU tw th 3 i.toNat) i=some (pU tw th 3 th.toNat):=by
   intro n
   induction n with
   |zero=>
    intro k i hi h0 hk;obtain⟨k,rfl⟩:=bl hk;rw[ff.l3,ah U];rw[show i=th by omega]
   |succ n ih=>
    intro k i hi h0 hk;obtain⟨k,rfl⟩:=bl hk;have:=hb i U U;rw[ff.l3,af U,af (by rw[E7];omega),bj (x:=i*tw) U U,Int.zero_add,bj U U,bj U U]
    have:=ih k (i+1) U U U;rw[show(i+1).toNat=i.toNat+1 by omega,Iu,show((i.toNat:Nat):Int)=i by omega] at this
    exact this
  exact key th.toNat fuel 0 U U (by rw[cM];omega)
 rw[ah (by simpa using h3)]
 have:pV tw th side=0:=by unfold pV;rw[ah U,ah U]
 rw[this];rfl
theorem ago {tw th side i:Int} (t0:1<=tw) (u0:1<=th) (i0:0<=i) (i1:i<pV tw th side):0<=vJ tw th side i/\vJ tw th side i<tw*th/\ue tw th (vJ tw th side i) side:=by
 have hb: ∀j:Int,0<=j->j<=th-1->0<=j*tw/\j*tw+tw<=tw*th:=λj j0 j1=>⟨nz j0 U,by
  have:=Int.mul_le_mul_of_nonneg_right j1 (by omega:0<=tw)
  rw[Int.sub_mul,Int.one_mul,Int.mul_comm th] at this;omega⟩
 unfold pV at i1;unfold vJ ue
 by_cases h2:side=2
 ·subst h2;rw[af (Or.inl J)] at i1;simp only[if_true];have:=hb (th-1) U U;have q:=qC (y:=th-1) i0 i1;simp only[show ¬((2:Int)=0) by omega,show ¬((2:Int)=1) by omega,if_false]
  exact⟨by omega,by omega,q.2⟩
 by_cases h0:side=0
 ·subst h0;rw[af (Or.inr J)] at i1;have:=hb 0 U U;simp only[if_true,show ¬((0:Int)=2) by omega,if_false]
  exact⟨i0,by omega,Int.ediv_eq_zero_of_lt i0 i1⟩
 by_cases h1:side=1
 ·subst h1;rw[ah U,af (Or.inl J)] at i1;simp only[show ¬((1:Int)=2) by omega,show ¬((1:Int)=0) by omega,if_false,if_true]
  have:=hb i U U;have q:=qC (a:=tw) (x:=tw-1) (y:=i) U U;rw[Int.add_comm];exact⟨by omega,by omega,q.1⟩
 ·rw[ah U] at i1
  by_cases h3:side=3
  ·subst h3;rw[af (Or.inr J)] at i1;have:=hb i U U;simp only[show ¬((3:Int)=2) by omega,show ¬((3:Int)=0) by omega,show ¬((3:Int)=1) by omega,if_false]
   exact⟨by omega,by omega,Int.mul_emod_left _ _⟩
  ·rw[ah U] at i1;omega
theorem afo {tw th side l:Int} (t0:1<=tw) (u0:1<=th) (s0:0<=side) (s3:side<=3):l∈rI tw th side↔0<=l/\l<tw*th/\ue tw th l side:=by
 constructor
 ·intro hm;unfold rI pU at hm;obtain⟨i,hi,rfl⟩:=List.mem_map.mp hm;have ry:=List.mem_range.mp hi;exact ago t0 u0 U U
 ·rintro⟨l0,l1,yC⟩;have a1:0<=l%tw:=Int.emod_nonneg _ U;have a2:l%tw<tw:=Int.emod_lt_of_pos _ U;have a3:0<=l/tw:=Int.ediv_nonneg l0 U;have a4:l/tw<th:=Int.ediv_lt_of_lt_mul U (by rw[Int.mul_comm];exact l1)
  have a5:=Int.mul_ediv_add_emod l tw;rw[Int.mul_comm] at a5;have hc:side=0∨side=1∨side=2∨side=3:=U;have go: ∀i:Int,0<=i->i<pV tw th side->vJ tw th side i=l->l∈rI tw th side:=λi i0 i1 e=>by
   unfold rI pU;exact List.mem_map.mpr ⟨i.toNat,List.mem_range.mpr U,by rw[show((i.toNat:Nat):Int)=i by omega];exact e⟩
  unfold ue at yC;rcases hc with rfl |rfl |rfl |rfl
  ·simp only[if_true] at yC;exact go (l%tw) a1 a2 (by unfold vJ;rw[yC] at a5;simp;omega)
  ·simp at yC;exact go (l/tw) a3 a4 (by unfold vJ;rw[yC] at a5;simp;omega)
  ·simp at yC;exact go (l%tw) a1 a2 (by unfold vJ;rw[yC] at a5;simp;omega)
  ·simp at yC;exact go (l/tw) a3 a4 (by unfold vJ;rw[yC] at a5;simp;omega)
theorem ZZ (v:List Int) (hv:v.length<=1000) (N:Int) (cu: ∀y∈v,0<=y/\y<N): ∀(n k:Nat) (i:Int) (x:List Bool),i+n=v.length->0<=i->n<k->(x.length:Int)=N->
 ∃x',gB.l1 k v x i=some x'/\(x'.length:Int)=N/\ ∀l:Int,0<=l->l<N->rd x' l=(rd x l||decide (l∈v.drop i.toNat)):=by
 intro n
 induction n with
 |zero=>
  intro k i x hi h0 hk hx;obtain⟨k,rfl⟩:=bl hk;refine⟨x,by rw[gB.l1,ah U],hx,λl l0 l1=>?_⟩
  rw[List.drop_of_length_le U];simp
 |succ n ih=>
  intro k i x hi h0 hk hx;obtain⟨k,rfl⟩:=bl hk;have hy:=cu _ (dS h0 (by omega:i<(v.length:Int)))
  obtain⟨x',e,hl,hr⟩:=ih k (i+1) (List.set x (Int.toNat (rd v i)) true) U U U (by simpa using hx)
  refine⟨x',by rw[gB.l1,af U,af U,af U,bj U U];exact e,hl,λl l0 l1=>?_⟩
  rw[hr l l0 l1,kX hy.1 U l0,BF h0 U]
  by_cases hq:l=rd v i
  ·rw[af hq,hq];simp
  ·rw[ah hq];simp[hq]
theorem Z0 (w h s:Int) (x:List Bool) (hx:(x.length:Int)=(ax w h s).1*(ax w h s).2) (hr: ∀l:Int,0<=l->l<x.length->rd x l=CI w h s l): ∀(n k:Nat) (i:Int),i+n=x.length->0<=i->n<k->
 gB.l2 k w h s x (vH w h s i.toNat) i=some (qI w h s):=by
 have hz:=zi w h s;intro n
 induction n with
 |zero=>
  intro k i hi h0 hk;obtain⟨k,rfl⟩:=bl hk;rw[gB.l2,ah U];unfold qI;rw[show i=(ax w h s).1*(ax w h s).2 by omega]
 |succ n ih=>
  intro k i hi h0 hk;obtain⟨k,rfl⟩:=bl hk;have hle:=QF w h s i.toNat;have:=ih k (i+1) U U U;rw[show(i+1).toNat=i.toNat+1 by omega,ZV,show((i.toNat:Nat):Int)=i by omega] at this
  rw[gB.l2,af U,af U,hr i h0 U,bj U U]
  by_cases hb:CI w h s i=true
  ·rw[af hb] at this;rw[af hb,I4,aL,af U];exact this
  ·rw[ah hb] at this;rw[ah hb];exact this
theorem Wh {j:Int} (h0:0<=j) (h3:j<=3):rd ([rd ([0,1,2,3]:List Int) 0,rd ([0,1,2,3]:List Int) 1,rd ([0,1,2,3]:List Int) 2,rd ([0,1,2,3]:List Int) 3]:List Int) j=j:=by
 have:j=0∨j=1∨j=2∨j=3:=U;rcases this with rfl |rfl |rfl |rfl<;>rfl
theorem PV (w h c:Int): ∀(n:Nat) (j:Int),zH w h c (n+1) j=(zH w h c n j||decide (0<=fS w h c (j+n))):=by
 intro n
 induction n with
 |zero=>intro j;simp[zH]
 |succ n ih=>
  intro j;rw[zH,ih (j+1),zH,Bool.or_assoc];rw[show j+1+(n:Int)=j+((n+1:Nat):Int) by omega]
theorem ZY (w h s:Int): ∀(n k:Nat) (j:Int) (x:List Bool),j+n=4->0<=j->n<k->(x.length:Int)=(ax w h s).1*(ax w h s).2->
 (∀l:Int,0<=l->l<x.length->rd x l=zH w h (db w h s l) j.toNat 0)->
 gB.l0 k w h s (ax w h s) [0,1,2,3] x j=some (qI w h s):=by
 have hz:=zi w h s;have Ap:=size_le w h s;intro n
 induction n with
 |zero=>
  intro k j x hj h0 hk hx hr;obtain⟨k,rfl⟩:=bl hk;rw[gB.l0,ah U];have e:j.toNat=4:=U;rw[e] at hr;exact Z0 w h s x hx hr x.length fuel 0 U U (by rw[cM];omega)
 |succ n ih=>
  intro k j x hj h0 hk hx hr;obtain⟨k,rfl⟩:=bl hk;rw[gB.l0,af U,Wh h0 U,XT j Ap.1 Ap.2.1 Ap.2.2.1 Ap.2.2.2,af bm,bj U U];rw[aL]
  by_cases hs:bI w h s
  ·have JL:=pY hs;have hlen:((rI (ax w h s).1 (ax w h s).2 j).length:Int)=pV (ax w h s).1 (ax w h s).2 j:=by
    unfold rI;rw[E7];unfold pV;split
    ·omega
    ·split<;>omega
   have hlp:1<=pV (ax w h s).1 (ax w h s).2 j/\pV (ax w h s).1 (ax w h s).2 j<=16:=by
    unfold pV;split
    ·omega
    ·rw[af U];omega
   have jh:=λl=>afo (l:=l) JL.1 JL.2.2.1 h0 (by omega:j<=3)
   have h0m:=dS (a:=rI (ax w h s).1 (ax w h s).2 j) (i:=0) U U;obtain⟨f0,f1,f2⟩:=(jh _).mp h0m;rw[ah (by rw[beq_iff_eq];omega),af U,I4,aL,U2,aL,aL]
   have vd:=Kg hs f0 f1 h0 (by omega:j<=3)
   by_cases hn:fS w h (db w h s (rd (rI (ax w h s).1 (ax w h s).2 j) 0)) j<0
   ·have bL: ¬AP w h s j:=λq=>by have:=vd.mpr ⟨q,f2⟩;omega
    rw[af (by simpa using hn),aL]
    refine ih k (j+1) x U U U hx (λl l0 l1=>?_);rw[hr l l0 l1,show(j+1).toNat=j.toNat+1 by omega,PV,Int.zero_add,show((j.toNat:Nat):Int)=j by omega]
    rw[decide_eq_false (λq=>bL ((Kg hs l0 U h0 (by omega:j<=3)).mp q).1)];simp
   ·have hed:AP w h s j:=(vd.mp U).1;obtain⟨x',e,hl,hq⟩:=ZZ (rI (ax w h s).1 (ax w h s).2 j) U _ (λy hy=>⟨((jh y).mp hy).1,((jh y).mp hy).2.1⟩) (rI (ax w h s).1 (ax w h s).2 j).length fuel 0 x U U (by rw[cM];omega) hx
    rw[ah (by simpa using hn),e,aL]
    refine ih k (j+1) x' U U U hl (λl l0 l1=>?_);rw[hq l l0 U,hr l l0 U,show(j+1).toNat=j.toNat+1 by omega,PV,Int.zero_add,show((j.toNat:Nat):Int)=j by omega]
    congr 1
    simp only[Int.toNat_zero,List.drop_zero,decide_eq_decide];rw[jh,Kg hs l0 U h0 (by omega:j<=3)]
    exact⟨λq=>⟨hed,q.2.2⟩,λq=>⟨l0,by omega,q.2⟩⟩
  ·have e0:ax w h s=(0,0):=by unfold ax;rw[ah hs]
   have e1:rI (ax w h s).1 (ax w h s).2 j=[]:=by
    unfold rI;rw[e0];have:pV (0,0).1 (0,0).2 j=0:=by unfold pV;split<;>simp
    rw[this];rfl
   rw[e1,af bk,aL,af J,aL];refine ih k (j+1) x U U U hx (λl l0 l1=>?_);rw[e0] at hx;simp at hx;subst hx;simp at l1;omega
theorem ZW (w h s:Int):gB.f w h s=some (qI w h s):=by
 unfold gB.f;have hz:=zi w h s;have e:yg.f=some [0,1,2,3]:=rfl;rw[Hg,aL,bj (x:=_*_) U U,af U,e,aL];refine ZY w h s 4 fuel 0 _ U U (by rw[cM];omega) bm (λl l0 l1=>?_)
 rw[vy l0 (by simpa using l1)];rfl
abbrev tq (m:aJ):Prop:=iD m.W m.H/\(m.C.length:Int)=m.W*m.H/\0∉m.C
theorem Qe (m:aJ) (hb:m.C.length<4611686018427387904):yb.f m=some (decide (tq m)):=by
 unfold yb.f;rw[Az]
 by_cases hm:iD m.W m.H
 ·have hp:=tX hm;rw[bj (x:=m.W*m.H) U U,LY _ _ hb]
  by_cases hl:(m.C.length:Int)=m.W*m.H
  ·simp[hm,hl]
  ·simp[hl]
 ·simp[hm]
theorem XS {x:List Int} {v:Int} (h: ∀c:Int,0<=c->c<x.length->rd x c=v):x=List.replicate x.length v:=by
 rw[List.eq_replicate_iff];refine⟨J,λb hb=>?_⟩
 obtain⟨i,hi,rfl⟩:=List.getElem_of_mem hb;have:=h i U U;rw[jm (by simpa using hi)] at this
 simpa using this
theorem afQ (m:aJ) (e:Int) (v2:List Int) (v3:Int×Int) (he:0<=e/\e<=4611686018427387904) (N:Nat) (hN:(List.replicate (Int.toNat (aa (v3.1*v3.2))) (0:Int)).length=N) (hb:N<=1000000):
 ∀(n k:Nat) (x:List Int) (i:Int),x.length=N->i+n=N->0<=i->n<k->(∀c:Int,0<=c->c<i->rd x c=e+1)->
 lS.l0 k m e v2 v3 x i=some (some (bw.mk (aJ.mk m.W m.H v2) (e+1) (List.replicate N (e+1)))):=by
 intro n
 induction n with
 |zero=>
  intro k x i hx hi h0 hk ha;obtain⟨k,rfl⟩: ∃q,k=q+1:=⟨k-1,by omega⟩
  rw[lS.l0,hN,ah U,bj U U];have:=XS (x:=x) (v:=e+1) (λc c0 c1=>ha c c0 U);rw[hx] at this;rw[this]
 |succ n ih=>
  intro k x i hx hi h0 hk ha;obtain⟨k,rfl⟩: ∃q,k=q+1:=⟨k-1,by omega⟩
  rw[lS.l0,hN,af U,af U,bj (x:=e+1) U U,bj (x:=i+1) U U];refine ih k _ (i+1) (by simpa using hx) U U U (λc c0 c1=>?_)
  rw[GX h0 U c0]
  by_cases hc:c=i
  ·rw[af hc]
  ·rw[ah hc];exact ha c c0 U
def IZ (m:aJ) (e:Int):Option bw:=if tq m/\0<=e/\e<=4611686018427387904 then some (bw.mk m (e+1) (List.replicate (dT m.W m.H).toNat (e+1))) else none
theorem abw (m:aJ) (e:Int) (hb:m.C.length<=1099511627776):lS.f m e=some (IZ m e):=by
 unfold lS.f IZ;rw[Qe m U]
 by_cases h:tq m/\0<=e/\e<=4611686018427387904
 ·have hc:=oR m.W m.H;have hs:aa ((bo m.W m.H).1*(bo m.W m.H).2)=dT m.W m.H:=bj (by unfold dT at hc;omega) (by unfold dT at hc;omega)
  simp only[aL,decide_eq_true h.1,Bool.not_true,Bool.false_or];rw[ah bm,af h,QH _ hb,Ep];simp only[aL];rw[hs,af U];exact afQ m e m.C _ h.2 (dT m.W m.H).toNat (by rw[hs];simp) U (dT m.W m.H).toNat fuel _ 0 bk U U (by rw[tD];omega) (λc c0 c1=>by omega)
 ·rw[ah h]
  by_cases h1:tq m
  ·have: ¬(0<=e/\e<=4611686018427387904):=λq=>h ⟨h1,q⟩
   simp only[aL,decide_eq_true h1,Bool.not_true,Bool.false_or];rw[af bm]
  ·simp only[aL,decide_eq_false h1,Bool.not_false,Bool.true_or,if_true]
structure dE (g:bw) (more:Int):Prop where
 ok:tq g.m
 rZ: ∀c:Int,0<=c->c<g.m.W*g.m.H->1<=rd g.m.C c/\rd g.m.C c<=255
 vs:(g.pC.length:Int)=dT g.m.W g.m.H
 ep:1<=g.bK/\g.bK+more<=4611686018427387905+1000/\0<=more
def cN (m:aJ) (c:Int):Prop:=0<=c/\c<m.W*m.H
instance (m:aJ) (c:Int):Decidable (cN m c):=by unfold cN;infer_instance
def fx (g:bw) (c:Int):Int:=if cN g.m c then rd g.m.C c else 0
def fy (g:bw) (s:Int):Int:=if 0<=s/\s<dT g.m.W g.m.H then rd g.pC s else 0
def mF (g:bw) (c v:Int):bw:=bw.mk (aJ.mk g.m.W g.m.H (List.set g.m.C c.toNat v)) (g.bK+1) (List.set g.pC (aY g.m.W g.m.H c).toNat (g.bK+1))
def IY (g:bw) (c v:Int):Int×bw:=if ¬cN g.m c then(7,g) else if v<1∨255<v then(8,g) else(0,mF g c v)
variable {g : bw} {more : Int}
theorem UX (h:dE g more) (c:Int):(if c<0 then(some true) else(some (decide (c≥(List.length g.m.C:Int)))))=some (decide (¬cN g.m c)):=by
 have hl:=h.ok.2.1;unfold cN
 by_cases h0:c<0
 ·rw[af h0,decide_eq_true U]
 ·rw[ah h0,hl];congr 1;rw[Bool.eq_iff_iff];simp;omega
theorem uK (h:dE g more) (c:Int):jf.f g c=some (fx g c):=by
 unfold jf.f fx;rw[UX h];have hl:=h.ok.2.1
 by_cases hc:cN g.m c
 ·obtain⟨c0,c1⟩:=hc;have hb:=h.rZ c c0 c1;have hc:cN g.m c:=⟨c0,c1⟩;rw[aL,ah (by simpa using hc),af U,af hc,bj U U]
 ·rw[aL,af (by simpa using hc),ah hc]
theorem aaO (h:dE g more) (c v:Int):wJ.f g c v=some (IY g c v):=by
 unfold wJ.f IY;rw[UX h];have hl:=h.ok.2.1;have hv:=h.vs
 by_cases hc:cN g.m c
 ·obtain⟨c0,c1⟩:=hc;have hc:cN g.m c:=⟨c0,c1⟩;rw[aL,ah (by simpa using hc),ah (c:= ¬cN g.m c) (λq=>q hc)]
  by_cases hq:v<1∨255<v
  ·rw[af bm,af hq]
  ·have eo:bT g.m.W g.m.H c:=⟨h.ok.1,c0,c1⟩;have yD:bI g.m.W g.m.H (aY g.m.W g.m.H c):=by unfold aY;rw[af eo];exact Eo eo
   have Nf:=h.ep;rw[ah bm,ah hq,af U,sX,aL,af (by rw[hv];exact⟨yD.1,yD.2⟩),EF U U,bj U U]
   rfl
 ·rw[aL,af (by simpa using hc),af (c:= ¬cN g.m c) hc]
theorem ae3 (h:dE g more) (h1:1<=more) {c v:Int} (hc:cN g.m c) (v0:1<=v) (v1:v<=255):dE (mF g c v) (more-1):=by
 obtain⟨c0,c1⟩:=hc;have hl:=h.ok.2.1;have Nf:=h.ep;have iL: ∀d:Int,0<=d->d<g.m.W*g.m.H->1<=rd (List.set g.m.C c.toNat v) d/\rd (List.set g.m.C c.toNat v) d<=255:=λd d0 d1=>by
  rw[GX c0 U d0];split
  ·exact⟨v0,v1⟩
  ·exact h.rZ d d0 d1
 refine⟨⟨h.ok.1,by simp[mF,hl],λhm=>?_⟩,iL,by simp[mF,h.vs],⟨by simp[mF];omega,by simp[mF];omega,by omega⟩⟩
 obtain⟨i,hi,he⟩:=List.getElem_of_mem hm;have ry:i<(List.set g.m.C c.toNat v).length:=hi;rw[List.length_set] at ry;have:=iL i U U;rw[jm (show(i:Int).toNat<(List.set g.m.C c.toNat v).length by rw[List.length_set];omega)] at this
 have he:(List.set g.m.C c.toNat v)[i]=0:=he;simp only[Int.toNat_natCast] at this;omega
def lY (m:aJ) (c:Int):Bool:=decide (cN m c)&&decide (rd m.C c≠255)
theorem AZ {m:aJ} {c:Int}:lY m c=true↔cN m c/\rd m.C c≠255:=by simp[lY]
theorem Oi {g:bw} {more:Int} (h:dE g more) (c:Int):tx.f g c=some (lY g.m c):=by
 unfold tx.f;rw[uK h,aL];unfold fx lY
 by_cases hc:cN g.m c
 ·have:=h.rZ c hc.1 hc.2;rw[af hc,decide_eq_true hc]
  congr 1
  rw[Bool.eq_iff_iff];simp;omega
 ·rw[ah hc,decide_eq_false hc];simp
theorem ah5 (m:aJ) {c:Int} (hc:c<0):lY m c=false:=by
 unfold lY;rw[decide_eq_false (λq=>by have:=q.1;omega)];rfl
def bH (m:aJ) (s:Int):List Int:=(qI m.W m.H s).filter (lY m)
theorem QG (w h s:Int):(qI w h s).length<=256:=by
 have:=zi w h s;have:=QF w h s ((ax w h s).1*(ax w h s).2).toNat;unfold qI;omega
theorem af2 {g:bw} {more:Int} (h:dE g more) (v:List Int) (hv:v.length<=1000): ∀(n k:Nat) (i:Int) (x:List Int),i+n=v.length->0<=i->n<k->x.length<=i.toNat->
 jY.l0 k g v x i=some (x++(v.drop i.toNat).filter (lY g.m)):=by
 intro n
 induction n with
 |zero=>
  intro k i x hi h0 hk hx;obtain⟨k,rfl⟩:=bl hk;rw[jY.l0,ah U,List.drop_of_length_le U];simp
 |succ n ih=>
  intro k i x hi h0 hk hx;obtain⟨k,rfl⟩:=bl hk;rw[jY.l0,af U,af U,Oi h,aL,bj U U,BF h0 U]
  by_cases ho:lY g.m (rd v i)=true
  ·rw[af ho,af U,ih k (i+1) _ U U U bm,List.filter_cons_of_pos ho];simp
  ·rw[ah ho,ih k (i+1) _ U U U U,List.filter_cons_of_neg ho]
theorem UL {g:bw} {more:Int} (h:dE g more) (s:Int):jY.f g s=some (bH g.m s):=by
 unfold jY.f;have e0:iJ.f g=some (g.m.W,g.m.H):=rfl;have hl:=QG g.m.W g.m.H s;rw[e0,aL,ZW,aL];have:=af2 h (qI g.m.W g.m.H s) U (qI g.m.W g.m.H s).length fuel 0 [] U U (by rw[cM];omega) bk
 exact this
def xq (m:aJ) (c:Int) (n:Nat):List dU:=((List.range n).filter (λj:Nat=>lY m (fS m.W m.H c (j:Int)))).map (λj:Nat=>dU.mk (fS m.W m.H c (j:Int)) (rd m.C (fS m.W m.H c (j:Int))))
def vI (m:aJ) (c:Int):List dU:=if lY m c=true then xq m c 4 else[]
theorem aap (m:aJ) (c:Int) (n:Nat):xq m c (n+1)=if lY m (fS m.W m.H c (n:Int))=true then xq m c n++[dU.mk (fS m.W m.H c (n:Int)) (rd m.C (fS m.W m.H c (n:Int)))] else xq m c n:=by
 unfold xq;rw[List.range_succ,List.filter_append,List.map_append]
 by_cases h:lY m (fS m.W m.H c (n:Int))=true
 ·rw[af h];simp[h]
 ·rw[ah h];simp[h]
theorem QS (m:aJ) (c:Int) (n:Nat):(xq m c n).length<=n:=by
 unfold xq;rw[List.length_map];have:=List.length_filter_le (λj:Nat=>lY m (fS m.W m.H c (j:Int))) (List.range n);simpa using this
theorem aaq {g:bw} {more:Int} (h:dE g more) (c:Int):na.f g c=some (vI g.m c):=by
 unfold na.f vI;have e0:iJ.f g=some (g.m.W,g.m.H):=rfl;have e:yg.f=some [0,1,2,3]:=rfl;rw[e0,aL,Oi h,aL]
 by_cases ho:lY g.m c=true
 ·rw[ah (by rw[ho];simp),e,aL,af ho]
  have key: ∀(n k:Nat) (j:Int),j+n=4->0<=j->n<k->na.l0 k g c (g.m.W,g.m.H) [0,1,2,3] (xq g.m c j.toNat) j=some (xq g.m c 4):=by
   intro n
   induction n with
   |zero=>
    intro k j hj h0 hk;obtain⟨k,rfl⟩:=bl hk;rw[na.l0,ah U];rw[show j.toNat=4 by omega]
   |succ n ih=>
    intro k j hj h0 hk;obtain⟨k,rfl⟩:=bl hk;have hle:=QS g.m c j.toNat;have:=ih k (j+1) U U U;rw[show(j+1).toNat=j.toNat+1 by omega,aap,show((j.toNat:Nat):Int)=j by omega] at this
    rw[na.l0,af U,Wh h0 U,U2,af bm,aL,bj U U];have e2:(if fS g.m.W g.m.H c j≥0 then((tx.f g (fS g.m.W g.m.H c j)).bind λv12=>some v12) else(some false))=some (lY g.m (fS g.m.W g.m.H c j)):=by
     by_cases hn:fS g.m.W g.m.H c j≥0
     ·rw[af hn,Oi h];rfl
     ·rw[ah hn,ah5 _ U]
    rw[e2,aL]
    by_cases hq:lY g.m (fS g.m.W g.m.H c j)=true
    ·rw[af hq] at this;have DI:fx g (fS g.m.W g.m.H c j)=rd g.m.C (fS g.m.W g.m.H c j):=by unfold fx;rw[af (AZ.mp hq).1]
     rw[af hq,uK h,aL,af U,DI];exact this
    ·rw[ah hq] at this;rw[ah hq];exact this
  exact key 4 fuel 0 U U (by rw[cM];omega)
 ·rw[af (by simpa using ho),ah ho]
theorem Cc {tw th side:Int} (t0:0<=tw) (t1:tw<=16) (u0:0<=th) (u1:th<=16):0<=pV tw th side/\pV tw th side<=16:=by
 unfold pV;split
 ·omega
 ·split<;>omega
theorem QT (m:aJ) (c:Int):(vI m c).length<=4:=by
 unfold vI;split
 ·exact QS m c 4
 ·simp
def eG (p:Int->Bool):Nat->Nat
 |0=>0
 |n+1=>eG p n+if p n then 1 else 0
theorem Ft (p:Int->Bool): ∀n,eG p n<=n
 |0=>Nat.le_refl _
 |n+1=>by have:=Ft p n;unfold eG;split<;>omega
theorem QK {p q:Int->Bool}: ∀{n:Nat},(∀i:Int,0<=i->i<n->p i=q i)->eG p n=eG q n
 |0,_=>rfl
 |n+1,h=>by unfold eG;rw[QK (λi a b=>h i a U),h n U U]
theorem LV {p q:Int->Bool} {c:Int}: ∀{n:Nat},0<=c->c<n->p c=true->q c=false->(∀i:Int,0<=i->i<n->i≠c->q i=p i)->eG p n=eG q n+1
 |0,h0,h1,_,_,_=>by omega
 |n+1,h0,h1,hp,hq,he=>by
  unfold eG
  by_cases z:c=n
  ·subst z;rw[hp,hq,QK (p:=p) (q:=q) (λi a b=>(he i a U U).symm)];simp
  ·rw[LV h0 U hp hq (λi a b=>he i a U),he n U U (λy=>z y.symm)];omega
theorem pc {m:aJ} (hm:tq m) {c:Int} (h:cN m c):bT m.W m.H c:=⟨hm.1,h.1,h.2⟩
theorem aio {m:aJ} {c s:Int} (h0: ¬cD m.W m.H c s<0):cN m (cD m.W m.H c s):=by
 unfold cD at h0⊢;split at h0
 ·rename_i h;rw[af h];unfold pt at h0⊢;split at h0
  ·rename_i q;rw[af q];exact r_ q.2.1 q.2.2.1 q.2.2.2.1 q.2.2.2.2
  ·omega
 ·omega
theorem CO (g:bw):iJ.f g=some (g.m.W,g.m.H):=rfl
theorem Fx (g:bw):oW.f g=some g.bK:=rfl
end Go.Proofs.YthodkonhneebbaaGreatDoor
