/- What the functions do, in plain Lean, on the objects that are kept in order. -/
import Derived.Test.YthodkonhneebbaaGreatDoorKS6
import Derived.Test.YthodkonhneebbaaGreatDoorKS5
import Derived.Test.YthodkonhneebbaaGreatDoorKS11
import Derived.Test.YthodkonhneebbaaGreatDoorKS7
import Derived.Test.YthodkonhneebbaaGreatDoorKS10
import Derived.Test.YthodkonhneebbaaGreatDoorKS8
namespace Go.Proofs.YthodkonhneebbaaGreatDoor
open Go.Hx
set_option linter.unusedVariables false
set_option linter.unusedSimpArgs false
theorem bn {x:Int} (h1: -9223372036854775808<=x) (h2:x<=9223372036854775807):aa x=x:=by
 unfold aa IntKind.wrap IntKind.signed IntKind.bits;simp;omega
theorem ru {a b:Int} (h:0<=a):Int.tdiv a b=a/b:=Int.tdiv_eq_ediv_of_nonneg h
theorem nk {a b:Int} (h:0<=a):Int.tmod a b=a%b:=Int.tmod_eq_emod_of_nonneg h
abbrev iO (w h:Int):Prop:=1<=w/\w<=1024/\1<=h/\h<=1024
abbrev bZ (w h c:Int):Prop:=iO w h/\0<=c/\c<w*h
theorem ka {a b m n:Int} (ha:0<=a) (hb:0<=b) (h1:a<=m) (h2:b<=n):a*b<=m*n:=
 Int.mul_le_mul h1 h2 hb U
theorem nP {a b:Int} (ha:0<=a) (hb:0<=b):0<=a*b:=Int.mul_nonneg ha hb
theorem uZ {w h:Int} (hm:iO w h):1<=w*h/\w*h<=1048576:=by
 obtain⟨a,b,c,d⟩:=hm;have h1:w*h<=1024*1024:=ka U U b d;have h2:1*1<=w*h:=Int.mul_le_mul a c U U;omega
theorem A' (w h:Int):og.f w h=some (decide (iO w h)):=by
 unfold og.f
 congr 1
 simp only[iO];rw[Bool.eq_iff_iff];simp;omega
theorem OB (n lo hi:Int):tJ.f n lo hi=some (decide (lo<=n/\n<=hi)):=by
 unfold tJ.f
 congr 1
 rw[Bool.eq_iff_iff];simp
theorem aif (w h:Int):Dg.f w h=some (decide (iO w h)):=by
 unfold Dg.f;simp only[OB,aI,iO]
 by_cases h1:1<=w/\w<=1024
 ·simp[h1]
 ·simp[h1];omega
def bp (w h:Int):Int×Int:=if iO w h then((w+15)/16,(h+15)/16) else(0,0)
theorem Fb (w h:Int):qA.f w h=some (bp w h):=by
 unfold qA.f bp;simp only[A',aI]
 by_cases hm:iO w h
 ·rw[decide_eq_true hm,af hm,ah bd];obtain⟨a,b,c,d⟩:=hm;simp only[bn (x:=w+16) U U,bn (x:=h+16) U U,bn (x:=w+16-1) U U,bn (x:=h+16-1) U U,
   ru (a:=w+16-1) U,ru (a:=h+16-1) U,bn (x:=(w+16-1)/16) U U,bn (x:=(h+16-1)/16) U U]
  congr 2<;>omega
 ·simp[hm]
theorem PA (w h:Int):wv.f w h=some (bp w h):=by
 rw[<-Fb];unfold wv.f qA.f;rw[aif,A']
theorem Ds {w h:Int} (hm:iO w h):1<=(bp w h).1/\(bp w h).1<=64/\1<=(bp w h).2/\(bp w h).2<=64:=by
 unfold bp;rw[af hm];obtain⟨a,b,c,d⟩:=hm;simp only;omega
theorem aiO (w h:Int):0<=(bp w h).1/\(bp w h).1<=64/\0<=(bp w h).2/\(bp w h).2<=64:=by
 by_cases hm:iO w h
 ·have:=Ds hm;omega
 ·unfold bp;rw[ah hm];simp
def eh (w h:Int):Int:=(bp w h).1*(bp w h).2
theorem pn (w h:Int):0<=eh w h/\eh w h<=4096:=by
 obtain⟨a,b,c,d⟩:=aiO w h;have h1:eh w h<=64*64:=ka a c b d;have h2:0<=eh w h:=nP a c;omega
theorem abm {w h:Int} (hm:iO w h):1<=eh w h:=by
 obtain⟨a,b,c,d⟩:=Ds hm;have h2:1*1<=eh w h:=Int.mul_le_mul a c U U;omega
theorem Pq (w h:Int):zG.f w h=some (eh w h):=by
 unfold zG.f;have:=pn w h;simp only[PA,aI,eh];unfold eh at this;rw[bn U U]
abbrev bK (w h s:Int):Prop:=0<=s/\s<eh w h
def H_ (w h s:Int):Int×Int×Bool:=if bK w h s then(16*(s%(bp w h).1),16*(s/(bp w h).1),true) else(0,0,false)
theorem tX {w h s:Int} (hs:bK w h s):iO w h:=by
 by_cases hm:iO w h
 ·exact hm
 ·have:eh w h=0:=by unfold eh bp;rw[ah hm];simp
  obtain⟨a,b⟩:=hs;omega
theorem ve {w h s:Int} (hs:bK w h s):0<=s%(bp w h).1/\s%(bp w h).1<(bp w h).1/\0<=s/(bp w h).1/\s/(bp w h).1<(bp w h).2:=by
 obtain⟨a,b,c,d⟩:=Ds (tX hs);obtain⟨h0,h1⟩:=hs;refine⟨Int.emod_nonneg _ U,Int.emod_lt_of_pos _ U,Int.ediv_nonneg h0 U,?_⟩;unfold eh at h1;exact Int.ediv_lt_of_lt_mul U (by rw[Int.mul_comm];exact h1)
theorem RG (w h s:Int):zZ.f w h s=some (H_ w h s):=by
 unfold zZ.f H_;simp only[Fb,aI];have hc:=pn w h;have hw:aa ((bp w h).1*(bp w h).2)=eh w h:=by unfold eh at hc⊢;exact bn U U
 rw[hw]
 by_cases hs:bK w h s
 ·have hb:((decide (s<0))||(decide (s≥eh w h)))=false:=by
   obtain⟨h0,h1⟩:=hs;simp;omega
  rw[hb];obtain⟨p1,p2,p3,p4⟩:=ve hs;obtain⟨a,b,c,d⟩:=Ds (tX hs);have bQ: ¬(bp w h).1=0:=U;rw[ah bd,af bQ,af bQ,af hs,nk hs.1,ru hs.1];rw[bn (x:=s/(bp w h).1) U U,bn U U,bn U U];rw[Int.mul_comm 16,Int.mul_comm 16]
 ·have hb:((decide (s<0))||(decide (s≥eh w h)))=true:=by
   simp only[bK] at hs;simp;omega
  rw[hb,ah hs];rfl
def ax (w h s:Int):Int×Int:=if bK w h s then(min 16 (w-16*(s%(bp w h).1)),min 16 (h-16*(s/(bp w h).1))) else(0,0)
theorem PO {w h s:Int} (hs:bK w h s):16*(s%(bp w h).1)<w/\16*(s/(bp w h).1)<h:=by
 have hm:=tX hs;obtain⟨p1,p2,p3,p4⟩:=ve hs;have e1:(bp w h).1=(w+15)/16:=by unfold bp;rw[af hm]
 have e2:(bp w h).2=(h+15)/16:=by unfold bp;rw[af hm]
 generalize s%(bp w h).1=x at*;generalize s/(bp w h).1=y at*;omega
theorem KW (x:Int):(if x<16 then x else 16)=min 16 x:=by
 rw[Int.min_def];split<;>split<;>omega
theorem Ij (w h s:Int):rA.f w h s=some (ax w h s):=by
 unfold rA.f ax;simp only[RG,aI];unfold H_
 by_cases hs:bK w h s
 ·rw[af hs,af hs];obtain⟨r1,r2⟩:=PO hs;obtain⟨p1,p2,p3,p4⟩:=ve hs;obtain⟨a,b,c,d⟩:=tX hs;rw[ah bd];simp only;rw[bn (x:=w-_) U U,bn (x:=h-_) U U,KW,KW]
 ·rw[ah hs,ah hs];rfl
theorem W7 (w h s:Int):zH.f w h s=some (ax w h s):=by
 unfold zH.f ax;have hc:=pn w h;simp only[Pq,aI,OB,PA];rw[bn (x:=eh w h-1) U U]
 by_cases hs:bK w h s
 ·have hb:decide (0<=s/\s<=eh w h-1)=true:=by obtain⟨h0,h1⟩:=hs;simp;omega
  rw[hb,af hs];obtain⟨r1,r2⟩:=PO hs;obtain⟨p1,p2,p3,p4⟩:=ve hs;obtain⟨a,b,c,d⟩:=Ds (tX hs);obtain⟨m1,m2,m3,m4⟩:=tX hs;have bQ: ¬(bp w h).1=0:=U;rw[ah bd,af bQ,af bQ,nk hs.1,ru hs.1];rw[bn (x:=s/(bp w h).1) U U,bn (x:=16*(s%_)) U U,bn (x:=16*(s/_)) U U,
   bn (x:=w-_) U U,bn (x:=h-_) U U,KW,KW]
 ·have hb:decide (0<=s/\s<=eh w h-1)=false:=by simp only[bK] at hs;simp;omega
  rw[hb,ah hs];rfl
theorem qv {w h s:Int} (hs:bK w h s):1<=(ax w h s).1/\(ax w h s).1<=16/\1<=(ax w h s).2/\(ax w h s).2<=16:=by
 obtain⟨r1,r2⟩:=PO hs;unfold ax;rw[af hs];simp only;omega
theorem size_le (w h s:Int):0<=(ax w h s).1/\(ax w h s).1<=16/\0<=(ax w h s).2/\(ax w h s).2<=16:=by
 by_cases hs:bK w h s
 ·have:=qv hs;omega
 ·unfold ax;rw[ah hs];simp
def pK (w h x y:Int):Int:=if iO w h/\0<=x/\x<w/\0<=y/\y<h then y*w+x else-1
theorem sS {w h x y:Int} (hx:0<=x) (wa:x<w) (hy:0<=y) (UY:y<h):0<=y*w+x/\y*w+x<w*h:=by
 have h1:(y+1)*w<=h*w:=Int.mul_le_mul_of_nonneg_right U U;have h2:(y+1)*w=y*w+w:=by rw[Int.add_mul];omega
 have h3:0<=y*w:=nP hy U;have h4:h*w=w*h:=Int.mul_comm _ _;omega
theorem Rr (w h x y:Int):zY.f w h x y=some (pK w h x y):=by
 unfold zY.f pK;simp only[A',aI]
 by_cases hc:iO w h/\0<=x/\x<w/\0<=y/\y<h
 ·obtain⟨hm,h1,h2,h3,h4⟩:=hc;have hb:(((((!decide (iO w h))||(decide (x<0)))||(decide (x≥w)))||(decide (y<0)))||(decide (y≥h)))=false:=by
   simp[hm];omega
  rw[hb,ah bd,af ⟨hm,h1,h2,h3,h4⟩];have:=sS h1 h2 h3 h4;have hp:=uZ hm;have h5:0<=y*w:=nP h3 U;rw[bn (x:=y*w) U U,bn U U]
 ·have hb:(((((!decide (iO w h))||(decide (x<0)))||(decide (x≥w)))||(decide (y<0)))||(decide (y≥h)))=true:=by
   by_cases hm:iO w h
   ·have j7: ¬(0<=x/\x<w/\0<=y/\y<h):=λh=>hc ⟨hm,h⟩
    simp[hm];omega
   ·simp[hm]
  rw[hb,ah hc];rfl
theorem U7 (w h c:Int):wS.f w h c=some (decide (bZ w h c)):=by
 unfold wS.f;simp only[A',aI]
 by_cases hm:iO w h
 ·have hp:=uZ hm;rw[bn U U];simp[hm]
 ·simp[hm]
def Bp (w h c:Int):Int×Int:=if bZ w h c then(c%w,c/w) else(-1,-1)
theorem wm {w h c:Int} (hc:bZ w h c):0<=c%w/\c%w<w/\0<=c/w/\c/w<h:=by
 obtain⟨⟨a,b,d,e⟩,h0,h1⟩:=hc;exact⟨Int.emod_nonneg _ U,Int.emod_lt_of_pos _ U,Int.ediv_nonneg h0 U,Int.ediv_lt_of_lt_mul U (by rw[Int.mul_comm];exact h1)⟩
theorem Pl (w h c:Int):wR.f w h c=some (Bp w h c):=by
 unfold wR.f Bp;simp only[U7,aI]
 by_cases hc:bZ w h c
 ·have hp:=wm hc;have hm:=hc.1;have bQ: ¬w=0:=by obtain⟨a,_⟩:=hm;omega
  rw[ah (by simp[hc]),af bQ,af bQ,af hc,nk hc.2.1,ru hc.2.1]
  obtain⟨a,b,d,e⟩:=hm;rw[bn U U]
 ·simp[hc]
theorem EV {w h c:Int}:(Bp w h c).1<0↔ ¬bZ w h c:=by
 unfold Bp
 by_cases hc:bZ w h c
 ·have:=wm hc;rw[af hc];exact⟨λh=>by simp only at h;omega,λh=>absurd hc h⟩
 ·rw[ah hc];simp[hc]
def aY (w h c:Int):Int:=if bZ w h c then c/w/16*(bp w h).1+c%w/16 else-1
theorem E_ {w h c:Int} (hc:bZ w h c):0<=c%w/16/\c%w/16<(bp w h).1/\0<=c/w/16/\c/w/16<(bp w h).2:=by
 have hp:=wm hc;have e1:(bp w h).1=(w+15)/16:=by unfold bp;rw[af hc.1]
 have e2:(bp w h).2=(h+15)/16:=by unfold bp;rw[af hc.1]
 rw[e1,e2];generalize c%w=x at*;generalize c/w=y at*;omega
theorem Fa {w h c:Int} (hc:bZ w h c):bK w h (c/w/16*(bp w h).1+c%w/16):=by
 obtain⟨a,b,d,e⟩:=E_ hc;have:=sS a b d e;unfold bK eh;exact this
theorem tY (w h c:Int):gR.f w h c=some (aY w h c):=by
 unfold gR.f aY;simp only[Pl,aI]
 by_cases hc:bZ w h c
 ·rw[ah (by rw[EV];simp[hc]),Fb]
  simp only[aI,Bp];rw[af hc,af hc];have hp:=wm hc;obtain⟨a,b,d,e⟩:=E_ hc;obtain⟨m1,m2,m3,m4⟩:=Ds hc.1;have hs:=Fa hc;have hk:=pn w h;obtain⟨s1,s2⟩:=hs;have h5:0<=c/w/16*(bp w h).1:=nP d U;simp only;rw[ru hp.2.2.1,ru hp.1,bn (x:=c/w/16) U U,bn (x:=c%w/16) U U,bn (x:=_*_) U U,bn U U]
 ·rw[af (by rw[EV];exact hc),ah hc]
theorem qY {a x y:Int} (h0:0<=x) (h1:x<a):(y*a+x)%a=x/\(y*a+x)/a=y:=by
 have ha:a≠0:=U;constructor
 ·rw[Int.add_comm,Int.add_mul_emod_self_right];exact Int.emod_eq_of_lt h0 h1
 ·rw[Int.add_comm,Int.add_mul_ediv_right _ _ ha,Int.ediv_eq_zero_of_lt h0 h1];omega
def dC (w h c:Int):Int:=if bZ w h c then c/w%16*(ax w h (aY w h c)).1+c%w%16 else-1
theorem ON {w h c:Int} (hc:bZ w h c):c%w%16<(ax w h (aY w h c)).1/\c/w%16<(ax w h (aY w h c)).2:=by
 have hs:=Fa hc;obtain⟨a,b,d,e⟩:=E_ hc;have hn:=qY (a:=(bp w h).1) (x:=c%w/16) (y:=c/w/16) a b;have hp:=wm hc;unfold aY;rw[af hc];unfold ax;rw[af hs,hn.1,hn.2];simp only;generalize c%w=x at*;generalize c/w=y at*;omega
theorem zP {w h c:Int}:aY w h c<0↔ ¬bZ w h c:=by
 unfold aY
 by_cases hc:bZ w h c
 ·have:=Fa hc;rw[af hc];exact⟨λh=>by unfold bK at this;omega,λh=>absurd hc h⟩
 ·rw[ah hc];simp[hc]
def dn (w h s l:Int):Int:=
 if bK w h s/\0<=l/\l<(ax w h s).1*(ax w h s).2 then(16*(s/(bp w h).1)+l/(ax w h s).1)*w+(16*(s%(bp w h).1)+l%(ax w h s).1) else-1
theorem xt {w h s l:Int} (hs:bK w h s) (h0:0<=l) (h1:l<(ax w h s).1*(ax w h s).2):
 0<=l%(ax w h s).1/\l%(ax w h s).1<(ax w h s).1/\0<=l/(ax w h s).1/\l/(ax w h s).1<(ax w h s).2/\
 16*(s%(bp w h).1)+l%(ax w h s).1<w/\16*(s/(bp w h).1)+l/(ax w h s).1<h:=by
 obtain⟨z1,z2,z3,z4⟩:=qv hs;have a1:0<=l%(ax w h s).1:=Int.emod_nonneg _ U;have a2:l%(ax w h s).1<(ax w h s).1:=Int.emod_lt_of_pos _ U;have a3:0<=l/(ax w h s).1:=Int.ediv_nonneg h0 U;have a4:l/(ax w h s).1<(ax w h s).2:=Int.ediv_lt_of_lt_mul U (by rw[Int.mul_comm];exact h1)
 refine⟨a1,a2,a3,a4,?_,?_⟩
 ·have:(ax w h s).1<=w-16*(s%(bp w h).1):=by unfold ax;rw[af hs];simp only;omega
  omega
 ·have:(ax w h s).2<=h-16*(s/(bp w h).1):=by unfold ax;rw[af hs];simp only;omega
  omega
theorem JS (w h s l:Int):um.f w h s l=some (dn w h s l):=by
 unfold um.f dn;simp only[RG,aI,Ij,Rr];have hz:=size_le w h s;have EF:(ax w h s).1*(ax w h s).2<=16*16:=ka hz.1 hz.2.2.1 hz.2.1 hz.2.2.2;have Ox:0<=(ax w h s).1*(ax w h s).2:=nP hz.1 hz.2.2.1;rw[bn (x:=_*(ax w h s).2) U U]
 by_cases hs:bK w h s
 ·unfold H_;rw[af hs]
  by_cases hl:0<=l/\l<(ax w h s).1*(ax w h s).2
  ·obtain⟨a1,a2,a3,a4,a5,a6⟩:=xt hs hl.1 hl.2;obtain⟨z1,z2,z3,z4⟩:=qv hs;obtain⟨m1,m2,m3,m4⟩:=tX hs;obtain⟨p1,p2,p3,p4⟩:=ve hs;have bQ: ¬(ax w h s).1=0:=U;rw[ah bm,af bQ,af bQ,af (c:=bK w h s/\_) ⟨hs,hl⟩];simp only;rw[nk hl.1,ru hl.1,bn (x:=l/_) U U,bn (x:=_+l%_) U U,bn (x:=_+l/_) U U];unfold pK;rw[af ⟨⟨m1,m2,m3,m4⟩,by omega,a5,by omega,a6⟩]
  ·rw[af bm,ah (λh=>hl h.2)]
 ·unfold H_;rw[ah hs,af bd,ah (c:=bK w h s/\_) (λh=>hs h.1)]
theorem aid (w h s l:Int):Df.f w h s l=some (dn w h s l):=by
 unfold Df.f dn;simp only[W7,aI,OB,PA];have hz:=size_le w h s;have EF:(ax w h s).1*(ax w h s).2<=16*16:=ka hz.1 hz.2.2.1 hz.2.1 hz.2.2.2;have Ox:0<=(ax w h s).1*(ax w h s).2:=nP hz.1 hz.2.2.1;rw[bn (x:=_*(ax w h s).2) U U,bn (x:=_*(ax w h s).2-1) U U]
 by_cases hs:bK w h s
 ·by_cases hl:0<=l/\l<(ax w h s).1*(ax w h s).2
  ·obtain⟨a1,a2,a3,a4,a5,a6⟩:=xt hs hl.1 hl.2;obtain⟨z1,z2,z3,z4⟩:=qv hs;obtain⟨m1,m2,m3,m4⟩:=tX hs;obtain⟨p1,p2,p3,p4⟩:=ve hs;obtain⟨s1,s2,s3,s4⟩:=Ds (tX hs);have bQ: ¬(ax w h s).1=0:=U;have UD: ¬(bp w h).1=0:=U;rw[ah bm,af (c:=bK w h s/\_) ⟨hs,hl⟩,af UD,af bQ,af UD,af bQ,nk hl.1,ru hl.1,nk hs.1,ru hs.1];have hg:=sS (w:=w) (h:=h) (x:=16*(s%(bp w h).1)+l%(ax w h s).1) (y:=16*(s/(bp w h).1)+l/(ax w h s).1) U a5 U a6;have hq:0<=(16*(s/(bp w h).1)+l/(ax w h s).1)*w:=nP U U;have hp:=uZ (tX hs);rw[bn (x:=l/_) U U,bn (x:=s/_) U U,bn (x:=16*(s/_)) U U,bn (x:=16*(s/_)+_) U U,
    bn (x:=_*w) U U,bn (x:=16*(s%_)) U U,bn (x:=_*w+_) U U,bn U U]
   congr 1;omega
  ·rw[af bm,ah (λh=>hl h.2)]
 ·have h1:(ax w h s).1=0:=by unfold ax;rw[ah hs]
  rw[af (by simp[h1];omega),ah (λh=>hs h.1)]
theorem Iy {n lo hi:Int} (mc: -4611686018427387904<=lo) (vU:hi<=4611686018427387904) (hle:lo<=hi) (hn:hi-lo<=4611686018427387904):eN.f n lo hi=some (lo+n%(hi-lo+1)):=by
 unfold eN.f;rw[bn (x:=hi-lo) U U,bn (x:=hi-lo+1) U U,af U];generalize hm:hi-lo+1=m;have Cy:0<m:=U;have h1:0<=n%m:=Int.emod_nonneg _ U;have h2:n%m<m:=Int.emod_lt_of_pos _ Cy
 by_cases GN:0<=n
 ·rw[nk GN,ah U,bn U U]
 ·have ha:Int.tmod n m=if n%m=0 then 0 else n%m-m:=by
   rw[Int.tmod_eq_emod];have hd:(m∣n)↔n%m=0:=⟨Int.emod_eq_zero_of_dvd,Int.dvd_of_emod_eq_zero⟩
   by_cases h0:n%m=0
   ·simp[h0,hd]
   ·simp[h0,hd,GN];omega
  rw[ha]
  by_cases h0:n%m=0
  ·rw[af h0,ah U,bn U U,h0]
  ·rw[ah h0,af U,bn (x:=_+hi) U U,bn (x:=_-lo) U U,bn (x:=_+1) U U,bn U U]
   congr 1;omega
theorem Iz {n lo hi:Int} (hle:lo<=hi):lo<=lo+n%(hi-lo+1)/\lo+n%(hi-lo+1)<=hi:=by
 have h1:0<=n%(hi-lo+1):=Int.emod_nonneg _ U;have h2:n%(hi-lo+1)<hi-lo+1:=Int.emod_lt_of_pos _ U;omega
theorem Fv {x:Int} (h1:0<=x) (h2:x<=255):bU x=x:=by
 unfold bU IntKind.wrap IntKind.signed IntKind.bits;simp;omega
theorem uH:fuel=18446744073709551616:=by unfold fuel;rfl
theorem HQ {α:Type} [Inhabited α] {L:List α} {i c:Int} {v:α} (h0:0<=i) (h1:i<L.length) (c0:0<=c):rd (List.set L i.toNat v) c=if c=i then v else rd L c:=by
 unfold rd
 by_cases hc:c=i
 ·subst hc;rw[af rfl];simp[List.getD,show c.toNat<L.length by omega]
 ·rw[ah hc];have:i.toNat≠c.toNat:=U;simp[List.getD,this]
theorem WX {α:Type} [Inhabited α] {L:List α} {v:α} {c:Int} (c0:0<=c) (h:c<=L.length):rd (L++[v]) c=if c=L.length then v else rd L c:=by
 unfold rd
 by_cases hc:c=L.length
 ·rw[af hc,hc];simp[List.getD]
 ·rw[ah hc];simp[List.getD,List.getElem?_append_left (show c.toNat<L.length by omega)]
theorem abL {α:Type} [Inhabited α] {a:List α} {i:Int} (h0:0<=i) (h1:i<a.length):a.drop i.toNat=rd a i::a.drop (i+1).toNat:=by
 have aS:i.toNat<a.length:=U;rw[jA aS,show(i+1).toNat=i.toNat+1 by omega]
 exact List.drop_eq_getElem_cons aS
theorem vb {α:Type} [Inhabited α] {a:List α} {i:Int} (h0:0<=i) (h1:i<a.length):rd a i∈a:=by
 rw[jA U];exact List.getElem_mem _
theorem Ry (s:List Int) (h:s.length<=1099511627776):nX.f s=some s:=by
 unfold nX.f;rw[af (by simpa using h)];simp
theorem afn (s:List Int) (v:Int) (hb:s.length<=4611686018427387904): ∀(n k:Nat) (i:Int),i+n=s.length->0<=i->n<k->
 ∃r,rm.l0 k s v i=some r/\(0<=r↔v∈s.drop i.toNat):=by
 intro n
 induction n with
 |zero=>
  intro k i hi h0 hk;obtain⟨k,rfl⟩: ∃q,k=q+1:=⟨k-1,by omega⟩
  rw[rm.l0,ah U,List.drop_of_length_le U];exact⟨_,J,by simp⟩
 |succ n ih=>
  intro k i hi h0 hk;obtain⟨k,rfl⟩: ∃q,k=q+1:=⟨k-1,by omega⟩
  rw[rm.l0,af U,af U,abL h0 U]
  by_cases he:v=rd s i
  ·rw[af (by simpa using he)]
   exact⟨_,J,by simp[he,h0]⟩
  ·rw[ah (by simpa using he),bn U U]
   obtain⟨r,h1,h2⟩:=ih k (i+1) U U U;exact⟨r,h1,by rw[h2];simp[he]⟩
theorem ML (s:List Int) (v:Int) (hb:s.length<4611686018427387904):wI.f s v=some (decide (v∈s)):=by
 unfold wI.f rm.f;obtain⟨r,h1,h2⟩:=afn s v U s.length fuel 0 U U (by rw[uH];omega)
 rw[h1,aI]
 congr 1
 rw[Bool.eq_iff_iff];simpa using h2
def dX (side:Int):Int:=if side=1 then 1 else if side=3 then-1 else 0
def dY (side:Int):Int:=if side=0 then-1 else if side=2 then 1 else 0
def cH (w h c side:Int):Int:=
 if bZ w h c/\0<=side/\side<=4 then pK w h (c%w+dX side) (c/w+dY side) else-1
theorem Ir (w h c side:Int):mj.f w h c side=some (cH w h c side):=by
 unfold mj.f cH;simp only[Pl,aI]
 by_cases hc:bZ w h c
 ·rw[ah (by rw[EV];simp[hc])]
  have hp:=wm hc;obtain⟨q1,q2,q3,q4⟩:=hc.1;have e:Bp w h c=(c%w,c/w):=by unfold Bp;rw[af hc]
  simp only[e,Rr,aI];have e1:aa (c/w+ -1)=c/w+ -1:=bn U U;have e2:aa (c/w+1)=c/w+1:=bn U U;have e3:aa (c%w+ -1)=c%w+ -1:=bn U U;have e4:aa (c%w+1)=c%w+1:=bn U U
  by_cases h0:side=0
  ·subst h0;simp[e1,dX,dY,hc]
  by_cases h2:side=2
  ·subst h2;simp[e2,dX,dY,hc]
  by_cases h3:side=3
  ·subst h3;simp[e3,dX,dY,hc]
  by_cases h1:side=1
  ·subst h1;simp[e4,dX,dY,hc]
  by_cases h4:side=4
  ·subst h4;simp[dX,dY,hc]
  ·rw[ah (c:=bZ w h c/\_) U];simp[h0,h1,h2,h3,h4]
 ·rw[af (by rw[EV];exact hc),ah (λh=>hc h.1)]
def Ff (w h a b:Int):Nat->Int->Int
 |0,_=>5
 |n+1,s=>if cH w h a s=b then s else Ff w h a b n (s+1)
def Dr (w h a b:Int):Int:=if bZ w h a/\bZ w h b then Ff w h a b 5 0 else 5
theorem ai7 (w h a b:Int): ∀(n k:Nat) (s:Int),s+n=5->0<=s->n<k->qB.l0 k w h a b s=some (Ff w h a b n s):=by
 intro n
 induction n with
 |zero=>
  intro k s hs h0 hk;obtain⟨k,rfl⟩: ∃m,k=m+1:=⟨k-1,by omega⟩
  rw[qB.l0,ah U];rfl
 |succ n ih=>
  intro k s hs h0 hk;obtain⟨k,rfl⟩: ∃m,k=m+1:=⟨k-1,by omega⟩
  rw[qB.l0,af U,Ir];simp only[aI,Ff]
  by_cases he:cH w h a s=b
  ·simp[he]
  ·rw[ah (by simpa using he),ah he,bn U U]
   exact ih k (s+1) U U U
theorem ai6 (w h a b:Int):qB.f w h a b=some (Dr w h a b):=by
 unfold qB.f Dr;simp only[U7,aI]
 by_cases ha:bZ w h a
 ·by_cases hb:bZ w h b
  ·rw[af (c:=bZ w h a/\_) ⟨ha,hb⟩];simp only[decide_eq_true ha,decide_eq_true hb,Bool.not_true,Bool.false_eq_true,if_false,aI];exact ai7 w h a b 5 fuel 0 U U (by rw[cI];omega)
  ·rw[ah (c:=bZ w h a/\_) (λh=>hb h.2)];simp[ha,hb]
 ·rw[ah (c:=bZ w h a/\_) (λh=>ha h.1)];simp[ha]
theorem Ru {w h c:Int} (hc:bZ w h c):pK w h (c%w) (c/w)=c:=by
 have hp:=wm hc;unfold pK;rw[af ⟨hc.1,hp⟩];have h1:=Int.mul_ediv_add_emod c w;rw[Int.mul_comm] at h1;omega
theorem aiB {w h x y:Int} (hm:iO w h) (h1:0<=x) (h2:x<w) (h3:0<=y) (h4:y<h):bZ w h (pK w h x y)/\pK w h x y%w=x/\pK w h x y/w=y:=by
 unfold pK;rw[af ⟨hm,h1,h2,h3,h4⟩];have:=sS h1 h2 h3 h4;exact⟨⟨hm,this⟩,qY h1 h2⟩
theorem Lu {w h c side:Int} (hc:bZ w h c) (h0:0<=side) (h4:side<=4):
 (cH w h c side= -1/\ ¬(0<=c%w+dX side/\c%w+dX side<w/\0<=c/w+dY side/\c/w+dY side<h))∨
 (bZ w h (cH w h c side)/\cH w h c side%w=c%w+dX side/\cH w h c side/w=c/w+dY side/\
   0<=c%w+dX side/\c%w+dX side<w/\0<=c/w+dY side/\c/w+dY side<h):=by
 have e:cH w h c side=pK w h (c%w+dX side) (c/w+dY side):=by unfold cH;rw[af ⟨hc,h0,h4⟩]
 rw[e]
 by_cases hx:0<=c%w+dX side/\c%w+dX side<w/\0<=c/w+dY side/\c/w+dY side<h
 ·obtain⟨a,b,d,f⟩:=hx;have:=aiB hc.1 a b d f;exact .inr ⟨this.1,this.2.1,this.2.2,a,b,d,f⟩
 ·refine .inl ⟨?_,hx⟩;unfold pK;rw[ah (λh=>hx h.2)]
theorem ai5 (w h a b:Int): ∀(n:Nat) (s t:Int),s+n=5->s<=t->t<5->cH w h a t=b->(∀u,s<=u->u<t->cH w h a u≠b)->Ff w h a b n s=t:=by
 intro n
 induction n with
 |zero=>intro s t h1 h2 h3;omega
 |succ n ih=>
  intro s t h1 h2 h3 h4 h5;simp only[Ff]
  by_cases he:s=t
  ·subst he;rw[af h4]
  ·rw[ah (h5 s U U)];exact ih (s+1) t U U h3 h4 (λu hu=>h5 u U)
theorem ajt {w h c s t:Int} (hc:bZ w h c) (s0:0<=s) (s4:s<=4) (t0:0<=t) (t4:t<=4) (hs:bZ w h (cH w h c s)) (he:cH w h c t=cH w h c s):s=t:=by
 have GZ:s=0∨s=1∨s=2∨s=3∨s=4:=U;have kH:t=0∨t=1∨t=2∨t=3∨t=4:=U;rcases Lu hc s0 s4 with⟨h1,_⟩ |⟨_,b1,b2,_⟩
 ·rw[h1] at hs;obtain⟨_,h2,_⟩:=hs;omega
 ·rcases Lu hc t0 t4 with⟨h1,_⟩ |⟨_,d1,d2,_⟩
  ·rw[he] at h1;rw[h1] at hs;obtain⟨_,h2,_⟩:=hs;omega
  ·rw[he,b1] at d1;rw[he,b2] at d2;unfold dX at d1;unfold dY at d2;rcases GZ with rfl |rfl |rfl |rfl |rfl<;>rcases kH with rfl |rfl |rfl |rfl |rfl<;>simp at d1 d2⊢ <;>omega
theorem Xl {w h c s:Int} (hc:bZ w h c) (s0:0<=s) (s4:s<=4) (hs:bZ w h (cH w h c s)):Dr w h c (cH w h c s)=s:=by
 unfold Dr;rw[af ⟨hc,hs⟩];exact ai5 w h c _ 5 0 s U s0 U J (λu h1 h2 he=>by
  have:=ajt hc s0 s4 h1 U hs he;omega)
theorem ajr {w h c:Int} (hc:bZ w h c):cH w h c 4=c:=by
 unfold cH;rw[af ⟨hc,by omega,by omega⟩]
 simpa[dX,dY] using Ru hc
def Ok {α:Type} (o:Option α) (P:α->Prop):Prop:= ∃r,o=some r/\P r
section
variable {α β : Type} {o : Option α} {f : α -> Option β} {P : α -> Prop} {Q : β -> Prop} {a b : Option α} {c : Prop} [Decidable c]
theorem Ok.bind (h:Ok o P) (k: ∀r,P r->Ok (f r) Q):Ok (o.bind f) Q:=by
 obtain⟨r,rfl,hr⟩:=h;exact k r hr
theorem Ok.bind' {γ:Type} {g:α->γ} {k:γ->Option β} (h:Ok o P) (q: ∀r,P r->Ok (k (g r)) Q):Ok ((o.bind λr=>some (g r)).bind k) Q:=by
 obtain⟨r,rfl,hr⟩:=h;exact q r hr
theorem Ok.eq {v:α} (e:o=some v) (k:Ok (f v) Q):Ok (o.bind f) Q:=by subst e;exact k
theorem Ok.opt {x:α} {d:Option β} (h:Ok (f x) Q):Ok (cT (some x) d f) Q:=h
theorem Ok.pure {r:α} (h:P r):Ok (some r) P:=⟨r,J,h⟩
theorem Ok.ite (h1:c->Ok a P) (h2: ¬c->Ok b P):Ok (if c then a else b) P:=by
 split
 ·exact h1 ‹_›
 ·exact h2 ‹_›
theorem Ok.cx (hc:c) (h:Ok a P):Ok (if c then a else none) P:=by rw[af hc];exact h
theorem Ok.pos (hc:c) (h:Ok a P):Ok (if c then a else b) P:=by rw[af hc];exact h
theorem Ok.neg (hc: ¬c) (h:Ok b P):Ok (if c then a else b) P:=by rw[ah hc];exact h
theorem Ok.mono {P':α->Prop} (h:Ok o P) (k: ∀r,P r->P' r):Ok o P':=by
 obtain⟨r,e,hr⟩:=h;exact⟨r,e,k r hr⟩
theorem Ok.of {r:α} (e:o=some r) (h:P r):Ok o P:=⟨r,e,h⟩
end
theorem wi {x:Int} (h1: -9223372036854775808<=x) (h2:x<=9223372036854775807):aa x=x:=bn h1 h2
theorem KU {α:Type} [Inhabited α] {l:List α} {e:α}:e∈l↔ ∃c:Int,0<=c/\c<l.length/\rd l c=e:=by
 constructor
 ·intro h;obtain⟨i,hi,rfl⟩:=List.getElem_of_mem h;exact⟨i,by omega,by omega,by rw[jA (by simpa using hi)];simp⟩
 ·rintro⟨c,h0,h1,rfl⟩;exact vb h0 h1
theorem P1 {α:Type} [Inhabited α] {l:List α} {i j:Int} (i0:0<=i) (i1:i<l.length) (j0:0<=j) (j1:j<l.length) (e:α):
 e∈List.set (List.set l i.toNat (rd l j)) j.toNat (rd l i)↔e∈l:=by
 rw[KU,KU];have h: ∀c:Int,0<=c->rd (List.set (List.set l i.toNat (rd l j)) j.toNat (rd l i)) c=if c=j then rd l i else if c=i then rd l j else rd l c:=by
  intro c c0;rw[HQ j0 (by simpa using j1) c0,HQ i0 i1 c0]
 simp only[List.length_set];constructor
 ·rintro⟨c,c0,c1,rfl⟩;rw[h c c0];split
  ·exact⟨i,i0,i1,J⟩
  ·split
   ·exact⟨j,j0,j1,J⟩
   ·exact⟨c,c0,c1,J⟩
 ·rintro⟨c,c0,c1,rfl⟩
  by_cases a:c=i
  ·exact⟨j,j0,j1,by rw[h j j0,af J,a]⟩
  ·by_cases b:c=j
   ·refine⟨i,i0,i1,?_⟩;rw[h i i0];subst b;rw[ah U,af J]
   ·exact⟨c,c0,c1,by rw[h c c0,ah b,ah a]⟩
def hd (l:List Int) (q:Int):Int:=match l with |[]=>q |c::_=>c
def jv (l:List Int) (p:Int):Int:=match l with |[]=>p |c::r=>jv r c
def pT (s:List bo) (p:Int) (l:List Int) (q:Int):Prop:=match l with
 |[]=>True
 |c::r=>(rd s c).cM=p/\(rd s c).aZ=hd r q/\pT s c r q
theorem PS {s:List bo}: ∀(A:List Int) (p:Int) (B:List Int) (q:Int),pT s p (A++B) q↔pT s p A (hd B q)/\pT s (jv A p) B q
 |[],p,B,q=>by simp[pT,jv]
 |c::r,p,B,q=>by
  have e:hd (r++B) q=hd r (hd B q):=by cases r<;>rfl
  simp only[List.cons_append,pT,jv,PS r c B q,e];exact⟨λ⟨a,b,c,d⟩=>⟨⟨a,b,c⟩,d⟩,λ⟨⟨a,b,c⟩,d⟩=>⟨a,b,c,d⟩⟩
theorem Fc {s s':List bo}: ∀(A:List Int) (p q:Int),(∀c∈A,(rd s' c).cM=(rd s c).cM/\(rd s' c).aZ=(rd s c).aZ)->pT s p A q->pT s' p A q
 |[],_,_,_,_=>trivial
 |c::r,p,q,h,hs=>by
  have:=h c (List.mem_cons_self ..);exact⟨this.1.trans hs.1,this.2.trans hs.2.1,Fc r c q (λd hd=>h d (List.mem_cons_of_mem _ hd)) hs.2.2⟩
theorem Hh: ∀(A:List Int) (p:Int),A≠[]->jv A p∈A
 |[],_,h=>absurd J h
 |[c],_,_=>List.mem_cons_self ..
 |c::d::r,p,_=>List.mem_cons_of_mem _ (Hh (d::r) c bd)
theorem OP: ∀(A:List Int) (p:Int) (B:List Int),jv (A++B) p=jv B (jv A p)
 |[],_,_=>rfl
 |c::r,p,B=>by simp only[List.cons_append,jv];exact OP r c B
theorem Xi {s s':List bo}: ∀(A:List Int) (p q q':Int),A≠[]->A.Nodup->(∀c∈A,(rd s' c).cM=(rd s c).cM/\(c≠jv A p->(rd s' c).aZ=(rd s c).aZ))->(rd s' (jv A p)).aZ=q'->pT s p A q->pT s' p A q'
 |[],_,_,_,h,_,_,_,_=>absurd J h
 |[c],p,q,q',_,_,h,e,hs=>⟨(h c (List.mem_cons_self ..)).1.trans hs.1,e,trivial⟩
 |c::d::r,p,q,q',_,hn,h,e,hs=>by
  have kG:c≠jv (d::r) c:=λz=>(List.nodup_cons.1 hn).1 (z▸Hh (d::r) c bd);have:=h c (List.mem_cons_self ..);exact⟨this.1.trans hs.1,(this.2 kG).trans hs.2.1,Xi (d::r) c q q' bd (List.nodup_cons.1 hn).2 (λx hx=>h x (List.mem_cons_of_mem _ hx)) e hs.2.2⟩
theorem Xh {s s':List bo}: ∀(A:List Int) (p p' q:Int),(∀c∈A,(rd s' c).aZ=(rd s c).aZ/\(c≠hd A q->(rd s' c).cM=(rd s c).cM))->A.Nodup->(A≠[]->(rd s' (hd A q)).cM=p')->pT s p A q->pT s' p' A q
 |[],_,_,_,_,_,_,_=>trivial
 |c::r,p,p',q,h,hn,e,hs=>by
  refine⟨e bd,(h c (List.mem_cons_self ..)).1.trans hs.2.1,Fc r c q (λd fS=>?_) hs.2.2⟩;have:=h d (List.mem_cons_of_mem _ fS);exact⟨this.2 λz=>(List.nodup_cons.1 hn).1 (by have z:d=c:=z;rw[<-z];exact fS),this.1⟩
structure rJ (l:gh) (k:Int) (ord:List Int):Prop where
 k_:l.k=k
 kb:1<=k/\k<=1000000
 ln:l.ak.length<=k
 nd:ord.Nodup
 mem: ∀c,c∈ord↔0<=c/\c<l.ak.length
 x_:pT l.ak (-1) ord (-1)
 nw:l.cE=hd ord (-1)
 ol:l.dt=jv ord (-1)
 sn:(l.fj.map (·.1)).Nodup
 sl: ∀key c,cS l.fj key=some c↔0<=c/\c<l.ak.length/\(rd l.ak c).key=key
structure Ak (l:gh) (ord:List Int):Prop where
 nd:ord.Nodup
 mem: ∀c∈ord,0<=c/\c<l.ak.length
 x_:pT l.ak (-1) ord (-1)
 nw:l.cE=hd ord (-1)
 ol:l.dt=jv ord (-1)
theorem agd {k:Int} (h1:1<=k) (h2:k<=1000000): ∃l,xI.f k=some (some l)/\rJ l k []:=by
 unfold xI.f zs.f;rw[ah U];exact⟨_,J,J,⟨h1,h2⟩,by simp;omega,List.nodup_nil,λc=>by simp,trivial,J,J,List.nodup_nil,λkey c=>by simp[cS];omega⟩
theorem aba {l:gh} {k:Int} {ord:List Int} (h:rJ l k ord): ∃l',zt.f l=some l'/\rJ l' k []:=
 ⟨_,J,h.k_,h.kb,by have:=h.kb;simp;omega,List.nodup_nil,λc=>by simp,trivial,J,J,List.nodup_nil,λkey c=>by simp[cS];omega⟩
theorem Pb {A B:List Int} {c:Int} (h:(A++c::B).Nodup):c∉A/\c∉B/\(A++B).Nodup:=by
 rw[List.nodup_append] at h⊢;obtain⟨h1,h2,h3⟩:=h;obtain⟨h4,h5⟩:=List.nodup_cons.1 h2;exact⟨λz=>h3 c z c (List.mem_cons_self ..) J,h4,h1,h5,λa ha b hb=>h3 a ha b (List.mem_cons_of_mem _ hb)⟩
theorem XR {l:gh} {A B:List Int} {c:Int} (h:Ak l (A++c::B)): ∃l',tm.f l c=some l'/\l'.k=l.k/\l'.fj=l.fj/\l'.ak.length=l.ak.length/\(∀d:Int,0<=d->(rd l'.ak d).key=(rd l.ak d).key)/\Ak l' (A++B):=by
 obtain⟨n1,n2,n3⟩:=Pb h.nd;have hc:=h.mem c bd;obtain⟨g1,g2,g3,g4⟩:=(PS A (-1) (c::B) (-1)).1 h.x_;simp only[hd] at g1;obtain⟨nA,nB,VE⟩:=List.nodup_append.1 n3;have hA:A≠[]->0<=jv A (-1)/\jv A (-1)<l.ak.length:=λz=>h.mem _ (List.mem_append_left _ (Hh A _ z));have hB:B≠[]->0<=hd B (-1)/\hd B (-1)<l.ak.length/\hd B (-1)∈B:=λz=>by
  cases B with
  |nil=>exact absurd J z
  |cons d r=>have:=h.mem d bd;exact⟨this.1,this.2,List.mem_cons_self ..⟩
 unfold tm.f;rw[af hc];have s1: ∃S N,(if((rd l.ak c).cM==(-1))=true then(some (l.ak,(rd l.ak c).aZ)) else(if(0<=(rd l.ak c).cM/\(rd l.ak c).cM<(List.length l.ak:Int)) then(some ((List.set l.ak (Int.toNat ((rd l.ak c).cM)) (bo.mk ((rd l.ak ((rd l.ak c).cM)).key) ((rd l.ak ((rd l.ak c).cM)).cM) ((rd l.ak c).aZ))),l.cE)) else none))=some (S,N)/\S.length=l.ak.length/\(∀d:Int,0<=d->(rd S d).key=(rd l.ak d).key/\(d∉A->rd S d=rd l.ak d))/\pT S (-1) A (hd B (-1))/\N=hd (A++B) (-1):=by
  rw[g2,g3]
  by_cases z:A=[]
  ·subst z;rw[af (by simp[jv])]
   exact⟨_,_,J,J,λd _=>⟨J,λ_=>rfl⟩,trivial,J⟩
  ·have ha:=hA z;have dS: ∀d:Int,0<=d->rd (List.set l.ak (jv A (-1)).toNat (bo.mk (rd l.ak (jv A (-1))).key (rd l.ak (jv A (-1))).cM (hd B (-1)))) d=if d=jv A (-1) then bo.mk (rd l.ak (jv A (-1))).key (rd l.ak (jv A (-1))).cM (hd B (-1)) else rd l.ak d:=λd d0=>lB ha.1 ha.2 d0
   rw[ah bm,af ha];refine⟨_,_,J,by simp,λd d0=>?_,Xi A (-1) c _ z nA (λd fS=>?_) ?_ g1,?_⟩
   ·rw[dS d d0];refine⟨?_,λfS=>?_⟩
    ·split
     ·rename_i q;rw[q]
     ·rfl
    ·rw[ah];rintro rfl;exact fS (Hh A _ z)
   ·have:=h.mem d (List.mem_append_left _ fS);rw[dS d this.1];refine⟨?_,λq=>by rw[ah q]⟩
    split
    ·rename_i q;rw[q]
    ·rfl
   ·rw[dS _ ha.1,af J]
   ·rw[h.nw];cases A with
    |nil=>exact absurd J z
    |cons a A=>rfl
 obtain⟨S,N,e,yW,Ej,S0,hN⟩:=s1;rw[e];simp only[aI];have hSB:pT S c B (-1):=Fc B c (-1) (λd fS=>by
  have:=h.mem d (List.mem_append_right _ (List.mem_cons_of_mem _ fS));rw[(Ej d this.1).2 λq=>VE d q d fS J];exact⟨J,J⟩) g4
 rw[g2,g3]
 by_cases z:B=[]
 ·subst z;rw[af (by simp[hd])]
  refine⟨_,J,J,J,yW,λd d0=>(Ej d d0).1,n3,λd fS=>?_,?_,hN,?_⟩
  ·rw[yW];exact h.mem d (by simp at fS;simp[fS])
  ·rw[List.append_nil];exact S0
  ·rw[List.append_nil]
 ·have hb:=hB z;have dS: ∀d:Int,0<=d->rd (List.set S (hd B (-1)).toNat (bo.mk (rd S (hd B (-1))).key (jv A (-1)) (rd S (hd B (-1))).aZ)) d=if d=hd B (-1) then bo.mk (rd S (hd B (-1))).key (jv A (-1)) (rd S (hd B (-1))).aZ else rd S d:=λd d0=>lB hb.1 (by rw[yW];exact hb.2.1) d0
  rw[ah bm,af (by rw[yW];exact⟨hb.1,hb.2.1⟩)]
  refine⟨_,J,J,J,by simpa using yW,λd d0=>?_,n3,λd fS=>?_,?_,hN,?_⟩
  ·rw[<-(Ej d d0).1];simp only;rw[dS d d0];split
   ·rename_i q;rw[q]
   ·rfl
  ·simp only[List.length_set];rw[yW];refine h.mem d ?_;rcases List.mem_append.1 fS with q |q
   ·exact List.mem_append_left _ q
   ·exact List.mem_append_right _ (List.mem_cons_of_mem _ q)
  ·refine(PS A (-1) B (-1)).2 ⟨Fc A (-1) _ (λd fS=>?_) S0,Xh B c (jv A (-1)) (-1) (λd fS=>?_) nB (λ_=>?_) hSB⟩
   ·have:=h.mem d (List.mem_append_left _ fS);rw[dS d this.1,ah (λq=>VE d fS (hd B (-1)) hb.2.2 q)];exact⟨J,J⟩
   ·have:=h.mem d (List.mem_append_right _ (List.mem_cons_of_mem _ fS));rw[dS d this.1];refine⟨?_,λq=>by rw[ah q]⟩
    split
    ·rename_i q;rw[q]
    ·rfl
   ·rw[dS _ hb.1,af J]
  ·simp only;rw[h.ol,OP,OP]
   cases B with
   |nil=>exact absurd J z
   |cons d r=>rfl
theorem OK {l:gh} {ord:List Int} {c:Int} (h:Ak l ord) (h0:0<=c) (h1:c<l.ak.length) (hc:c∉ord): ∃l',xH.f l c=some l'/\l'.k=l.k/\l'.fj=l.fj/\l'.ak.length=l.ak.length/\(∀d:Int,0<=d->(rd l'.ak d).key=(rd l.ak d).key)/\Ak l' (c::ord):=by
 unfold xH.f;generalize yW:List.set l.ak (Int.toNat c) (bo.mk ((rd l.ak c).key) (-1) ((rd l.ak c).aZ))=S1;have zd:S1.length=l.ak.length:=by rw[<-yW];simp
 have r1: ∀d:Int,0<=d->rd S1 d=if d=c then bo.mk ((rd l.ak c).key) (-1) ((rd l.ak c).aZ) else rd l.ak d:=λd d0=>by rw[<-yW];exact lB h0 h1 d0
 generalize Ej:List.set S1 (Int.toNat c) (bo.mk ((rd S1 c).key) ((rd S1 c).cM) l.cE)=S2;have qR:S2.length=l.ak.length:=by rw[<-Ej];simpa using zd
 have r2: ∀d:Int,0<=d->rd S2 d=if d=c then bo.mk ((rd l.ak c).key) (-1) l.cE else rd l.ak d:=λd d0=>by
  rw[<-Ej,lB h0 U d0,r1 c h0,af J];split
  ·rfl
  ·rename_i q;rw[r1 d d0,ah q]
 rw[af ⟨h0,h1⟩,af ⟨h0,by omega⟩]
 have AQ: ∀d:Int,0<=d->(rd S2 d).key=(rd l.ak d).key:=λd d0=>by
  rw[r2 d d0];split
  ·rename_i q;rw[q]
  ·rfl
 have qS:(c::ord).Nodup:=List.nodup_cons.2 ⟨hc,h.nd⟩
 by_cases z:ord=[]
 ·subst z;have hn:l.cE= -1:=h.nw;rw[af (by simp[hn])]
  refine⟨_,J,J,J,qR,AQ,qS,λd fS=>?_,⟨?_,?_,trivial⟩,J,J⟩
  ·simp only[List.mem_cons,List.not_mem_nil,or_false] at fS;subst fS;simp only;omega
  ·simp only;rw[r2 c h0,af J]
  ·simp only;rw[r2 c h0,af J,hn];rfl
 ·obtain⟨a,r,e⟩:=List.exists_cons_of_ne_nil z;have hn:l.cE=a:=by rw[h.nw,e];rfl
  have ha:=h.mem a (by rw[e];exact List.mem_cons_self ..)
  have Nv:a≠c:=λq=>hc (by rw[e,<-q];exact List.mem_cons_self ..)
  rw[hn] at r2⊢;rw[ah bm,af (by rw[qR];exact ha)]
  have r3: ∀d:Int,0<=d->rd (List.set S2 a.toNat (bo.mk (rd S2 a).key c (rd S2 a).aZ)) d=if d=a then bo.mk (rd S2 a).key c (rd S2 a).aZ else rd S2 d:=λd d0=>lB ha.1 (by rw[qR];exact ha.2) d0
  refine⟨_,J,J,J,by simpa using qR,λd d0=>?_,qS,λd fS=>?_,⟨?_,?_,?_⟩,J,?_⟩
  ·rw[<-AQ d d0];simp only;rw[r3 d d0];split
   ·rename_i q;rw[q]
   ·rfl
  ·simp only[List.length_set];rw[qR];rcases List.mem_cons.1 fS with rfl |q
   ·exact⟨h0,h1⟩
   ·exact h.mem d q
  ·simp only;rw[r3 c h0,ah Nv.symm,r2 c h0,af J]
  ·simp only;rw[r3 c h0,ah Nv.symm,r2 c h0,af J,e];rfl
  ·refine Xh ord (-1) c (-1) (λd fS=>?_) h.nd (λ_=>?_) h.x_
   ·have:=h.mem d fS;have Kh:d≠c:=λq=>hc (q▸fS);rw[r3 d this.1];refine⟨?_,λq=>?_⟩
    ·split
     ·rename_i q;rw[q,r2 a ha.1,ah Nv]
     ·rw[r2 d this.1,ah Kh]
    ·rw[e] at q;simp only[hd] at q;rw[ah q,r2 d this.1,ah Kh]
   ·rw[e];simp only[hd];rw[r3 a ha.1,af J]
  ·simp only;rw[h.ol,e];rfl
theorem rJ.Vt {l:gh} {k:Int} {ord:List Int} (h:rJ l k ord):Ak l ord:=⟨h.nd,λc hc=>(h.mem c).1 hc,h.x_,h.nw,h.ol⟩
theorem ajT {l:gh} {k:Int} {ord:List Int} (h:rJ l k ord) (a b:Int):Ok (xG.f l a b) (λr=> ∃A B,rJ r.2.2.2 k (r.1::(A++B))/\
 ((r.2.1=true/\r.2.2.1=false/\cS l.fj (a,b)=some r.1/\ord=A++r.1::B/\r.2.2.2.ak.length=l.ak.length/\ ∀d:Int,0<=d->(rd r.2.2.2.ak d).key=(rd l.ak d).key)∨
  (r.2.1=false/\r.2.2.1=false/\cS l.fj (a,b)=none/\ord=A++B/\r.1=l.ak.length/\r.2.2.2.ak.length=l.ak.length+1/\(∀d:Int,0<=d->d<l.ak.length->(rd r.2.2.2.ak d).key=(rd l.ak d).key)/\(rd r.2.2.2.ak r.1).key=(a,b))∨
  (r.2.1=false/\r.2.2.1=true/\cS l.fj (a,b)=none/\ord=A++r.1::B/\B=[]/\(l.ak.length:Int)=k/\r.2.2.2.ak.length=l.ak.length/\(∀d:Int,0<=d->d≠r.1->(rd r.2.2.2.ak d).key=(rd l.ak d).key)/\(rd r.2.2.2.ak r.1).key=(a,b)))):=by
 have Kk:=h.kb;have GF:=h.ln;unfold xG.f
 cases hg:cS l.fj (a,b) with
 |some c=>
  have hm:bR l.fj (a,b)=true:=by unfold bR;rw[hg];rfl
  have hv:aR l.fj (a,b)=c:=by unfold aR;rw[hg];rfl
  obtain⟨c0,c1,c2⟩:=(h.sl (a,b) c).1 hg;obtain⟨A,B,rR⟩:=List.append_of_mem ((h.mem c).2 ⟨c0,c1⟩);obtain⟨l1,e1,k1,Ik,n1,KO,uX⟩:=XR (A:=A) (B:=B) (c:=c) (rR▸h.Vt);rw[hm,hv,af J,e1];simp only[aI];have qS:=h.nd;rw[rR] at qS;obtain⟨nA,nB,_⟩:=Pb qS;have Hc:Ak ⟨l1.k,l1.ak,cJ l1.fj (a,b) c,l1.cE,l1.dt⟩ (A++B):=⟨uX.nd,uX.mem,uX.x_,uX.nw,uX.ol⟩;obtain⟨l2,e2,k2,wH,n2,pB,rZ⟩:=OK (c:=c) Hc c0 (by simp only;omega) (by simp[nA,nB])
  rw[e2];simp only at k2 wH n2 pB;have j8: ∀d:Int,0<=d->(rd l2.ak d).key=(rd l.ak d).key:=λd d0=>(pB d d0).trans (KO d d0);refine Ok.pure ⟨A,B,⟨by simp only;rw[k2,k1];exact h.k_,Kk,by simp only;omega,rZ.nd,λd=>?_,rZ.x_,rZ.nw,rZ.ol,?_,λkey d=>?_⟩,.inl ⟨J,J,J,rR,by simp only;omega,j8⟩⟩
  ·have:=h.mem d;rw[rR] at this;simp only[n2,n1,List.mem_cons,List.mem_append] at this⊢;rw[<-this];constructor
   ·rintro(q |q |q)
    ·exact .inr (.inl q)
    ·exact .inl q
    ·exact .inr (.inr q)
   ·rintro(q |q |q)
    ·exact .inr (.inl q)
    ·exact .inl q
    ·exact .inr (.inr q)
  ·simp only;rw[wH,Ik];exact CW h.sn _ _
  ·simp only;rw[wH,Ik,Ba,n2,n1]
   by_cases q:(a,b)=key
   ·rw[af q,<-q];constructor
    ·intro w;simp only[Option.some.injEq] at w;subst w;exact⟨c0,c1,by rw[j8 c c0];exact c2⟩
    ·rintro⟨w0,w1,w2⟩;rw[j8 d w0] at w2;rw[<-hg];exact(h.sl _ _).2 ⟨w0,w1,w2⟩
   ·rw[ah q,h.sl key d];exact⟨λ⟨w0,w1,w2⟩=>⟨w0,w1,by rw[j8 d w0];exact w2⟩,λ⟨w0,w1,w2⟩=>⟨w0,w1,by rw[j8 d w0] at w2;exact w2⟩⟩
 |none=>
  have hm:bR l.fj (a,b)=false:=by unfold bR;rw[hg];rfl
  have gO: ∀d:Int,0<=d->d<l.ak.length->(rd l.ak d).key≠(a,b):=λd d0 d1 e=>by
   have:=(h.sl (a,b) d).2 ⟨d0,d1,e⟩;rw[hg] at this;simp at this
  rw[hm,ah bd]
  by_cases aS:(l.ak.length:Int)<l.k
  ·rw[h.k_] at aS;rw[h.k_,af aS,af U];simp only[aI];have GU: ∀d:Int,0<=d->d<l.ak.length->rd (l.ak++[bo.mk (a,b) 0 0]) d=rd l.ak d:=λd d0 d1=>zD d0 d1
   have EB:rd (l.ak++[bo.mk (a,b) 0 0]) (l.ak.length:Int)=bo.mk (a,b) 0 0:=by rw[Pt U (Int.le_refl _),af J]
   have Hc:Ak ⟨k,l.ak++[bo.mk (a,b) 0 0],cJ l.fj (a,b) (l.ak.length:Int),l.cE,l.dt⟩ ord:=
    ⟨h.nd,λc hc=>by have:=(h.mem c).1 hc;simp;omega,Fc ord _ _ (λc hc=>by have:=(h.mem c).1 hc;simp only;rw[GU c this.1 this.2];exact⟨J,J⟩) h.x_,h.nw,h.ol⟩
   have kG:(l.ak.length:Int)∉ord:=λz=>by have:=(h.mem _).1 z;omega
   obtain⟨l2,e2,k2,wH,n2,pB,rZ⟩:=OK (c:=(l.ak.length:Int)) Hc U bm kG;rw[e2];simp only[List.length_append,List.length_cons,List.length_nil] at k2 wH n2 pB;refine Ok.pure ⟨[],ord,⟨k2,Kk,by simp only;omega,rZ.nd,λd=>?_,rZ.x_,rZ.nw,rZ.ol,?_,λkey d=>?_⟩,.inr (.inl ⟨J,J,by first |rfl |trivial,J,J,by simp only;omega,λd d0 d1=>?_,?_⟩)⟩
   ·simp only[List.nil_append,List.mem_cons,n2];rw[h.mem d];omega
   ·simp only;rw[wH];exact CW h.sn _ _
   ·simp only;rw[wH,Ba,n2]
    by_cases q:(a,b)=key
    ·rw[af q,<-q];constructor
     ·intro w;simp only[Option.some.injEq] at w;subst w;exact⟨by omega,by omega,by rw[pB _ U,EB]⟩
     ·rintro⟨w0,w1,w2⟩
      by_cases y:d=l.ak.length
      ·rw[y]
      ·rw[pB d w0,GU d w0 U] at w2;exact absurd w2 (gO d w0 U)
    ·rw[ah q,h.sl key d];constructor
     ·rintro⟨w0,w1,w2⟩;exact⟨w0,by omega,by rw[pB d w0,GU d w0 w1];exact w2⟩
     ·rintro⟨w0,w1,w2⟩
      by_cases y:d=l.ak.length
      ·rw[y,pB _ U,EB] at w2;exact absurd w2 q
      ·rw[pB d w0,GU d w0 U] at w2;exact⟨w0,by omega,w2⟩
   ·simp only;rw[pB d d0,GU d d0 d1]
   ·simp only;rw[pB _ U,EB]
  ·rw[h.k_] at aS;rw[h.k_,ah aS];have bQ:ord≠[]:=λz=>by have:=(h.mem 0).2 U;rw[z] at this;simp at this
   have hlm:=Hh ord (-1) bQ;have rX:=(h.mem _).1 hlm;obtain⟨A,hA⟩: ∃A,ord=A++jv ord (-1)::[]:=by
    refine⟨ord.dropLast,?_⟩;have:jv ord (-1)=ord.getLast bQ:=by
     have: ∀(L:List Int) (p:Int) (hL:L≠[]),jv L p=L.getLast hL:=by
      intro L
      induction L with
      |nil=>intro p hL;exact absurd J hL
      |cons c r ih=>
       intro p hL
       cases r with
       |nil=>rfl
       |cons d r=>rw[List.getLast_cons bd];exact ih c bd
     exact this ord (-1) bQ
    rw[this,List.dropLast_concat_getLast]
   rw[<-h.ol] at hA rX;generalize hc:l.dt=c at*;obtain⟨l1,e1,k1,Ik,n1,KO,uX⟩:=XR (A:=A) (B:=[]) (c:=c) (hA▸h.Vt);rw[e1];simp only[aI];rw[af U];simp only[aI];have hck:((rd l1.ak c).key.1,(rd l1.ak c).key.2)=(rd l.ak c).key:=by rw[KO c rX.1]
   rw[hck];have hr: ∀d:Int,0<=d->rd (List.set l1.ak c.toNat (bo.mk (a,b) (rd l1.ak c).cM (rd l1.ak c).aZ)) d=if d=c then bo.mk (a,b) (rd l1.ak c).cM (rd l1.ak c).aZ else rd l1.ak d:=λd d0=>lB rX.1 U d0
   have qS:=h.nd;rw[hA] at qS;obtain⟨nA,nB,_⟩:=Pb qS;have Hc:Ak ⟨l1.k,List.set l1.ak c.toNat (bo.mk (a,b) (rd l1.ak c).cM (rd l1.ak c).aZ),cJ (dT l1.fj (rd l.ak c).key) (a,b) c,l1.cE,l1.dt⟩ (A++[]):=
    ⟨uX.nd,λd fS=>by simp only[List.length_set];exact uX.mem d fS,Fc _ _ _ (λd fS=>by
      have:=uX.mem d fS;simp only;rw[hr d this.1,ah (λq=>nA (by rw[<-q];simpa using fS))];exact⟨J,J⟩) uX.x_,uX.nw,uX.ol⟩
   obtain⟨l2,e2,k2,wH,n2,pB,rZ⟩:=OK (c:=c) Hc rX.1 bm (by simpa using nA)
   rw[e2];simp only[List.length_set] at k2 wH n2 pB;have j8: ∀d:Int,0<=d->d≠c->(rd l2.ak d).key=(rd l.ak d).key:=λd d0 Kh=>by rw[pB d d0,hr d d0,ah Kh,KO d d0]
   have Kl:(rd l2.ak c).key=(a,b):=by rw[pB c rX.1,hr c rX.1,af J]
   refine Ok.pure ⟨A,[],⟨by simp only;rw[k2,k1];exact h.k_,Kk,by simp only;omega,rZ.nd,λd=>?_,rZ.x_,rZ.nw,rZ.ol,?_,λkey d=>?_⟩,.inr (.inr ⟨J,J,by first |rfl |trivial,hA,J,by omega,by simp only;omega,j8,Kl⟩)⟩
   ·have:=h.mem d;rw[hA] at this;simp only[n2,n1,List.mem_cons,List.mem_append,List.not_mem_nil,or_false] at this⊢;rw[<-this];exact or_comm
   ·simp only;rw[wH,Ik];exact CW (KS h.sn _) _ _
   ·simp only;rw[wH,Ik,Ba,KV h.sn,n2,n1]
    by_cases q:(a,b)=key
    ·rw[af q,<-q];constructor
     ·intro w;simp only[Option.some.injEq] at w;subst w;exact⟨rX.1,rX.2,Kl⟩
     ·rintro⟨w0,w1,w2⟩
      by_cases y:d=c
      ·rw[y]
      ·rw[j8 d w0 y] at w2;exact absurd w2 (gO d w0 w1)
    ·rw[ah q]
     by_cases y:(rd l.ak c).key=key
     ·rw[af y];constructor
      ·intro w;simp at w
      ·rintro⟨w0,w1,w2⟩
       by_cases x:d=c
       ·rw[x,Kl] at w2;exact absurd w2 q
       ·rw[j8 d w0 x] at w2;have a1:=(h.sl key d).2 ⟨w0,w1,w2⟩;have a2:=(h.sl key c).2 ⟨rX.1,rX.2,y⟩;rw[a1] at a2;simp only[Option.some.injEq] at a2;exact absurd a2 x
     ·rw[ah y,h.sl key d];constructor
      ·rintro⟨w0,w1,w2⟩;have x:d≠c:=λx=>y (by rw[<-x];exact w2)
       exact⟨w0,w1,by rw[j8 d w0 x];exact w2⟩
      ·rintro⟨w0,w1,w2⟩;have x:d≠c:=λx=>q (by rw[x,Kl] at w2;exact w2)
       exact⟨w0,w1,by rw[j8 d w0 x] at w2;exact w2⟩
def sH (t:aL):Prop:=1<=t.W/\t.W<=16/\1<=t.H/\t.H<=16/\(t.C.length:Int)=t.W*t.H/\0∉t.C
instance (t:aL):Decidable (sH t):=by unfold sH;infer_instance
theorem oS {t:aL} (h:sH t):1<=t.C.length/\t.C.length<=256:=by
 obtain⟨a,b,c,d,e,_⟩:=h;have h1:t.W*t.H<=16*16:=ka U U b d;have h2:1*1<=t.W*t.H:=ka U U a c;omega
theorem Lw (t:aL) (hb:t.C.length<4611686018427387904):uh.f t=some (decide (sH t)):=by
 unfold uh.f BE.f;simp only[aI]
 by_cases hw:1<=t.W/\t.W<=16
 ·by_cases hh:1<=t.H/\t.H<=16
  ·have h1:t.W*t.H<=16*16:=ka U U hw.2 hh.2;have h2:0<=t.W*t.H:=nP U U;rw[af bm,af bm,bn U U,ML _ _ hb]
   by_cases hl:(t.C.length:Int)=t.W*t.H
   ·rw[af (by simpa using hl)]
    simp only[aI]
    congr 1
    rw[Bool.eq_iff_iff];simp[sH,hw,hh,hl]
   ·rw[ah (by simpa using hl),decide_eq_false (λq=>hl q.2.2.2.2.1)];rfl
  ·rw[af bm,ah bm,decide_eq_false (λq=>hh ⟨q.2.2.1,q.2.2.2.1⟩)];rfl
 ·rw[ah bm,decide_eq_false (λq=>hw ⟨q.1,q.2.1⟩)];rfl
def lY (t:aL):Prop:=sH t/\ ∀c:Int,0<=c->c<t.C.length->1<=rd t.C c/\rd t.C c<=255
theorem ajE {t:aL} (h:lY t) (c:Int):BD.f t c=some (if 0<=c/\c<t.C.length then rd t.C c else 0):=by
 have hl:=oS h.1;unfold BD.f Fk.f;rw[Lw _ U,decide_eq_true h.1]
 by_cases a:0<=c
 ·by_cases b:c<t.C.length
  ·have:=h.2 c a b;rw[af a,af b,af ⟨a,b⟩];simp only[aI,Bool.not_true,Bool.false_eq_true,if_false];rw[af ⟨a,b⟩,wi U U]
  ·simp only[af a,ah b,ah (show ¬(0<=c/\c<t.C.length) from λq=>b q.2)];rfl
 ·simp only[ge_iff_le,ah a,ah (show ¬(0<=c/\c<t.C.length) from λq=>a q.1)];rfl
def gj (w h c side:Int):Int:=if cH w h c side<0∨aY w h (cH w h c side)=aY w h c then-1 else cH w h c side
theorem VZ (w h c side:Int):yK.f w h c side=some (gj w h c side):=by
 unfold yK.f gj;rw[Ir,aI]
 by_cases h1:cH w h c side<0
 ·rw[af h1,af (Or.inl h1)];rfl
 ·rw[ah h1,tY,aI,tY,aI]
  by_cases h2:aY w h (cH w h c side)=aY w h c
  ·rw[af (Or.inr h2),h2];simp
  ·rw[ah (c:=_∨_) (λq=>q.elim h1 h2)];simp[h2]
theorem ahl {w h c side:Int} (hn: ¬(0<=side/\side<=3)):gj w h c side= -1:=by
 unfold gj
 by_cases hc:bZ w h c
 ·by_cases h4:side=4
  ·subst h4;rw[ajr hc,af (Or.inr rfl)]
  ·have:cH w h c side= -1:=by unfold cH;rw[ah U]
   rw[this,af (Or.inl U)]
 ·have:cH w h c side= -1:=by unfold cH;rw[ah (λq=>hc q.1)]
  rw[this,af (Or.inl U)]
theorem VY {w h c side:Int} (h0:0<=gj w h c side):bZ w h c/\0<=side/\side<=3/\bZ w h (gj w h c side)/\gj w h c side=cH w h c side/\aY w h (gj w h c side)≠aY w h c:=by
 have CC:0<=side/\side<=3:=by
  by_cases hs:0<=side/\side<=3
  ·exact hs
  ·rw[ahl hs] at h0;omega
 by_cases hq:cH w h c side<0∨aY w h (cH w h c side)=aY w h c
 ·unfold gj at h0;rw[af hq] at h0;omega
 ·have e:gj w h c side=cH w h c side:=by unfold gj;rw[ah hq]
  have hc:bZ w h c:=by
   by_cases hc:bZ w h c
   ·exact hc
   ·have:cH w h c side= -1:=by unfold cH;rw[ah (λq=>hc q.1)]
    omega
  rcases Lu hc CC.1 (by omega:side<=4) with⟨h1,_⟩ |⟨h1,_⟩
  ·omega
  ·exact⟨hc,CC.1,CC.2,e▸h1,e,λq=>hq (.inr (e▸q))⟩
theorem Nc {w h s l:Int} (hs:bK w h s) (h0:0<=l) (h1:l<(ax w h s).1*(ax w h s).2):
 bZ w h (dn w h s l)/\dn w h s l%w=16*(s%(bp w h).1)+l%(ax w h s).1/\dn w h s l/w=16*(s/(bp w h).1)+l/(ax w h s).1:=by
 obtain⟨a1,a2,a3,a4,a5,a6⟩:=xt hs h0 h1;have hp:=ve hs;have e:dn w h s l=(16*(s/(bp w h).1)+l/(ax w h s).1)*w+(16*(s%(bp w h).1)+l%(ax w h s).1):=by unfold dn;rw[af ⟨hs,h0,h1⟩]
 have:=sS (h:=h) (x:=16*(s%(bp w h).1)+l%(ax w h s).1) (y:=16*(s/(bp w h).1)+l/(ax w h s).1) U a5 U a6;rw[e];exact⟨⟨tX hs,this⟩,qY U a5⟩
theorem ai8 {w h s:Int} (hs:bK w h s):(ax w h s).1=min 16 (w-16*(s%(bp w h).1))/\(ax w h s).2=min 16 (h-16*(s/(bp w h).1)):=by
 unfold ax;rw[af hs];exact⟨J,J⟩
theorem Ll {w h s l:Int} (hs:bK w h s) (h0:0<=l) (h1:l<(ax w h s).1*(ax w h s).2):aY w h (dn w h s l)=s:=by
 obtain⟨hc,e1,e2⟩:=Nc hs h0 h1;obtain⟨a1,a2,a3,a4,a5,a6⟩:=xt hs h0 h1;obtain⟨z1,z2,z3,z4⟩:=qv hs;unfold aY;rw[af hc,e1,e2];have q1:(16*(s/(bp w h).1)+l/(ax w h s).1)/16=s/(bp w h).1:=U;have q2:(16*(s%(bp w h).1)+l%(ax w h s).1)/16=s%(bp w h).1:=U;rw[q1,q2];have:=Int.mul_ediv_add_emod s (bp w h).1;rw[Int.mul_comm] at this;exact this
def Bo (w h s side:Int):Prop:=if side=0 then 1<=s/(bp w h).1 else if side=1 then s%(bp w h).1+1<(bp w h).1 else if side=2 then s/(bp w h).1+1<(bp w h).2 else 1<=s%(bp w h).1
def vc (tw th l side:Int):Prop:=if side=0 then l/tw=0 else if side=1 then l%tw=tw-1 else if side=2 then l/tw=th-1 else l%tw=0
instance (w h s side:Int):Decidable (Bo w h s side):=by unfold Bo;infer_instance
instance (tw th l side:Int):Decidable (vc tw th l side):=by unfold vc;infer_instance
theorem K7 {w h s l side:Int} (hs:bK w h s) (h0:0<=l) (h1:l<(ax w h s).1*(ax w h s).2) (s0:0<=side) (s3:side<=3):
 0<=gj w h (dn w h s l) side↔Bo w h s side/\vc (ax w h s).1 (ax w h s).2 l side:=by
 obtain⟨hc,e1,e2⟩:=Nc hs h0 h1;obtain⟨a1,a2,a3,a4,a5,a6⟩:=xt hs h0 h1;obtain⟨z1,z2,z3,z4⟩:=qv hs;obtain⟨y1,y2⟩:=ai8 hs;obtain⟨p1,p2,p3,p4⟩:=ve hs;have zg:=Ll hs h0 h1;have hm:=tX hs;have eS:(bp w h).1=(w+15)/16/\(bp w h).2=(h+15)/16:=by unfold bp;rw[af hm];exact⟨J,J⟩
 have GZ:side=0∨side=1∨side=2∨side=3:=U;rcases Lu hc s0 (by omega:side<=4) with⟨b1,b2⟩ |⟨b1,b2,b3,b4,b5,b6,b7⟩
 ·have:gj w h (dn w h s l) side= -1:=by unfold gj;rw[b1,af (Or.inl U)]
  rw[this];refine⟨λq=>by omega,λq=>?_⟩
  exfalso;apply b2;rw[e1,e2];obtain⟨q1,q2⟩:=q;unfold Bo at q1;unfold vc at q2;unfold dX dY;rcases GZ with rfl |rfl |rfl |rfl<;>simp at q1 q2⊢ <;>omega
 ·have b8: ¬cH w h (dn w h s l) side<0:=by have:=b1.2;omega
  have key:aY w h (cH w h (dn w h s l) side)=s↔(16*(s/(bp w h).1)+l/(ax w h s).1+dY side)/16=s/(bp w h).1/\(16*(s%(bp w h).1)+l%(ax w h s).1+dX side)/16=s%(bp w h).1:=by
   have uQ:=E_ b1;have ze:=qY (a:=(bp w h).1) (y:=cH w h (dn w h s l) side/w/16) uQ.1 uQ.2.1;have e:aY w h (cH w h (dn w h s l) side)=cH w h (dn w h s l) side/w/16*(bp w h).1+cH w h (dn w h s l) side%w/16:=by unfold aY;rw[af b1]
   rw[<-e,b2,b3,e1,e2] at ze;constructor
   ·intro q;rw[q] at ze;exact⟨ze.2.symm,ze.1.symm⟩
   ·rintro⟨q1,q2⟩;rw[e,b2,b3,e1,e2,q1,q2];have:=Int.mul_ediv_add_emod s (bp w h).1;rw[Int.mul_comm] at this;exact this
  rw[e1] at b4 b5;rw[e2] at b6 b7;unfold gj;rw[zg]
  by_cases hq:aY w h (cH w h (dn w h s l) side)=s
  ·rw[af (Or.inr hq)];obtain⟨k1,k2⟩:=key.mp hq;refine⟨λq=>by omega,λq=>?_⟩
   exfalso;obtain⟨q1,q2⟩:=q;unfold Bo at q1;unfold vc at q2;unfold dX at k2;unfold dY at k1;rcases GZ with rfl |rfl |rfl |rfl<;>simp at q1 q2 k1 k2<;>omega
  ·rw[ah (c:=_∨_) (λq=>q.elim b8 hq)];refine⟨λ_=>?_,λ_=>by omega⟩
   rw[key] at hq;unfold Bo vc;unfold dX at hq b4 b5;unfold dY at hq b6 b7;rcases GZ with rfl |rfl |rfl |rfl<;>simp at hq b4 b5 b6 b7⊢ <;>omega
instance :DecidableEq a_:=λa b=>decidable_of_iff (a.Cell=b.Cell/\a.cO=b.cO/\a.Key=b.Key) (by obtain⟨a1,a2,a3⟩:=a;obtain⟨b1,b2,b3⟩:=b;simp)
theorem PQ (a b:a_):((a.Cell==b.Cell)&&((a.cO==b.cO)&&((a.Key==b.Key)&&true)))=decide (a=b):=by
 obtain⟨a1,a2,a3⟩:=a;obtain⟨b1,b2,b3⟩:=b;rw[Bool.eq_iff_iff];simp
theorem abi {R:a_->a_->Prop} (s:List a_) (hs:s.Pairwise R) (hb:s.length<=1000000) {x2:Int} (h2:1<=x2/\x2<s.length): ∀(n k:Nat) (x:List a_) (x8 x9:Int),(s.length-x2-x9).toNat<=n->n<k->x.length=s.length->
 1<=x8->x8<=x2+x9-1->1<=x9->x2+x9<=s.length->(∀c:Int,x2+x9-1<=c->c<s.length->rd x c=rd s c)->
 (∀i j:Int,0<=i->i<j->j<x8->R (rd x i) (rd x j))->(∀i c:Int,0<=i->i<x8->x2+x9<=c->c<s.length->R (rd x i) (rd s c))->
 (∀i:Int,0<=i->i<x8->rd x i∈s)->(∀c:Int,0<=c->c<x2+x9-> ∃i:Int,0<=i/\i<x8/\rd x i=rd s c)->
 Ok (jQ.l1 k s x2 x x8 x9) (λr=>r.length<=s.length/\(∀e,e∈r↔e∈s)/\r.Pairwise R):=by
 intro n
 induction n with
 |zero=>
  intro k x x8 x9 hn hk hx h8 SM h9 hle hc hR Gp cu Ez;obtain⟨k,rfl⟩:=bl hk;have EC:((aA x x2 (s.length:Int)).length:Int)=s.length-x2:=by rw[i_ U];omega
  rw[jQ.l1,EC,ah U,af U];have e:(cm x (Int.toNat x8) (List.length (aA x x8 (List.length x:Int))) (List.replicate (List.length (aA x x8 (List.length x:Int))) (default:a_)))=x.take x8.toNat++List.replicate (x.length-x8.toNat) default:=by
   unfold cm;rw[i_ U,List.drop_of_length_le U];simp
  rw[e];have e2:aA (x.take x8.toNat++List.replicate (x.length-x8.toNat) (default:a_)) 0 x8=x.take x8.toNat:=by
   unfold aA;simp only[Int.toNat_zero,List.drop_zero,Nat.sub_zero];rw[List.take_append_of_le_length bm,List.take_take];simp
  have hr: ∀i:Int,0<=i->i<x8->rd (x.take x8.toNat) i=rd x i:=λi i0 i1=>by
   rw[jA (xs:=List.take _ _) bm,List.getElem_take,jA U]
  have hl:(x.take x8.toNat).length=x8.toNat:=by simp;omega
  refine Ok.cx bm ?_;rw[e2];refine Ok.pure ⟨by omega,λy=>⟨λhy=>?_,λhy=>?_⟩,?_⟩
  ·obtain⟨i,i0,i1,rfl⟩:=jL hy;rw[hr i i0 U];exact cu i i0 U
  ·obtain⟨c,c0,c1,rfl⟩:=jL hy;obtain⟨i,i0,i1,q⟩:=Ez c c0 U;rw[<-q,<-hr i i0 i1];exact dU i0 U
  ·refine Pu λi j i0 ij j1=>?_
   rw[hr i i0 U,hr j U U];exact hR i j i0 ij U
 |succ n ih=>
  intro k x x8 x9 hn hk hx h8 SM h9 hle hc hR Gp cu Ez
  by_cases Eu:x2+x9=s.length
  ·exact ih k x x8 x9 U U hx h8 SM h9 hle hc hR Gp cu Ez
  obtain⟨k,rfl⟩:=bl hk;have EC:((aA x x2 (s.length:Int)).length:Int)=s.length-x2:=by rw[i_ U];omega
  have Ku: ∀i:Int,0<=i->i<s.length-x2->rd (aA x x2 (s.length:Int)) i=rd x (x2+i):=λi i0 i1=>by
   unfold aA;rw[jA (xs:=List.take _ _) bm,List.getElem_take,List.getElem_drop,jA U]
   congr 1;omega
  rw[jQ.l1,EC,wi (x:=x9-1) U U];simp only[PQ];rw[Ku x9 U U,Ku (x9-1) U U,hc (x2+x9) U U,hc (x2+(x9-1)) U U,wi (x:=x9+1) U U];refine Ok.pos U (Ok.cx U (Ok.cx U (Ok.ite (λq=>Ok.cx U ?_) λq=>?_)))
  ·rw[wi U U];have dS: ∀c:Int,0<=c->rd (List.set x x8.toNat (rd s (x2+x9))) c=if c=x8 then rd s (x2+x9) else rd x c:=λc c0=>lB U U c0
   refine ih k _ (x8+1) (x9+1) U U (by simpa using hx) U U U U (λc c0 c1=>?_) (λi j i0 ij j1=>?_) (λi c i0 i1 c0 c1=>?_) (λi i0 i1=>?_) (λc c0 c1=>?_)
   ·rw[dS c U,ah U];exact hc c U c1
   ·rw[dS i i0,dS j U,ah U];split
    ·exact Gp i _ i0 U U U
    ·exact hR i j i0 ij U
   ·rw[dS i i0];split
    ·exact va hs U U c1
    ·exact Gp i c i0 U U c1
   ·rw[dS i i0];split
    ·exact dU U U
    ·exact cu i i0 U
   ·by_cases z:c=x2+x9
    ·exact⟨x8,by omega,by omega,by rw[dS _ U,af J,z]⟩
    ·obtain⟨i,i0,i1,y⟩:=Ez c c0 U;exact⟨i,i0,by omega,by rw[dS i i0,ah U];exact y⟩
  ·have q:rd s (x2+x9)=rd s (x2+(x9-1)):=by simpa using q
   refine ih k x x8 (x9+1) U U hx h8 U U U (λc c0 c1=>hc c U c1) hR (λi c i0 i1 c0 c1=>Gp i c i0 i1 U c1) cu (λc c0 c1=>?_)
   by_cases z:c=x2+x9
   ·rw[z,q];exact Ez _ U U
   ·exact Ez c c0 U
theorem abh {R:a_->a_->Prop} (s:List a_) (hs:s.Pairwise R) (hb:s.length<=1000000): ∀(n k:Nat) (i:Int),(s.length-i).toNat<=n->n<k->1<=i->
 Ok (jQ.l0 k s i) (λr=>r.length<=s.length/\(∀e,e∈r↔e∈s)/\r.Pairwise R):=by
 intro n
 induction n with
 |zero=>
  intro k i hn hk hi;obtain⟨k,rfl⟩:=bl hk;rw[jQ.l0,ah U];exact Ok.pure ⟨Nat.le_refl _,λ_=>Iff.rfl,hs⟩
 |succ n ih=>
  intro k i hn hk hi;obtain⟨k,rfl⟩:=bl hk;rw[jQ.l0];refine Ok.ite (λhl=>?_) λ_=>Ok.pure ⟨Nat.le_refl _,λ_=>Iff.rfl,hs⟩
  rw[wi (x:=i-1) U U];simp only[PQ];refine Ok.cx U (Ok.cx U (Ok.ite (λq=>Ok.cx U ?_) λq=>?_))
  ·have q:rd s i=rd s (i-1):=by simpa using q
   refine abi s hs hb (x2:=i) U s.length fuel s i 1 U (by rw[cI];omega) J hi U U U (λ_ _ _=>rfl) (λa b a0 ab b1=>va hs a0 ab U) (λa c a0 a1 c0 c1=>va hs a0 U c1) (λa a0 a1=>dU a0 U) (λc c0 c1=>?_)
   by_cases z:c=i
   ·exact⟨i-1,by omega,by omega,by rw[z,q]⟩
   ·exact⟨c,c0,by omega,J⟩
  ·rw[wi U U];exact ih k (i+1) U U U
theorem abg {R:a_->a_->Prop} (s:List a_) (hs:s.Pairwise R) (hb:s.length<=1000000):Ok (jQ.f s) (λr=>r.length<=s.length/\(∀e,e∈r↔e∈s)/\r.Pairwise R):=by
 unfold jQ.f;exact Ok.ite (λ_=>Ok.pure ⟨Nat.le_refl _,λ_=>Iff.rfl,hs⟩) λ_=>abh s hs hb s.length fuel 1 U (by rw[cI];omega) U
def Ay (x y:Int):Int:=if x<y then-1 else if x>y then 1 else 0
theorem abd (x y:Int):sT.f x y=some (Ay x y):=by
 unfold sT.f cmp_isNaN_int.f Ay;simp only[aI,bne_self_eq_false,Bool.false_eq_true,if_false];split
 ·rfl
 ·split<;>rfl
theorem ahh (a b c:Int):mV.f [a,b,c]=some (if a≠0 then a else if b≠0 then b else c):=by
 unfold mV.f;obtain⟨k,hk⟩: ∃q,fuel=q+1+1+1+1:=⟨fuel-4,by rw[cI]⟩
 have w1:aa (0+1)=1:=rfl;have w2:aa (1+1)=2:=rfl;have w3:aa (2+1)=3:=rfl;have e0:rd [a,b,c] 0=a:=rfl;have e1:rd [a,b,c] 1=b:=rfl;have e2:rd [a,b,c] 2=c:=rfl;have l3:(List.length [a,b,c]:Int)=3:=rfl;rw[hk];simp only[mV.l0,l3,w1,w2,w3,e0,e1,e2]
 by_cases ha:a=0
 ·by_cases hb:b=0
  ·by_cases hc:c=0<;>simp[ha,hb,hc]
  ·simp[ha,hb]
 ·simp[ha]
def vd (a b:a_):Int:=if Ay a.Key b.Key≠0 then Ay a.Key b.Key else if Ay a.Cell b.Cell≠0 then Ay a.Cell b.Cell else Ay a.cO b.cO
theorem ahi (a b:a_):pN.f a b=some (vd a b):=by
 unfold pN.f;simp only[abd,ahh,aI];rfl
def tQ (a b:a_):Prop:=a.Key<b.Key∨a.Key=b.Key/\(a.Cell<b.Cell∨a.Cell=b.Cell/\a.cO<b.cO)
theorem Lr (a b:a_):ltOf vd a b=true↔tQ a b:=by
 unfold ltOf vd tQ Ay;rw[decide_eq_true_iff]
 repeat' split
 all_goals omega
theorem swo:Go.Sort.SWO (ltOf vd):=by
 refine⟨λx=>?_,λx y z h1 h2=>?_,λx y z h1 h2=>?_⟩
 ·rw[<-Bool.not_eq_true,Lr];unfold tQ;omega
 ·rw[Lr] at*;unfold tQ at*;omega
 ·rw[<-Bool.not_eq_true,Lr] at*;unfold tQ at*;omega
theorem PV (l:List a_) (hb:l.length<=1000000):Ok (ni.f l) (λr=>r.length<=l.length/\(∀e,e∈r↔e∈l)/\r.Pairwise (λa b=> ¬tQ b a)):=by
 unfold ni.f sm.f Bt.f;have e:(λa b=>Option.getD (pN.f a b) 0)=vd:=by funext a b;rw[ahi];rfl
 have hlen:=Io swo l;obtain⟨⟨p1,p2,p3⟩,hs⟩:=Xs swo l;have hp: ∀x,x∈pQ vd l↔x∈l:=λx=>by
  have h1:(pQ vd l).toArray.extract 0 l.length=(pQ vd l).toArray:=by rw[<-hlen];simp
  have h2:l.toArray.extract 0 l.length=l.toArray:=by simp
  rw[h1,h2] at p3;exact p3.mem_iff
 have hpw:(pQ vd l).Pairwise (λa b=> ¬tQ b a):=Pu λi j i0 ij j1=>by
  have:=hs i.toNat j.toNat U U U;rw[<-Lr];have g: ∀c:Int,0<=c->c<(pQ vd l).length->(pQ vd l).toArray[c.toNat]! =rd (pQ vd l) c:=λc c0 c1=>by
   rw[jA U];simp;rw[List.getElem?_eq_getElem U];rfl
  rw[g i i0 U,g j U U] at this;simp[this]
 refine Ok.eq (af bm) ?_;simp only[List.nil_append,e];refine Ok.eq (af U) ((abg _ hpw U).bind λr hr=>Ok.pure ⟨by omega,λx=>(hr.2.1 x).trans (hp x),hr.2.2⟩)
def Ia (t:aL) (c side:Int):Prop:=side=4∨(0<=side/\side<=3/\vc t.W t.H c side)
def qG (t:aL) (s:a_):Prop:=0<=s.Cell/\s.Cell<t.C.length/\rd t.C s.Cell≠255/\0<=s.Key/\s.Key<=1073741824/\Ia t s.Cell s.cO
theorem ahj {t:aL} (h:lY t) {c side:Int} (c0:0<=c) (c1:c<t.C.length):Ok (Du.f t c side) (λb=>b=true↔Ia t c side):=by
 unfold Du.f Ia vc;obtain⟨a,b,d,e,f,_⟩:=h.1;have hl:=oS h.1;have hq:0<=c/t.W/\c/t.W<=c:=⟨Int.ediv_nonneg c0 U,Int.ediv_le_self _ c0⟩;rw[nk c0,ru c0,wi (x:=c/t.W) U U,wi (x:=t.W-1) U U,wi (x:=t.H-1) U U];refine Ok.cx U (Ok.cx U (Ok.ite (λz=>Ok.pure ?_) λz=>Ok.ite (λz=>Ok.pure ?_) λz=>Ok.ite (λz=>Ok.pure ?_) λz=>Ok.ite (λz=>Ok.pure ?_) λz=>Ok.pure ?_))
 all_goals simp only[beq_iff_eq] at*
 ·subst z;simp
 ·subst z;simp
 ·subst z;simp
 ·subst z;simp
 ·constructor
  ·exact .inl
  ·rintro(q |q)
   ·exact q
   ·omega
theorem agn {t:aL} (h:lY t) (s:a_):Ok (Dt.f s t) (λb=>b=true↔ ¬qG t s):=by
 unfold Dt.f qG;refine(?_:Ok _ (λb:Bool=>b=true↔ ¬qG t s)).bind λr hr=>Ok.pure hr
 unfold qG;refine Ok.ite (λz=>Ok.pure ?_) λz1=>Ok.ite (λz=>Ok.pure ?_) λz2=>Ok.cx U (Ok.ite (λz=>Ok.pure ?_) λz3=>Ok.ite (λz=>Ok.pure ?_) λz4=>Ok.ite (λz=>Ok.pure ?_) λz5=>?_)
 ·simp;omega
 ·simp;omega
 ·have z:rd t.C s.Cell=255:=by simpa using z
  simp[z]
 ·simp;omega
 ·simp;omega
 ·refine(ahj h U U).bind λr hr=>Ok.pure ?_
  have z3:rd t.C s.Cell≠255:=by simpa using z3
  cases r
  ·have: ¬Ia t s.Cell s.cO:=λq=>by have:=hr.2 q;simp at this
   simp[this]
  ·have:Ia t s.Cell s.cO:=hr.1 J;simp only[Bool.not_true,Bool.false_eq_true,false_iff,Classical.not_not];exact⟨by omega,by omega,z3,by omega,by omega,this⟩
theorem afh {t:aL} (h:lY t) (l:List a_) (hb:l.length<=1000000): ∀(n k:Nat) (i:Int),(l.length-i).toNat<=n->n<k->0<=i->(∀j:Int,0<=j->j<i->qG t (rd l j))->
 Ok (rj.l0 k l t i) (λr=>0<=r↔ ¬ ∀s∈l,qG t s):=by
 intro n
 induction n with
 |zero=>
  intro k i hn hk hi ha;obtain⟨k,rfl⟩:=bl hk;rw[rj.l0,ah U];refine Ok.pure ⟨λq=>by omega,λq=>absurd (λs hs=>?_) q⟩
  obtain⟨j,j0,j1,rfl⟩:=jL hs;exact ha j j0 U
 |succ n ih=>
  intro k i hn hk hi ha
  by_cases aS:i<l.length
  ·obtain⟨k,rfl⟩:=bl hk;rw[rj.l0];refine Ok.pos aS (Ok.cx ⟨hi,aS⟩ ((agn h (rd l i)).bind λb gf=>Ok.ite (λq=>Ok.pure ⟨λ_ y=>gf.1 q (y _ (dU hi aS)),λ_=>hi⟩) λq=>?_));rw[wi U U];refine ih k (i+1) U U U (λj j0 j1=>?_)
   by_cases z:j=i
   ·rw[z];exact Classical.byContradiction λy=>q (gf.2 y)
   ·exact ha j j0 U
  ·exact ih k i U U hi ha
theorem Xq {t:aL} (h:lY t) (l:List a_) (hb:l.length<=1000000):Ok (zQ.f t l) (λb=>b=true↔ ∀s∈l,qG t s):=by
 have hl:=oS h.1;unfold zQ.f Fg.f rj.f;rw[Lw _ U,decide_eq_true h.1];refine Ok.eq J (Ok.neg bd (((afh h l hb l.length fuel 0 U (by rw[cI];omega) U (λj j0 j1=>by omega)).bind λr hr=>Ok.pure (P:=λb=>b=true↔ ¬ ∀s∈l,qG t s) (by simp only[decide_eq_true_iff];exact hr)).bind λr hr=>Ok.pure ?_))
 cases r
 ·simp only[Bool.not_false,true_iff];exact Classical.byContradiction λy=>by have:=hr.2 y;simp at this
 ·simp only[Bool.not_true,Bool.false_eq_true,false_iff];exact hr.1 J
theorem aiX (a b:List a_) (hl:a.length=b.length) (hb:a.length<=1000000): ∀(n k:Nat) (i:Int),(a.length-i).toNat<=n->n<k->0<=i->(∀j:Int,0<=j->j<i->rd a j=rd b j)->
 ri.l0 k a b i=some (decide (a=b)):=by
 intro n
 induction n with
 |zero=>
  intro k i hn hk hi ha;obtain⟨k,rfl⟩:=bl hk;rw[ri.l0,ah U,decide_eq_true (zC hl λj j0 j1=>ha j j0 U)]
 |succ n ih=>
  intro k i hn hk hi ha
  by_cases aS:i<a.length
  ·obtain⟨k,rfl⟩:=bl hk;rw[ri.l0,af aS,af ⟨hi,aS⟩,af U,PQ]
   by_cases q:rd a i=rd b i
   ·rw[ah (by simp[q]),wi U U]
    refine ih k (i+1) U U U (λj j0 j1=>?_)
    by_cases z:j=i
    ·rw[z];exact q
    ·exact ha j j0 U
   ·rw[af (by simp[q]),decide_eq_false (λy=>q (by rw[y]))]
  ·exact ih k i U U hi ha
theorem ajj (a b:List a_) (hb:a.length<=1000000):Br.f a b=some (decide (a=b)):=by
 unfold Br.f ri.f
 by_cases hl:a.length=b.length
 ·rw[ah (by simp[hl]),aiX a b hl hb a.length fuel 0 U (by rw[cI];omega) U (λj j0 j1=>by omega)];rfl
 ·rw[af bm,decide_eq_false (λy=>hl (by rw[y]))];rfl
theorem aau (l:List a_) (c side:Int) (hb:l.length<=1000000): ∀(n k:Nat) (x:Int) (b:Bool) (i:Int),(l.length-i).toNat<=n->n<k->0<=i->
 ∃r,kN.l0 k l c side x b i=some r:=by
 intro n
 induction n with
 |zero=>
  intro k x b i hn hk hi;obtain⟨k,rfl⟩:=bl hk;exact⟨x,by rw[kN.l0,ah U]⟩
 |succ n ih=>
  intro k x b i hn hk hi
  by_cases aS:i<l.length
  ·obtain⟨k,rfl⟩:=bl hk;rw[kN.l0,af aS,af ⟨hi,aS⟩,wi U U];have: ∃q,(if((rd l i).Cell==c)=true then(if((rd l i).cO==side)=true then(if(!b)=true then(some true) else(some (decide ((rd l i).Key<x)))) else(some false)) else(some false))=some q:=by
    repeat' split
    all_goals exact⟨_,J⟩
   obtain⟨q,hq⟩:=this;rw[hq,aI];split
   ·exact ih k _ _ (i+1) U U U
   ·exact ih k _ _ (i+1) U U U
  ·exact ih k x b i U U hi
theorem aat (l:List a_) (c side:Int) (hb:l.length<=1000000): ∃r,kN.f l c side=some r:=
 aau l c side hb l.length fuel _ _ 0 U (by rw[cI];omega) U
def kM (b:jY):List Int:=b.items.drop b.gone.toNat
def ko:List jY->Int
 |[]=>0
 |b::l=>(kM b).length+ko l
theorem P5: ∀l,0<=ko l
 |[]=>Int.le_refl _
 |b::l=>by have:=P5 l;unfold ko;omega
theorem XP: ∀(l:List jY) (j:Nat) (b:jY),j<l.length->ko (l.set j b)=ko l-(kM (rd l (j:Int))).length+(kM b).length
 |[],j,b,h=>by simp at h
 |a::l,0,b,_=>by simp[ko,rd];omega
 |a::l,j+1,b,h=>by
  have:=XP l j b (by simpa using h)
  have e:rd (a::l) ((j+1:Nat):Int)=rd l (j:Int):=by unfold rd;simp
  simp only[List.set_cons_succ,ko];rw[this,e];omega
theorem XM: ∀(l:List jY) (j:Nat),j<l.length->((kM (rd l (j:Int))).length:Int)<=ko l
 |a::l,0,_=>by have:=P5 l;simp[ko,rd];omega
 |a::l,j+1,h=>by
  have:=XM l j (by simpa using h)
  have e:rd (a::l) ((j+1:Nat):Int)=rd l (j:Int):=by unfold rd;simp
  simp only[ko];rw[e];omega
theorem XO: ∀(l:List jY),0<ko l-> ∃j:Nat,j<l.length/\kM (rd l (j:Int))≠[]
 |[],h=>by simp[ko] at h
 |a::l,h=>by
  by_cases z:kM a=[]
  ·obtain⟨j,h1,h2⟩:=XO l (by simp[ko,z] at h;exact h)
   exact⟨j+1,by simpa using h1,by have e:rd (a::l) ((j+1:Nat):Int)=rd l (j:Int):=by unfold rd;simp
                                  rw[e];exact h2⟩
  ·exact⟨0,by simp,by simpa[rd] using z⟩
theorem XN {n:Nat}: ∀(l:List jY),(∀b∈l,b.items.length<=n)->ko l<=l.length*n
 |[],_=>by simp[ko]
 |b::l,h=>by
  have:=XN l (λb hb=>h b (List.mem_cons_of_mem _ hb));have hb:=h b (List.mem_cons_self ..);have:(kM b).length<=b.items.length:=by unfold kM;simp
  rw[ko,List.length_cons,Int.natCast_add,Int.add_mul,Int.natCast_one,Int.one_mul];omega
structure iQ (r:eO) (n:Nat):Prop where
 len_:r.buckets.length=256
 at_:0<=r.ba/\r.ba<=8796093022208
 gone: ∀b∈r.buckets,0<=b.gone/\b.gone<=b.items.length/\b.items.length<=n
 BF:r.len=ko r.buckets
 n_:n<=1000000000
def Has (r:eO) (k i:Int):Prop:=r.ba<=k/\k<r.ba+256/\i∈kM (rd r.buckets (k%256))
variable {r : eO} {n : Nat}
theorem iQ.CP (h:iQ r n):0<=r.len/\r.len<=256000000000:=by
 have h1:=P5 r.buckets;have h2:=XN r.buckets (λb hb=>(h.gone b hb).2.2);have:=h.n_;rw[h.len_] at h2;rw[h.BF];omega
theorem iQ.none (h:iQ r n) (h0:r.len=0) (k i:Int): ¬Has r k i:=by
 rintro⟨h1,h2,h3⟩;have:=XM r.buckets (k%256).toNat (by rw[h.len_];omega)
 rw[<-h.BF,h0,show(((k%256).toNat:Nat):Int)=k%256 by omega] at this
 have:=List.length_pos_iff.2 (List.ne_nil_of_mem h3);omega
theorem iQ.some (h:iQ r n) (h0:r.len≠0): ∃k i,Has r k i:=by
 have:=h.CP;obtain⟨j,j1,j2⟩:=XO r.buckets (by rw[<-h.BF];omega)
 obtain⟨i,hi⟩:=List.exists_mem_of_ne_nil _ j2;rw[h.len_] at j1;have ha:=h.at_;refine⟨r.ba+(j-r.ba%256)%256,i,by omega,by omega,?_⟩
 rw[show(r.ba+(j-r.ba%256)%256)%256=(j:Int) by omega];exact hi
theorem aie: ∃r,wx.f 0=some (some r)/\r.ba=0/\iQ r 0/\ ∀k i,¬Has r k i:=by
 refine⟨_,J,J,⟨List.length_replicate ..,⟨Int.le_refl _,by decide⟩,λb hb=>?_,?_,by omega⟩,λk i=>?_⟩
 ·rw[List.mem_replicate] at hb;rw[hb.2];exact⟨Int.le_refl _,Int.le_refl _,Nat.le_refl _⟩
 ·have: ∀n,ko (List.replicate n (default:jY))=0:=λn=>by
   induction n with
   |zero=>rfl
   |succ n ih=>rw[List.replicate_succ,ko,ih];rfl
  rw[this]
 ·rintro⟨_,_,h3⟩;rw[wq U U] at h3;have:kM (default:jY)=[]:=rfl;rw[this] at h3;simp at h3
theorem W0 {b:jY} {j:Int} {l:Int} (h:iQ r n) {n':Nat} (hn:n<=n') (tk:n'<=1000000000) (j0:0<=j) (j1:j<256) (hb:0<=b.gone/\b.gone<=b.items.length/\b.items.length<=n') {a:Int} (ha:0<=a/\a<=8796093022208)
 (hl:l=r.len-(kM (rd r.buckets j)).length+(kM b).length):iQ ⟨a,l,List.set r.buckets j.toNat b⟩ n':=by
 refine⟨by simp[h.len_],ha,λc hc=>?_,?_,tk⟩
 ·rcases List.mem_or_eq_of_mem_set hc with z |rfl
  ·have:=h.gone c z;omega
  ·exact hb
 ·simp only;rw[XP _ _ _ (by rw[h.len_];omega),hl,h.BF,show((j.toNat:Nat):Int)=j by omega]
theorem W1 (h:iQ r n) (hn:n<1000000000) {key:Int} (k1:key<=8796093022208) (k0:0<=key) (i:Int):
 Ok (tK.f r key i) (λx=>x.2.ba=r.ba/\iQ x.2 (n+1)/\((x.1=true/\r.ba<=key/\key<r.ba+256/\x.2.len=r.len+1/\ ∀k j,Has x.2 k j↔Has r k j∨(k=key/\j=i))∨(x.1=false/\(key<r.ba∨r.ba+256<=key)/\x.2=r))):=by
 have ha:=h.at_;have hl:=h.CP;unfold tK.f;have e:(if key<r.ba then some true else some (decide (aa (key-r.ba)≥256)))=some (decide (key<r.ba∨r.ba+256<=key)):=by
  rw[wi U U]
  by_cases z:key<r.ba
  ·simp[z]
  ·simp only[z,if_false,false_or];congr 2;rw[eq_iff_iff];constructor<;>intro<;>omega
 have hs:iQ r (n+1):=⟨h.len_,h.at_,λb hb=>by have:=h.gone b hb;omega,h.BF,by omega⟩
 refine Ok.eq e (Ok.ite (λz=>Ok.pure ⟨J,hs,.inr ⟨J,of_decide_eq_true z,J⟩⟩) λz=>?_);have z: ¬(key<r.ba∨r.ba+256<=key):=by simpa using z
 rw[nk k0];have hb:=h.gone (rd r.buckets (key%256)) (dU U (by rw[h.len_];omega))
 refine Ok.cx (by rw[h.len_];omega) ?_
 unfold zK.f;rw[af U];have hp:kM ⟨(rd r.buckets (key%256)).items++[i],(rd r.buckets (key%256)).gone⟩=kM (rd r.buckets (key%256))++[i]:=by
  unfold kM;simp only;rw[List.drop_append_of_le_length U]
 refine Ok.pure ⟨J,W0 (b:=⟨(rd r.buckets (key%256)).items++[i],(rd r.buckets (key%256)).gone⟩) h (Nat.le_succ n) U U U ⟨hb.1,by simp;omega,by simp;omega⟩ ha ?_,.inl ⟨J,by omega,by omega,?_,λk j=>?_⟩⟩
 ·rw[wi U U,hp];simp;omega
 ·simp only;rw[wi U U]
 ·unfold Has;simp only;rw[lB U (by rw[h.len_];omega) U]
  by_cases y:k%256=key%256
  ·rw[af y,hp,y];constructor
   ·rintro⟨a,b,c⟩;rcases List.mem_append.1 c with c |c
    ·exact .inl ⟨a,b,c⟩
    ·exact .inr ⟨by omega,by simpa using c⟩
   ·rintro(⟨a,b,c⟩ |⟨rfl,rfl⟩)
    ·exact⟨a,b,List.mem_append_left _ c⟩
    ·exact⟨by omega,by omega,by simp⟩
  ·rw[ah y];constructor
   ·exact .inl
   ·rintro(q |⟨rfl,_⟩)
    ·exact q
    ·exact absurd J y
theorem ahs: ∀(m k:Nat) (r:eO) (x y:Int),(x-r.ba).toNat<=m->m<k->iQ r n->x<=8796093022208->Has r x y->
 Ok (oQ.l0 k r) (λq=>iQ q n/\q.buckets=r.buckets/\q.len=r.len/\r.ba<=q.ba/\kM (rd q.buckets (q.ba%256))≠[]/\ ∀a b,Has q a b↔Has r a b):=by
 intro m
 induction m with
 |zero=>
  intro k r x y hm hk h hx hy;obtain⟨k,rfl⟩:=bl hk;have ha:=h.at_;have qg:x=r.ba:=by have:=hy.1;omega
  subst qg;rw[oQ.l0,nk ha.1];unfold xW.f;have bQ:=List.ne_nil_of_mem hy.2.2;refine Ok.cx (by rw[h.len_];omega) (Ok.neg ?_ (Ok.pure ⟨h,J,J,by omega,bQ,λ_ _=>Iff.rfl⟩))
  intro z;have z:(rd r.buckets (r.ba%256)).gone=(rd r.buckets (r.ba%256)).items.length:=by simpa using z
  exact bQ (by unfold kM;rw[z];simp)
 |succ m ih=>
  intro k r x y hm hk h hx hy;obtain⟨k,rfl⟩:=bl hk;have ha:=h.at_;rw[oQ.l0,nk ha.1];unfold xW.f;have uM:=h.gone (rd r.buckets (r.ba%256)) (dU U (by rw[h.len_];omega))
  refine Ok.cx (by rw[h.len_];omega) (Ok.ite (λz=>?_) λz=>Ok.pure ⟨h,J,J,by omega,λq=>?_,λ_ _=>Iff.rfl⟩)
  ·have z:(rd r.buckets (r.ba%256)).gone=(rd r.buckets (r.ba%256)).items.length:=by simpa using z
   have hp:kM (rd r.buckets (r.ba%256))=[]:=by unfold kM;rw[z];simp
   have bQ:x≠r.ba:=by rintro rfl;have:=hy.2.2;rw[hp] at this;simp at this
   have:=hy.1;rw[wi U U];have hh: ∀a b,Has ⟨r.ba+1,r.len,r.buckets⟩ a b↔Has r a b:=λa b=>by
    unfold Has;simp only;constructor
    ·rintro⟨q1,q2,q3⟩;refine⟨by omega,?_,q3⟩
     apply Classical.byContradiction;intro q;have:a%256=r.ba%256:=U;rw[this,hp] at q3;simp at q3
    ·rintro⟨q1,q2,q3⟩;refine⟨?_,by omega,q3⟩
     apply Classical.byContradiction;intro q;have:a=r.ba:=U;rw[this,hp] at q3;simp at q3
   refine(ih k ⟨r.ba+1,r.len,r.buckets⟩ x y (by simp only;omega) U ⟨h.len_,by simp only;omega,h.gone,h.BF,h.n_⟩ hx ((hh x y).2 hy)).mono λq hq=>⟨hq.1,hq.2.1,hq.2.2.1,by have:=hq.2.2.2.1;simp only at this;omega,hq.2.2.2.2.1,λa b=>(hq.2.2.2.2.2 a b).trans (hh a b)⟩
  ·unfold kM at q;rw[List.drop_eq_nil_iff] at q;exact z bm
theorem ail (h:iQ r n) {x y:Int} (hx:x<=8796093022208) (hy:Has r x y):
 Ok (oQ.f r) (λq=>q.2.2.1=true/\iQ q.2.2.2 n/\q.2.2.2.ba=q.1/\q.2.2.2.len=r.len-1/\Has r q.1 q.2.1/\(∀a b,Has r a b->q.1<=a)/\(∀a b,Has q.2.2.2 a b->Has r a b)/\ ∀a b,Has r a b->(a=q.1/\b=q.2.1)∨Has q.2.2.2 a b):=by
 unfold oQ.f wy.f;have hl:=h.CP;have AV:r.len≠0:=λz=>h.none z x y hy
 refine Ok.eq J (Ok.neg (by simpa using AV) ((ahs (x-r.ba).toNat fuel r x y U (by rw[cI];have:=h.at_;omega) h hx hy).bind λq hq=>?_))
 obtain⟨h1,h2,h3,h4,h5,h6⟩:=hq;have ha:=h1.at_;rw[nk ha.1];have hb:=h1.gone (rd q.buckets (q.ba%256)) (dU U (by rw[h1.len_];omega))
 refine Ok.cx (by rw[h1.len_];omega) ?_
 generalize hB:rd q.buckets (q.ba%256)=B at hb h5;have hg:B.gone<B.items.length:=by
  apply Classical.byContradiction;intro z;exact h5 (by unfold kM;rw[List.drop_eq_nil_iff];omega)
 have Kr:kM B=rd B.items B.gone::B.items.drop (B.gone+1).toNat:=by unfold kM;rw[yP hb.1 hg]
 have hn:=h1.n_;have ae': ∃B',sb.f B=some (rd B.items B.gone,B')/\kM B'=B.items.drop (B.gone+1).toNat/\0<=B'.gone/\B'.gone<=B'.items.length/\B'.items.length<=n:=by
  unfold sb.f xW.f;rw[af ⟨hb.1,hg⟩,wi U U];simp only[aI]
  by_cases z:B.gone+1=B.items.length
  ·rw[af (by simpa using z),af U]
   exact⟨_,J,by unfold kM aA;simp;omega,Int.le_refl _,by simp,by simp[aA]⟩
  ·rw[ah (by simpa using z)]
   exact⟨_,J,J,by simp only;omega,by simp only;omega,hb.2.2⟩
 obtain⟨B',e1,e2,e3⟩:=ae';have hR:iQ ⟨q.ba,aa (q.len-1),List.set q.buckets (Int.toNat (q.ba%256)) B'⟩ n:=by
  refine W0 h1 (Nat.le_refl _) hn U U e3 ha ?_;rw[wi U U,hB,Kr,e2];simp;omega
 have acw:Has r q.ba (rd B.items B.gone):=(h6 _ _).1 ⟨by omega,by omega,by rw[hB,Kr];simp⟩
 have dS: ∀a:Int,rd (List.set q.buckets (Int.toNat (q.ba%256)) B') (a%256)=if a%256=q.ba%256 then B' else rd q.buckets (a%256):=λa=>lB U (by rw[h1.len_];omega) U
 refine Ok.eq e1 (Ok.pure ⟨J,hR,J,by simp only;rw[wi U U,h3],acw,λa b yY=>((h6 a b).2 yY).1,λa b yY=>?_,λa b yY=>?_⟩)
 ·obtain⟨q1,q2,q3⟩:=yY;simp only at q1 q2 q3;rw[dS] at q3;refine(h6 a b).1 ⟨q1,q2,?_⟩;split at q3
  ·rename_i z;rw[z,hB,Kr];rw[e2] at q3;exact List.mem_cons_of_mem _ q3
  ·exact q3
 ·obtain⟨q1,q2,q3⟩:=(h6 a b).2 yY
  by_cases z:a%256=q.ba%256
  ·have:a=q.ba:=U;subst this;rw[hB,Kr] at q3;rcases List.mem_cons.1 q3 with y |y
   ·exact .inl ⟨J,y⟩
   ·exact .inr ⟨q1,q2,by simp only;rw[dS,af J,e2];exact y⟩
  ·exact .inr ⟨q1,q2,by simp only;rw[dS,ah z];exact q3⟩
theorem afF (h:iQ r n) {key:Int} (k0:0<=key) (k1:key<=1099511627776) (h0:r.len=0):
 Ok (xV.f r key) (λx=>iQ x.2 n/\x.2.len=0/\x.2.ba=if key<r.ba then r.ba else key):=by
 unfold xV.f;rw[ah U];refine Ok.eq J (Ok.ite (λz=>Ok.pure ⟨h,h0,?_⟩) λz=>Ok.pure ⟨⟨h.len_,by simp only;omega,h.gone,h.BF,h.n_⟩,h0,?_⟩)
 ·simp at z;rw[af U]
 ·simp at z;rw[ah U]
theorem Mi {n:Int} (h0:0<=n) (h1:n<4294967296):((BitVec.toNat (BitVec.ofInt (IntKind.bits .u64) n&&&BitVec.ofInt (IntKind.bits .u64) 4294967295):Nat):Int)=n:=by
 obtain⟨k,rfl⟩: ∃k:Nat,n=(k:Int):=⟨n.toNat,by omega⟩
 have e1:(BitVec.ofInt (IntKind.bits .u64) (k:Int)).toNat=k:=by
  show(BitVec.ofInt 64 (k:Int)).toNat=k
  rw[BitVec.toNat_ofInt];omega
 have e2:(BitVec.ofInt (IntKind.bits .u64) 4294967295).toNat=2^32-1:=by rfl
 rw[BitVec.toNat_and,e1,e2,Nat.and_two_pow_sub_one_eq_mod];omega
theorem rB {x:Int} (h1:0<=x) (h2:x<=18446744073709551615):eQ x=x:=by
 unfold eQ IntKind.wrap IntKind.signed IntKind.bits;simp;omega
theorem agJ {n:Int} (h0:0<=n) (h1:n<4294967296):tn.f 1 n=some (0,n):=by
 unfold tn.f CT.f;have a1:Int.fdiv 1 (2^32)=0:=by rfl
 have a2:Int.fdiv n (2^32)=0:=by rw[Int.fdiv_eq_ediv_of_nonneg _ U];omega
 have a3:((BitVec.toNat (BitVec.ofInt (IntKind.bits .u64) 1&&&BitVec.ofInt (IntKind.bits .u64) 4294967295):Nat):Int)=1:=Mi U U;have a4:=Mi h0 h1;have w0:eQ 0=0:=rB U U;have w1:eQ 1=1:=rB U U;have wn:eQ n=n:=rB h0 U;have a5:((BitVec.toNat (BitVec.ofInt (IntKind.bits .u64) 0&&&BitVec.ofInt (IntKind.bits .u64) 4294967295):Nat):Int)=0:=Mi U U;have f0:Int.fdiv 0 (2^32)=0:=by rfl
 simp only[a1,a2,a3,a4,Int.zero_mul,Int.mul_zero,Int.one_mul,w0,w1,wn,Int.zero_add,a2,a5,f0,aI]
theorem ah' {v:Int}: ∀(n k:Nat) (x:List Int) (i:Int),i+n≥x.length->1<=i->(x.length:Int)<=1000000000->n<k->(∀j:Int,0<=j->j<i->j<x.length->rd x j=v)->
 kn.l0 k x i=some (List.replicate x.length v):=by
 intro n
 induction n with
 |zero=>
  intro k x i hi h1 hb hk hx;obtain⟨k,rfl⟩:=bl hk;rw[kn.l0,ah U]
  congr 1
  apply zC bd;intro j j0 j1;rw[hx j j0 U j1,wq j0 U]
 |succ n ih=>
  intro k x i hi h1 hb hk hx;obtain⟨k,rfl⟩:=bl hk
  by_cases hq:i<x.length
  ·have s1:(aA x 0 i).length=i.toNat:=by rw[i_ U];omega
   have s2:(aA x i (x.length:Int)).length=(x.length-i.toNat):=by rw[i_ U];omega
   rw[kn.l0,af hq,af U,af U,s1,s2];have hlen:(cm x i.toNat (min i.toNat (x.length-i.toNat)) (aA x 0 i)).length=x.length:=AA U (by rw[s1];omega)
   rw[bn U U];have:=ih k (cm x i.toNat (min i.toNat (x.length-i.toNat)) (aA x 0 i)) (i+((min i.toNat (x.length-i.toNat):Nat):Int)) (by rw[hlen];omega) U (by rw[hlen];omega) U (λj j0 j1 j2=>?_)
   ·rw[this,hlen]
   ·rw[hlen] at j2;unfold cm
    by_cases vV:j<i
    ·rw[zD j0 (by rw[List.length_take];omega)]
     have:rd (x.take i.toNat) j=rd x j:=by
      unfold rd;simp[List.getD,List.getElem?_take,show j.toNat<i.toNat by omega]
     rw[this];exact hx j j0 vV U
    ·rw[mJ (by rw[List.length_take];omega),List.length_take,show((min i.toNat x.length:Nat):Int)=i by omega]
     rw[zD U (by rw[List.length_take,s1];omega)]
     have:rd ((aA x 0 i).take (min i.toNat (x.length-i.toNat))) (j-i)=rd x (j-i):=by
      unfold rd aA;simp[List.getD,List.getElem?_take,show(j-i).toNat<i.toNat by omega,show(j-i).toNat<x.length-i.toNat by omega]
      rw[af U]
     rw[this];exact hx (j-i) U U U
  ·rw[kn.l0,ah hq]
   congr 1
   apply zC bd;intro j j0 j1;rw[hx j j0 U j1,wq j0 U]
theorem WZ {v:Int} {n:Nat} (h0:1<=n) (h1:n<=1000000000):kn.f [v] (n:Int)=some (List.replicate n v):=by
 unfold kn.f;have e1:eQ (([v]:List Int).length:Int)=1:=by rw[show(([v]:List Int).length:Int)=1 from rfl];exact rB U U
 rw[ah U,e1,rB (x:=(n:Int)) U U,agJ U U,aI];simp only;rw[ah bm,bn U U,af U,Int.toNat_natCast];have e2:min ([v]:List Int).length (List.replicate n (0:Int)).length=1:=by rw[List.length_replicate];simp;omega
 rw[e2];have e3:cm (List.replicate n (0:Int)) 0 1 [v]=v::List.replicate (n-1) 0:=by
  unfold cm;simp
 have hl:(v::List.replicate (n-1) (0:Int)).length=n:=by simp;omega
 rw[e3,ah' (v:=v) n fuel _ ((1:Nat):Int) U U U (by rw[cI];omega) (λj j0 j1 _=>by
  rw[show j=0 by omega];rfl),hl]
 rfl
theorem ah_: ∀(k:Nat) (x:List Int) (i:Int),pP.l0 k x i=kn.l0 k x i:=by
 intro k
 induction k with
 |zero=>intros;rfl
 |succ k ih=>intro x i;rw[pP.l0,kn.l0];simp only[ih]
theorem aib {v:Int} {n:Nat} (h0:1<=n) (h1:n<=1000000000):pP.f [v] (n:Int)=some (List.replicate n v):=by
 rw[<-WZ h0 h1];unfold pP.f kn.f;simp only[ah_]
def An (w h c:Int):Nat->Int->Bool
 |0,_=>false
 |n+1,j=>decide (0<=gj w h c j)||An w h c n (j+1)
def Dq (w h s l:Int):Bool:=An w h (dn w h s l) 4 0
def wB (w h s:Int) (n:Nat):List Int:=((List.range n).filter (λl:Nat=>Dq w h s (l:Int))).map (λl:Nat=>dn w h s (l:Int))
def rh (w h s:Int):List Int:=wB w h s ((ax w h s).1*(ax w h s).2).toNat
theorem aa5 (w h s:Int) (n:Nat):wB w h s (n+1)=if Dq w h s (n:Int)=true then wB w h s n++[dn w h s (n:Int)] else wB w h s n:=by
 unfold wB;rw[List.range_succ,List.filter_append,List.map_append]
 by_cases h:Dq w h s (n:Int)=true
 ·rw[af h];simp[h]
 ·rw[ah h];simp[h]
theorem Rv (w h s:Int) (n:Nat):(wB w h s n).length<=n:=by
 unfold wB;rw[List.length_map];have:=List.length_filter_le (λl:Nat=>Dq w h s (l:Int)) (List.range n);simpa using this
theorem zR (w h s:Int):0<=(ax w h s).1*(ax w h s).2/\(ax w h s).1*(ax w h s).2<=256:=by
 have hz:=size_le w h s;have:(ax w h s).1*(ax w h s).2<=16*16:=ka hz.1 hz.2.2.1 hz.2.1 hz.2.2.2;exact⟨nP hz.1 hz.2.2.1,by omega⟩
theorem PU {w h s l:Int} (h0:0<=l) (h1:l<(ax w h s).1*(ax w h s).2):bK w h s:=by
 by_cases hs:bK w h s
 ·exact hs
 ·have:ax w h s=(0,0):=by unfold ax;rw[ah hs]
  rw[this] at h1;simp at h1;omega
def wD (tw th side i:Int):Int:=if side=2 then(th-1)*tw+i else if side=0 then i else if side=1 then tw-1+i*tw else i*tw
def qq (tw th side:Int):Int:=if side=2∨side=0 then tw else if side=1∨side=3 then th else 0
def qo (tw th side:Int) (n:Nat):List Int:=(List.range n).map (λi:Nat=>wD tw th side (i:Int))
def sj (tw th side:Int):List Int:=qo tw th side (qq tw th side).toNat
theorem Jh (tw th side:Int) (n:Nat):qo tw th side (n+1)=qo tw th side n++[wD tw th side (n:Int)]:=by
 unfold qo;rw[List.range_succ,List.map_append];rfl
theorem FR (tw th side:Int) (n:Nat):(qo tw th side n).length=n:=by simp[qo]
theorem Y3 {tw th:Int} (side:Int) (t0:0<=tw) (t1:tw<=16) (u0:0<=th) (u1:th<=16):fv.f tw th side=some (sj tw th side):=by
 unfold fv.f sj;have hb: ∀i:Int,0<=i->i<=16->0<=i*tw/\i*tw<=256:=λi i0 i1=>⟨nP i0 t0,by have:=ka i0 t0 i1 t1;omega⟩
 by_cases h2:side=2
 ·subst h2;rw[af (by rfl)]
  have Gz: -16<=(th-1)*tw/\(th-1)*tw<=256:=by
   have:=hb th u0 u1;rw[Int.sub_mul,Int.one_mul];omega
  have key: ∀(n k:Nat) (i:Int),i+n=tw->0<=i->n<k->fv.l0 k tw th (qo tw th 2 i.toNat) i=some (qo tw th 2 tw.toNat):=by
   intro n
   induction n with
   |zero=>
    intro k i hi h0 hk;obtain⟨k,rfl⟩:=bl hk;rw[fv.l0,ah U];rw[show i=tw by omega]
   |succ n ih=>
    intro k i hi h0 hk;obtain⟨k,rfl⟩:=bl hk;rw[fv.l0,af U,af (by rw[FR];omega),bn (x:=th-1) U U,bn (x:=(th-1)*tw) U U,bn U U,bn U U]
    have:=ih k (i+1) U U U;rw[show(i+1).toNat=i.toNat+1 by omega,Jh,show((i.toNat:Nat):Int)=i by omega] at this
    exact this
  exact key tw.toNat fuel 0 U U (by rw[cI];omega)
 rw[ah (by simpa using h2)]
 by_cases h0:side=0
 ·subst h0;rw[af (by rfl)]
  have key: ∀(n k:Nat) (i:Int),i+n=tw->0<=i->n<k->fv.l1 k tw (qo tw th 0 i.toNat) i=some (qo tw th 0 tw.toNat):=by
   intro n
   induction n with
   |zero=>
    intro k i hi h0 hk;obtain⟨k,rfl⟩:=bl hk;rw[fv.l1,ah U];rw[show i=tw by omega]
   |succ n ih=>
    intro k i hi h0 hk;obtain⟨k,rfl⟩:=bl hk;rw[fv.l1,af U,af (by rw[FR];omega),bn U U,bn U U,Int.zero_add]
    have:=ih k (i+1) U U U;rw[show(i+1).toNat=i.toNat+1 by omega,Jh,show((i.toNat:Nat):Int)=i by omega] at this
    exact this
  exact key tw.toNat fuel 0 U U (by rw[cI];omega)
 rw[ah (by simpa using h0)]
 by_cases h1:side=1
 ·subst h1;rw[af (by rfl)]
  have key: ∀(n k:Nat) (i:Int),i+n=th->0<=i->n<k->fv.l2 k tw th (qo tw th 1 i.toNat) i=some (qo tw th 1 th.toNat):=by
   intro n
   induction n with
   |zero=>
    intro k i hi h0 hk;obtain⟨k,rfl⟩:=bl hk;rw[fv.l2,ah U];rw[show i=th by omega]
   |succ n ih=>
    intro k i hi h0 hk;obtain⟨k,rfl⟩:=bl hk;have:=hb i U U;rw[fv.l2,af U,af (by rw[FR];omega),bn (x:=tw-1) U U,bn (x:=i*tw) U U,bn U U,bn U U]
    have:=ih k (i+1) U U U;rw[show(i+1).toNat=i.toNat+1 by omega,Jh,show((i.toNat:Nat):Int)=i by omega] at this
    exact this
  exact key th.toNat fuel 0 U U (by rw[cI];omega)
 rw[ah (by simpa using h1)]
 by_cases h3:side=3
 ·subst h3;rw[af (by rfl)]
  have key: ∀(n k:Nat) (i:Int),i+n=th->0<=i->n<k->fv.l3 k tw th (qo tw th 3 i.toNat) i=some (qo tw th 3 th.toNat):=by
   intro n
   induction n with
   |zero=>
    intro k i hi h0 hk;obtain⟨k,rfl⟩:=bl hk;rw[fv.l3,ah U];rw[show i=th by omega]
   |succ n ih=>
    intro k i hi h0 hk;obtain⟨k,rfl⟩:=bl hk;have:=hb i U U;rw[fv.l3,af U,af (by rw[FR];omega),bn (x:=i*tw) U U,Int.zero_add,bn U U,bn U U]
    have:=ih k (i+1) U U U;rw[show(i+1).toNat=i.toNat+1 by omega,Jh,show((i.toNat:Nat):Int)=i by omega] at this
    exact this
  exact key th.toNat fuel 0 U U (by rw[cI];omega)
 rw[ah (by simpa using h3)]
 have:qq tw th side=0:=by unfold qq;rw[ah U,ah U]
 rw[this];rfl
theorem aht {tw th side i:Int} (t0:1<=tw) (u0:1<=th) (i0:0<=i) (i1:i<qq tw th side):0<=wD tw th side i/\wD tw th side i<tw*th/\vc tw th (wD tw th side i) side:=by
 have hb: ∀j:Int,0<=j->j<=th-1->0<=j*tw/\j*tw+tw<=tw*th:=λj j0 j1=>⟨nP j0 U,by
  have:=Int.mul_le_mul_of_nonneg_right j1 (by omega:0<=tw)
  rw[Int.sub_mul,Int.one_mul,Int.mul_comm th] at this;omega⟩
 unfold qq at i1;unfold wD vc
 by_cases h2:side=2
 ·subst h2;rw[af (Or.inl J)] at i1;simp only[if_true];have:=hb (th-1) U U;have q:=qY (y:=th-1) i0 i1;simp only[show ¬((2:Int)=0) by omega,show ¬((2:Int)=1) by omega,if_false]
  exact⟨by omega,by omega,q.2⟩
 by_cases h0:side=0
 ·subst h0;rw[af (Or.inr J)] at i1;have:=hb 0 U U;simp only[if_true,show ¬((0:Int)=2) by omega,if_false]
  exact⟨i0,by omega,Int.ediv_eq_zero_of_lt i0 i1⟩
 by_cases h1:side=1
 ·subst h1;rw[ah U,af (Or.inl J)] at i1;simp only[show ¬((1:Int)=2) by omega,show ¬((1:Int)=0) by omega,if_false,if_true]
  have:=hb i U U;have q:=qY (a:=tw) (x:=tw-1) (y:=i) U U;rw[Int.add_comm];exact⟨by omega,by omega,q.1⟩
 ·rw[ah U] at i1
  by_cases h3:side=3
  ·subst h3;rw[af (Or.inr J)] at i1;have:=hb i U U;simp only[show ¬((3:Int)=2) by omega,show ¬((3:Int)=0) by omega,show ¬((3:Int)=1) by omega,if_false]
   exact⟨by omega,by omega,Int.mul_emod_left _ _⟩
  ·rw[ah U] at i1;omega
theorem agr {tw th side l:Int} (t0:1<=tw) (u0:1<=th) (s0:0<=side) (s3:side<=3):l∈sj tw th side↔0<=l/\l<tw*th/\vc tw th l side:=by
 constructor
 ·intro hm;unfold sj qo at hm;obtain⟨i,hi,rfl⟩:=List.mem_map.mp hm;have rV:=List.mem_range.mp hi;exact aht t0 u0 U U
 ·rintro⟨l0,l1,zf⟩;have a1:0<=l%tw:=Int.emod_nonneg _ U;have a2:l%tw<tw:=Int.emod_lt_of_pos _ U;have a3:0<=l/tw:=Int.ediv_nonneg l0 U;have a4:l/tw<th:=Int.ediv_lt_of_lt_mul U (by rw[Int.mul_comm];exact l1)
  have a5:=Int.mul_ediv_add_emod l tw;rw[Int.mul_comm] at a5;have hc:side=0∨side=1∨side=2∨side=3:=U;have go: ∀i:Int,0<=i->i<qq tw th side->wD tw th side i=l->l∈sj tw th side:=λi i0 i1 e=>by
   unfold sj qo;exact List.mem_map.mpr ⟨i.toNat,List.mem_range.mpr U,by rw[show((i.toNat:Nat):Int)=i by omega];exact e⟩
  unfold vc at zf;rcases hc with rfl |rfl |rfl |rfl
  ·simp only[if_true] at zf;exact go (l%tw) a1 a2 (by unfold wD;rw[zf] at a5;simp;omega)
  ·simp at zf;exact go (l/tw) a3 a4 (by unfold wD;rw[zf] at a5;simp;omega)
  ·simp at zf;exact go (l%tw) a1 a2 (by unfold wD;rw[zf] at a5;simp;omega)
  ·simp at zf;exact go (l/tw) a3 a4 (by unfold wD;rw[zf] at a5;simp;omega)
theorem aa9 (v:List Int) (hv:v.length<=1000) (N:Int) (cu: ∀y∈v,0<=y/\y<N): ∀(n k:Nat) (i:Int) (x:List Bool),i+n=v.length->0<=i->n<k->(x.length:Int)=N->
 ∃x',gM.l1 k v x i=some x'/\(x'.length:Int)=N/\ ∀l:Int,0<=l->l<N->rd x' l=(rd x l||decide (l∈v.drop i.toNat)):=by
 intro n
 induction n with
 |zero=>
  intro k i x hi h0 hk hx;obtain⟨k,rfl⟩:=bl hk;refine⟨x,by rw[gM.l1,ah U],hx,λl l0 l1=>?_⟩
  rw[List.drop_of_length_le U];simp
 |succ n ih=>
  intro k i x hi h0 hk hx;obtain⟨k,rfl⟩:=bl hk;have hy:=cu _ (dU h0 (by omega:i<(v.length:Int)))
  obtain⟨x',e,hl,hr⟩:=ih k (i+1) (List.set x (Int.toNat (rd v i)) true) U U U (by simpa using hx)
  refine⟨x',by rw[gM.l1,af U,af U,af U,bn U U];exact e,hl,λl l0 l1=>?_⟩
  rw[hr l l0 l1,lB hy.1 U l0,yP h0 U]
  by_cases hq:l=rd v i
  ·rw[af hq,hq];simp
  ·rw[ah hq];simp[hq]
theorem aa_ (w h s:Int) (x:List Bool) (hx:(x.length:Int)=(ax w h s).1*(ax w h s).2) (hr: ∀l:Int,0<=l->l<x.length->rd x l=Dq w h s l): ∀(n k:Nat) (i:Int),i+n=x.length->0<=i->n<k->
 gM.l2 k w h s x (wB w h s i.toNat) i=some (rh w h s):=by
 have hz:=zR w h s;intro n
 induction n with
 |zero=>
  intro k i hi h0 hk;obtain⟨k,rfl⟩:=bl hk;rw[gM.l2,ah U];unfold rh;rw[show i=(ax w h s).1*(ax w h s).2 by omega]
 |succ n ih=>
  intro k i hi h0 hk;obtain⟨k,rfl⟩:=bl hk;have hle:=Rv w h s i.toNat;have:=ih k (i+1) U U U;rw[show(i+1).toNat=i.toNat+1 by omega,aa5,show((i.toNat:Nat):Int)=i by omega] at this
  rw[gM.l2,af U,af U,hr i h0 U,bn U U]
  by_cases hb:Dq w h s i=true
  ·rw[af hb] at this;rw[af hb,JS,aI,af U];exact this
  ·rw[ah hb] at this;rw[ah hb];exact this
theorem Xk {j:Int} (h0:0<=j) (h3:j<=3):rd ([rd ([0,1,2,3]:List Int) 0,rd ([0,1,2,3]:List Int) 1,rd ([0,1,2,3]:List Int) 2,rd ([0,1,2,3]:List Int) 3]:List Int) j=j:=by
 have:j=0∨j=1∨j=2∨j=3:=U;rcases this with rfl |rfl |rfl |rfl<;>rfl
theorem QG (w h c:Int): ∀(n:Nat) (j:Int),An w h c (n+1) j=(An w h c n j||decide (0<=gj w h c (j+n))):=by
 intro n
 induction n with
 |zero=>intro j;simp[An]
 |succ n ih=>
  intro j;rw[An,ih (j+1),An,Bool.or_assoc];rw[show j+1+(n:Int)=j+((n+1:Nat):Int) by omega]
theorem aa8 (w h s:Int): ∀(n k:Nat) (j:Int) (x:List Bool),j+n=4->0<=j->n<k->(x.length:Int)=(ax w h s).1*(ax w h s).2->
 (∀l:Int,0<=l->l<x.length->rd x l=An w h (dn w h s l) j.toNat 0)->
 gM.l0 k w h s (ax w h s) [0,1,2,3] x j=some (rh w h s):=by
 have hz:=zR w h s;have A4:=size_le w h s;intro n
 induction n with
 |zero=>
  intro k j x hj h0 hk hx hr;obtain⟨k,rfl⟩:=bl hk;rw[gM.l0,ah U];have e:j.toNat=4:=U;rw[e] at hr;exact aa_ w h s x hx hr x.length fuel 0 U U (by rw[cI];omega)
 |succ n ih=>
  intro k j x hj h0 hk hx hr;obtain⟨k,rfl⟩:=bl hk;rw[gM.l0,af U,Xk h0 U,Y3 j A4.1 A4.2.1 A4.2.2.1 A4.2.2.2,af bm,bn U U];rw[aI]
  by_cases hs:bK w h s
  ·have EF:=qv hs;have hlen:((sj (ax w h s).1 (ax w h s).2 j).length:Int)=qq (ax w h s).1 (ax w h s).2 j:=by
    unfold sj;rw[FR];unfold qq;split
    ·omega
    ·split<;>omega
   have hlp:1<=qq (ax w h s).1 (ax w h s).2 j/\qq (ax w h s).1 (ax w h s).2 j<=16:=by
    unfold qq;split
    ·omega
    ·rw[af U];omega
   have ju:=λl=>agr (l:=l) EF.1 EF.2.2.1 h0 (by omega:j<=3)
   have h0m:=dU (a:=sj (ax w h s).1 (ax w h s).2 j) (i:=0) U U;obtain⟨f0,f1,f2⟩:=(ju _).mp h0m;rw[ah (by rw[beq_iff_eq];omega),af U,JS,aI,VZ,aI,aI]
   have vX:=K7 hs f0 f1 h0 (by omega:j<=3)
   by_cases hn:gj w h (dn w h s (rd (sj (ax w h s).1 (ax w h s).2 j) 0)) j<0
   ·have bQ: ¬Bo w h s j:=λq=>by have:=vX.mpr ⟨q,f2⟩;omega
    rw[af (by simpa using hn),aI]
    refine ih k (j+1) x U U U hx (λl l0 l1=>?_);rw[hr l l0 l1,show(j+1).toNat=j.toNat+1 by omega,QG,Int.zero_add,show((j.toNat:Nat):Int)=j by omega]
    rw[decide_eq_false (λq=>bQ ((K7 hs l0 U h0 (by omega:j<=3)).mp q).1)];simp
   ·have hed:Bo w h s j:=(vX.mp U).1;obtain⟨x',e,hl,hq⟩:=aa9 (sj (ax w h s).1 (ax w h s).2 j) U _ (λy hy=>⟨((ju y).mp hy).1,((ju y).mp hy).2.1⟩) (sj (ax w h s).1 (ax w h s).2 j).length fuel 0 x U U (by rw[cI];omega) hx
    rw[ah (by simpa using hn),e,aI]
    refine ih k (j+1) x' U U U hl (λl l0 l1=>?_);rw[hq l l0 U,hr l l0 U,show(j+1).toNat=j.toNat+1 by omega,QG,Int.zero_add,show((j.toNat:Nat):Int)=j by omega]
    congr 1
    simp only[Int.toNat_zero,List.drop_zero,decide_eq_decide];rw[ju,K7 hs l0 U h0 (by omega:j<=3)]
    exact⟨λq=>⟨hed,q.2.2⟩,λq=>⟨l0,by omega,q.2⟩⟩
  ·have e0:ax w h s=(0,0):=by unfold ax;rw[ah hs]
   have e1:sj (ax w h s).1 (ax w h s).2 j=[]:=by
    unfold sj;rw[e0];have:qq (0,0).1 (0,0).2 j=0:=by unfold qq;split<;>simp
    rw[this];rfl
   rw[e1,af bd,aI,af J,aI];refine ih k (j+1) x U U U hx (λl l0 l1=>?_);rw[e0] at hx;simp at hx;subst hx;simp at l1;omega
theorem aa6 (w h s:Int):gM.f w h s=some (rh w h s):=by
 unfold gM.f;have hz:=zR w h s;have e:yL.f=some [0,1,2,3]:=rfl;rw[Ij,aI,bn (x:=_*_) U U,af U,e,aI];refine aa8 w h s 4 fuel 0 _ U U (by rw[cI];omega) bm (λl l0 l1=>?_)
 rw[wq l0 (by simpa using l1)];rfl
abbrev uv (m:aL):Prop:=iO m.W m.H/\(m.C.length:Int)=m.W*m.H/\0∉m.C
theorem Q3 (m:aL) (hb:m.C.length<4611686018427387904):yG.f m=some (decide (uv m)):=by
 unfold yG.f;rw[A']
 by_cases hm:iO m.W m.H
 ·have hp:=uZ hm;rw[bn (x:=m.W*m.H) U U,ML _ _ hb]
  by_cases hl:(m.C.length:Int)=m.W*m.H
  ·simp[hm,hl]
  ·simp[hl]
 ·simp[hm]
theorem Y2 {x:List Int} {v:Int} (h: ∀c:Int,0<=c->c<x.length->rd x c=v):x=List.replicate x.length v:=by
 rw[List.eq_replicate_iff];refine⟨J,λb hb=>?_⟩
 obtain⟨i,hi,rfl⟩:=List.getElem_of_mem hb;have:=h i U U;rw[jA (by simpa using hi)] at this
 simpa using this
theorem agZ (m:aL) (e:Int) (v2:List Int) (v3:Int×Int) (he:0<=e/\e<=4611686018427387904) (N:Nat) (hN:(List.replicate (Int.toNat (aa (v3.1*v3.2))) (0:Int)).length=N) (hb:N<=1000000):
 ∀(n k:Nat) (x:List Int) (i:Int),x.length=N->i+n=N->0<=i->n<k->(∀c:Int,0<=c->c<i->rd x c=e+1)->
 lN.l0 k m e v2 v3 x i=some (some (bC.mk (aL.mk m.W m.H v2) (e+1) (List.replicate N (e+1)))):=by
 intro n
 induction n with
 |zero=>
  intro k x i hx hi h0 hk ha;obtain⟨k,rfl⟩: ∃q,k=q+1:=⟨k-1,by omega⟩
  rw[lN.l0,hN,ah U,bn U U];have:=Y2 (x:=x) (v:=e+1) (λc c0 c1=>ha c c0 U);rw[hx] at this;rw[this]
 |succ n ih=>
  intro k x i hx hi h0 hk ha;obtain⟨k,rfl⟩: ∃q,k=q+1:=⟨k-1,by omega⟩
  rw[lN.l0,hN,af U,af U,bn (x:=e+1) U U,bn (x:=i+1) U U];refine ih k _ (i+1) (by simpa using hx) U U U (λc c0 c1=>?_)
  rw[HQ h0 U c0]
  by_cases hc:c=i
  ·rw[af hc]
  ·rw[ah hc];exact ha c c0 U
def JL (m:aL) (e:Int):Option bC:=if uv m/\0<=e/\e<=4611686018427387904 then some (bC.mk m (e+1) (List.replicate (eh m.W m.H).toNat (e+1))) else none
theorem acq (m:aL) (e:Int) (hb:m.C.length<=1099511627776):lN.f m e=some (JL m e):=by
 unfold lN.f JL;rw[Q3 m U]
 by_cases h:uv m/\0<=e/\e<=4611686018427387904
 ·have hc:=pn m.W m.H;have hs:aa ((bp m.W m.H).1*(bp m.W m.H).2)=eh m.W m.H:=bn (by unfold eh at hc;omega) (by unfold eh at hc;omega)
  simp only[aI,decide_eq_true h.1,Bool.not_true,Bool.false_or];rw[ah bm,af h,Ry _ hb,Fb];simp only[aI];rw[hs,af U];exact agZ m e m.C _ h.2 (eh m.W m.H).toNat (by rw[hs];simp) U (eh m.W m.H).toNat fuel _ 0 bd U U (by rw[uH];omega) (λc c0 c1=>by omega)
 ·rw[ah h]
  by_cases h1:uv m
  ·have: ¬(0<=e/\e<=4611686018427387904):=λq=>h ⟨h1,q⟩
   simp only[aI,decide_eq_true h1,Bool.not_true,Bool.false_or];rw[af bm]
  ·simp only[aI,decide_eq_false h1,Bool.not_false,Bool.true_or,if_true]
structure du (g:bC) (more:Int):Prop where
 ok:uv g.m
 sP: ∀c:Int,0<=c->c<g.m.W*g.m.H->1<=rd g.m.C c/\rd g.m.C c<=255
 vs:(g.pS.length:Int)=eh g.m.W g.m.H
 ep:1<=g.bM/\g.bM+more<=4611686018427387905+1000/\0<=more
def cP (m:aL) (c:Int):Prop:=0<=c/\c<m.W*m.H
instance (m:aL) (c:Int):Decidable (cP m c):=by unfold cP;infer_instance
def fB (g:bC) (c:Int):Int:=if cP g.m c then rd g.m.C c else 0
def fK (g:bC) (s:Int):Int:=if 0<=s/\s<eh g.m.W g.m.H then rd g.pS s else 0
def mY (g:bC) (c v:Int):bC:=bC.mk (aL.mk g.m.W g.m.H (List.set g.m.C c.toNat v)) (g.bM+1) (List.set g.pS (aY g.m.W g.m.H c).toNat (g.bM+1))
def JK (g:bC) (c v:Int):Int×bC:=if ¬cP g.m c then(7,g) else if v<1∨255<v then(8,g) else(0,mY g c v)
variable {g : bC} {more : Int}
theorem VU (h:du g more) (c:Int):(if c<0 then(some true) else(some (decide (c≥(List.length g.m.C:Int)))))=some (decide (¬cP g.m c)):=by
 have hl:=h.ok.2.1;unfold cP
 by_cases h0:c<0
 ·rw[af h0,decide_eq_true U]
 ·rw[ah h0,hl];congr 1;rw[Bool.eq_iff_iff];simp;omega
theorem vz (h:du g more) (c:Int):iU.f g c=some (fB g c):=by
 unfold iU.f fB;rw[VU h];have hl:=h.ok.2.1
 by_cases hc:cP g.m c
 ·obtain⟨c0,c1⟩:=hc;have hb:=h.sP c c0 c1;have hc:cP g.m c:=⟨c0,c1⟩;rw[aI,ah (by simpa using hc),af U,af hc,bn U U]
 ·rw[aI,af (by simpa using hc),ah hc]
theorem abM (h:du g more) (c v:Int):xu.f g c v=some (JK g c v):=by
 unfold xu.f JK;rw[VU h];have hl:=h.ok.2.1;have hv:=h.vs
 by_cases hc:cP g.m c
 ·obtain⟨c0,c1⟩:=hc;have hc:cP g.m c:=⟨c0,c1⟩;rw[aI,ah (by simpa using hc),ah (c:= ¬cP g.m c) (λq=>q hc)]
  by_cases hq:v<1∨255<v
  ·rw[af bm,af hq]
  ·have eK:bZ g.m.W g.m.H c:=⟨h.ok.1,c0,c1⟩;have zg:bK g.m.W g.m.H (aY g.m.W g.m.H c):=by unfold aY;rw[af eK];exact Fa eK
   have N5:=h.ep;rw[ah bm,ah hq,af U,tY,aI,af (by rw[hv];exact⟨zg.1,zg.2⟩),Fv U U,bn U U]
   rfl
 ·rw[aI,af (by simpa using hc),af (c:= ¬cP g.m c) hc]
theorem af6 (h:du g more) (h1:1<=more) {c v:Int} (hc:cP g.m c) (v0:1<=v) (v1:v<=255):du (mY g c v) (more-1):=by
 obtain⟨c0,c1⟩:=hc;have hl:=h.ok.2.1;have N5:=h.ep;have iX: ∀d:Int,0<=d->d<g.m.W*g.m.H->1<=rd (List.set g.m.C c.toNat v) d/\rd (List.set g.m.C c.toNat v) d<=255:=λd d0 d1=>by
  rw[HQ c0 U d0];split
  ·exact⟨v0,v1⟩
  ·exact h.sP d d0 d1
 refine⟨⟨h.ok.1,by simp[mY,hl],λhm=>?_⟩,iX,by simp[mY,h.vs],⟨by simp[mY];omega,by simp[mY];omega,by omega⟩⟩
 obtain⟨i,hi,he⟩:=List.getElem_of_mem hm;have rV:i<(List.set g.m.C c.toNat v).length:=hi;rw[List.length_set] at rV;have:=iX i U U;rw[jA (show(i:Int).toNat<(List.set g.m.C c.toNat v).length by rw[List.length_set];omega)] at this
 have he:(List.set g.m.C c.toNat v)[i]=0:=he;simp only[Int.toNat_natCast] at this;omega
def mg (m:aL) (c:Int):Bool:=decide (cP m c)&&decide (rd m.C c≠255)
theorem Bx {m:aL} {c:Int}:mg m c=true↔cP m c/\rd m.C c≠255:=by simp[mg]
theorem Pf {g:bC} {more:Int} (h:du g more) (c:Int):uA.f g c=some (mg g.m c):=by
 unfold uA.f;rw[vz h,aI];unfold fB mg
 by_cases hc:cP g.m c
 ·have:=h.sP c hc.1 hc.2;rw[af hc,decide_eq_true hc]
  congr 1
  rw[Bool.eq_iff_iff];simp;omega
 ·rw[ah hc,decide_eq_false hc];simp
theorem ai' (m:aL) {c:Int} (hc:c<0):mg m c=false:=by
 unfold mg;rw[decide_eq_false (λq=>by have:=q.1;omega)];rfl
def bL (m:aL) (s:Int):List Int:=(rh m.W m.H s).filter (mg m)
theorem Rx (w h s:Int):(rh w h s).length<=256:=by
 have:=zR w h s;have:=Rv w h s ((ax w h s).1*(ax w h s).2).toNat;unfold rh;omega
theorem ag8 {g:bC} {more:Int} (h:du g more) (v:List Int) (hv:v.length<=1000): ∀(n k:Nat) (i:Int) (x:List Int),i+n=v.length->0<=i->n<k->x.length<=i.toNat->
 j6.l0 k g v x i=some (x++(v.drop i.toNat).filter (mg g.m)):=by
 intro n
 induction n with
 |zero=>
  intro k i x hi h0 hk hx;obtain⟨k,rfl⟩:=bl hk;rw[j6.l0,ah U,List.drop_of_length_le U];simp
 |succ n ih=>
  intro k i x hi h0 hk hx;obtain⟨k,rfl⟩:=bl hk;rw[j6.l0,af U,af U,Pf h,aI,bn U U,yP h0 U]
  by_cases ho:mg g.m (rd v i)=true
  ·rw[af ho,af U,ih k (i+1) _ U U U bm,List.filter_cons_of_pos ho];simp
  ·rw[ah ho,ih k (i+1) _ U U U U,List.filter_cons_of_neg ho]
theorem VM {g:bC} {more:Int} (h:du g more) (s:Int):j6.f g s=some (bL g.m s):=by
 unfold j6.f;have e0:iV.f g=some (g.m.W,g.m.H):=rfl;have hl:=Rx g.m.W g.m.H s;rw[e0,aI,aa6,aI];have:=ag8 h (rh g.m.W g.m.H s) U (rh g.m.W g.m.H s).length fuel 0 [] U U (by rw[cI];omega) bd
 exact this
def xZ (m:aL) (c:Int) (n:Nat):List eB:=((List.range n).filter (λj:Nat=>mg m (gj m.W m.H c (j:Int)))).map (λj:Nat=>eB.mk (gj m.W m.H c (j:Int)) (rd m.C (gj m.W m.H c (j:Int))))
def wC (m:aL) (c:Int):List eB:=if mg m c=true then xZ m c 4 else[]
theorem abp (m:aL) (c:Int) (n:Nat):xZ m c (n+1)=if mg m (gj m.W m.H c (n:Int))=true then xZ m c n++[eB.mk (gj m.W m.H c (n:Int)) (rd m.C (gj m.W m.H c (n:Int)))] else xZ m c n:=by
 unfold xZ;rw[List.range_succ,List.filter_append,List.map_append]
 by_cases h:mg m (gj m.W m.H c (n:Int))=true
 ·rw[af h];simp[h]
 ·rw[ah h];simp[h]
theorem RK (m:aL) (c:Int) (n:Nat):(xZ m c n).length<=n:=by
 unfold xZ;rw[List.length_map];have:=List.length_filter_le (λj:Nat=>mg m (gj m.W m.H c (j:Int))) (List.range n);simpa using this
theorem abq {g:bC} {more:Int} (h:du g more) (c:Int):nt.f g c=some (wC g.m c):=by
 unfold nt.f wC;have e0:iV.f g=some (g.m.W,g.m.H):=rfl;have e:yL.f=some [0,1,2,3]:=rfl;rw[e0,aI,Pf h,aI]
 by_cases ho:mg g.m c=true
 ·rw[ah (by rw[ho];simp),e,aI,af ho]
  have key: ∀(n k:Nat) (j:Int),j+n=4->0<=j->n<k->nt.l0 k g c (g.m.W,g.m.H) [0,1,2,3] (xZ g.m c j.toNat) j=some (xZ g.m c 4):=by
   intro n
   induction n with
   |zero=>
    intro k j hj h0 hk;obtain⟨k,rfl⟩:=bl hk;rw[nt.l0,ah U];rw[show j.toNat=4 by omega]
   |succ n ih=>
    intro k j hj h0 hk;obtain⟨k,rfl⟩:=bl hk;have hle:=RK g.m c j.toNat;have:=ih k (j+1) U U U;rw[show(j+1).toNat=j.toNat+1 by omega,abp,show((j.toNat:Nat):Int)=j by omega] at this
    rw[nt.l0,af U,Xk h0 U,VZ,af bm,aI,bn U U];have e2:(if gj g.m.W g.m.H c j≥0 then((uA.f g (gj g.m.W g.m.H c j)).bind λv12=>some v12) else(some false))=some (mg g.m (gj g.m.W g.m.H c j)):=by
     by_cases hn:gj g.m.W g.m.H c j≥0
     ·rw[af hn,Pf h];rfl
     ·rw[ah hn,ai' _ U]
    rw[e2,aI]
    by_cases hq:mg g.m (gj g.m.W g.m.H c j)=true
    ·rw[af hq] at this;have Eo:fB g (gj g.m.W g.m.H c j)=rd g.m.C (gj g.m.W g.m.H c j):=by unfold fB;rw[af (Bx.mp hq).1]
     rw[af hq,vz h,aI,af U,Eo];exact this
    ·rw[ah hq] at this;rw[ah hq];exact this
  exact key 4 fuel 0 U U (by rw[cI];omega)
 ·rw[af (by simpa using ho),ah ho]
theorem CP {tw th side:Int} (t0:0<=tw) (t1:tw<=16) (u0:0<=th) (u1:th<=16):0<=qq tw th side/\qq tw th side<=16:=by
 unfold qq;split
 ·omega
 ·split<;>omega
theorem RL (m:aL) (c:Int):(wC m c).length<=4:=by
 unfold wC;split
 ·exact RK m c 4
 ·simp
def eV (p:Int->Bool):Nat->Nat
 |0=>0
 |n+1=>eV p n+if p n then 1 else 0
theorem F6 (p:Int->Bool): ∀n,eV p n<=n
 |0=>Nat.le_refl _
 |n+1=>by have:=F6 p n;unfold eV;split<;>omega
theorem RC {p q:Int->Bool}: ∀{n:Nat},(∀i:Int,0<=i->i<n->p i=q i)->eV p n=eV q n
 |0,_=>rfl
 |n+1,h=>by unfold eV;rw[RC (λi a b=>h i a U),h n U U]
theorem MJ {p q:Int->Bool} {c:Int}: ∀{n:Nat},0<=c->c<n->p c=true->q c=false->(∀i:Int,0<=i->i<n->i≠c->q i=p i)->eV p n=eV q n+1
 |0,h0,h1,_,_,_=>by omega
 |n+1,h0,h1,hp,hq,he=>by
  unfold eV
  by_cases z:c=n
  ·subst z;rw[hp,hq,RC (p:=p) (q:=q) (λi a b=>(he i a U U).symm)];simp
  ·rw[MJ h0 U hp hq (λi a b=>he i a U),he n U U (λy=>z y.symm)];omega
theorem nK {m:aL} (hm:uv m) {c:Int} (h:cP m c):bZ m.W m.H c:=⟨hm.1,h.1,h.2⟩
theorem ajs {m:aL} {c s:Int} (h0: ¬cH m.W m.H c s<0):cP m (cH m.W m.H c s):=by
 unfold cH at h0⊢;split at h0
 ·rename_i h;rw[af h];unfold pK at h0⊢;split at h0
  ·rename_i q;rw[af q];exact sS q.2.1 q.2.2.1 q.2.2.2.1 q.2.2.2.2
  ·omega
 ·omega
theorem Dv (g:bC):iV.f g=some (g.m.W,g.m.H):=rfl
theorem Ge (g:bC):oC.f g=some g.bM:=rfl
end Go.Proofs.YthodkonhneebbaaGreatDoor
