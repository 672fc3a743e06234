/- What the functions do, in plain Lean, on the objects that are kept in order. -/
import Derived.Test.YthodkonhneebbaaGreatDoorK6
import Derived.Test.YthodkonhneebbaaGreatDoorK5
import Derived.Test.YthodkonhneebbaaGreatDoorK11
import Derived.Test.YthodkonhneebbaaGreatDoorK7
import Derived.Test.YthodkonhneebbaaGreatDoorK10
import Derived.Test.YthodkonhneebbaaGreatDoorK8
namespace Go.Proofs.YthodkonhneebbaaGreatDoor
open Go.Hx
set_option linter.unusedVariables false
set_option linter.unusedSimpArgs false
theorem bj {x:Int} (h1: -9223372036854775808<=x) (h2:x<=9223372036854775807):aa x=x:=by
 unfold aa IntKind.wrap IntKind.signed IntKind.bits;simp;omega
theorem qQ {a b:Int} (h:0<=a):Int.tdiv a b=a/b:=Int.tdiv_eq_ediv_of_nonneg h
theorem mM {a b:Int} (h:0<=a):Int.tmod a b=a%b:=Int.tmod_eq_emod_of_nonneg h
abbrev iA (w h:Int):Prop:=1<=w/\w<=1024/\1<=h/\h<=1024
abbrev bU (w h c:Int):Prop:=iA w h/\0<=c/\c<w*h
theorem kt {a b m n:Int} (ha:0<=a) (hb:0<=b) (h1:a<=m) (h2:b<=n):a*b<=m*n:=
 Int.mul_le_mul h1 h2 hb U
theorem nu {a b:Int} (ha:0<=a) (hb:0<=b):0<=a*b:=Int.mul_nonneg ha hb
theorem xf {w h:Int} (hm:iA w h):1<=w*h/\w*h<=1048576:=by
 obtain⟨a,b,c,d⟩:=hm;have h1:w*h<=1024*1024:=kt U U b d;have h2:1*1<=w*h:=Int.mul_le_mul a c U U;omega
theorem AA (w h:Int):nP.f w h=some (decide (iA w h)):=by
 unfold nP.f
 congr 1
 simp only[iA];rw[Bool.eq_iff_iff];simp;omega
theorem NU (n lo hi:Int):sU.f n lo hi=some (decide (lo<=n/\n<=hi)):=by
 unfold sU.f
 congr 1
 rw[Bool.eq_iff_iff];simp
theorem aho (w h:Int):CC.f w h=some (decide (iA w h)):=by
 unfold CC.f;simp only[NU,aK,iA]
 by_cases h1:1<=w/\w<=1024
 ·simp[h1]
 ·simp[h1];omega
def bn (w h:Int):Int×Int:=if iA w h then((w+15)/16,(h+15)/16) else(0,0)
theorem Eu (w h:Int):qc.f w h=some (bn w h):=by
 unfold qc.f bn;simp only[AA,aK]
 by_cases hm:iA w h
 ·rw[decide_eq_true hm,af hm,ah bk];obtain⟨a,b,c,d⟩:=hm;simp only[bj (x:=w+16) U U,bj (x:=h+16) U U,bj (x:=w+16-1) U U,bj (x:=h+16-1) U U,
   qQ (a:=w+16-1) U,qQ (a:=h+16-1) U,bj (x:=(w+16-1)/16) U U,bj (x:=(h+16-1)/16) U U]
  congr 2<;>omega
 ·simp[hm]
theorem OK (w h:Int):vG.f w h=some (bn w h):=by
 rw[<-Eu];unfold vG.f qc.f;rw[aho,AA]
theorem CN {w h:Int} (hm:iA w h):1<=(bn w h).1/\(bn w h).1<=64/\1<=(bn w h).2/\(bn w h).2<=64:=by
 unfold bn;rw[af hm];obtain⟨a,b,c,d⟩:=hm;simp only;omega
theorem ahW (w h:Int):0<=(bn w h).1/\(bn w h).1<=64/\0<=(bn w h).2/\(bn w h).2<=64:=by
 by_cases hm:iA w h
 ·have:=CN hm;omega
 ·unfold bn;rw[ah hm];simp
def dP (w h:Int):Int:=(bn w h).1*(bn w h).2
theorem oQ (w h:Int):0<=dP w h/\dP w h<=4096:=by
 obtain⟨a,b,c,d⟩:=ahW w h;have h1:dP w h<=64*64:=kt a c b d;have h2:0<=dP w h:=nu a c;omega
theorem aav {w h:Int} (hm:iA w h):1<=dP w h:=by
 obtain⟨a,b,c,d⟩:=CN hm;have h2:1*1<=dP w h:=Int.mul_le_mul a c U U;omega
theorem Kt (w h:Int):ui.f w h=some (dP w h):=by
 unfold ui.f;have:=oQ w h;simp only[OK,aK,dP];unfold dP at this;rw[bj U U]
abbrev bG (w h s:Int):Prop:=0<=s/\s<dP w h
def Hc (w h s:Int):Int×Int×Bool:=if bG w h s then(16*(s%(bn w h).1),16*(s/(bn w h).1),true) else(0,0,false)
theorem tg {w h s:Int} (hs:bG w h s):iA w h:=by
 by_cases hm:iA w h
 ·exact hm
 ·have:dP w h=0:=by unfold dP bn;rw[ah hm];simp
  obtain⟨a,b⟩:=hs;omega
theorem uo {w h s:Int} (hs:bG w h s):0<=s%(bn w h).1/\s%(bn w h).1<(bn w h).1/\0<=s/(bn w h).1/\s/(bn w h).1<(bn w h).2:=by
 obtain⟨a,b,c,d⟩:=CN (tg hs);obtain⟨h0,h1⟩:=hs;refine⟨Int.emod_nonneg _ U,Int.emod_lt_of_pos _ U,Int.ediv_nonneg h0 U,?_⟩;unfold dP at h1;exact Int.ediv_lt_of_lt_mul U (by rw[Int.mul_comm];exact h1)
theorem QS (w h s:Int):zA.f w h s=some (Hc w h s):=by
 unfold zA.f Hc;simp only[Eu,aK];have hc:=oQ w h;have hw:aa ((bn w h).1*(bn w h).2)=dP w h:=by unfold dP at hc⊢;exact bj U U
 rw[hw]
 by_cases hs:bG w h s
 ·have hb:((decide (s<0))||(decide (s≥dP w h)))=false:=by
   obtain⟨h0,h1⟩:=hs;simp;omega
  rw[hb];obtain⟨p1,p2,p3,p4⟩:=uo hs;obtain⟨a,b,c,d⟩:=CN (tg hs);have bH: ¬(bn w h).1=0:=U;rw[ah bk,af bH,af bH,af hs,mM hs.1,qQ hs.1];rw[bj (x:=s/(bn w h).1) U U,bj U U,bj U U];rw[Int.mul_comm 16,Int.mul_comm 16]
 ·have hb:((decide (s<0))||(decide (s≥dP w h)))=true:=by
   simp only[bG] at hs;simp;omega
  rw[hb,ah hs];rfl
def ax (w h s:Int):Int×Int:=if bG w h s then(min 16 (w-16*(s%(bn w h).1)),min 16 (h-16*(s/(bn w h).1))) else(0,0)
theorem OW {w h s:Int} (hs:bG w h s):16*(s%(bn w h).1)<w/\16*(s/(bn w h).1)<h:=by
 have hm:=tg hs;obtain⟨p1,p2,p3,p4⟩:=uo hs;have e1:(bn w h).1=(w+15)/16:=by unfold bn;rw[af hm]
 have e2:(bn w h).2=(h+15)/16:=by unfold bn;rw[af hm]
 generalize s%(bn w h).1=x at*;generalize s/(bn w h).1=y at*;omega
theorem J' (x:Int):(if x<16 then x else 16)=min 16 x:=by
 rw[Int.min_def];split<;>split<;>omega
theorem Hk (w h s:Int):qS.f w h s=some (ax w h s):=by
 unfold qS.f ax;simp only[QS,aK];unfold Hc
 by_cases hs:bG w h s
 ·rw[af hs,af hs];obtain⟨r1,r2⟩:=OW hs;obtain⟨p1,p2,p3,p4⟩:=uo hs;obtain⟨a,b,c,d⟩:=tg hs;rw[ah bk];simp only;rw[bj (x:=w-_) U U,bj (x:=h-_) U U,J',J']
 ·rw[ah hs,ah hs];rfl
theorem Wd (w h s:Int):zf.f w h s=some (ax w h s):=by
 unfold zf.f ax;have hc:=oQ w h;simp only[Kt,aK,NU,OK];rw[bj (x:=dP w h-1) U U]
 by_cases hs:bG w h s
 ·have hb:decide (0<=s/\s<=dP w h-1)=true:=by obtain⟨h0,h1⟩:=hs;simp;omega
  rw[hb,af hs];obtain⟨r1,r2⟩:=OW hs;obtain⟨p1,p2,p3,p4⟩:=uo hs;obtain⟨a,b,c,d⟩:=CN (tg hs);obtain⟨m1,m2,m3,m4⟩:=tg hs;have bH: ¬(bn w h).1=0:=U;rw[ah bk,af bH,af bH,mM hs.1,qQ hs.1];rw[bj (x:=s/(bn w h).1) U U,bj (x:=16*(s%_)) U U,bj (x:=16*(s/_)) U U,
   bj (x:=w-_) U U,bj (x:=h-_) U U,J',J']
 ·have hb:decide (0<=s/\s<=dP w h-1)=false:=by simp only[bG] at hs;simp;omega
  rw[hb,ah hs];rfl
theorem p7 {w h s:Int} (hs:bG w h s):1<=(ax w h s).1/\(ax w h s).1<=16/\1<=(ax w h s).2/\(ax w h s).2<=16:=by
 obtain⟨r1,r2⟩:=OW hs;unfold ax;rw[af hs];simp only;omega
theorem size_le (w h s:Int):0<=(ax w h s).1/\(ax w h s).1<=16/\0<=(ax w h s).2/\(ax w h s).2<=16:=by
 by_cases hs:bG w h s
 ·have:=p7 hs;omega
 ·unfold ax;rw[ah hs];simp
def po (w h x y:Int):Int:=if iA w h/\0<=x/\x<w/\0<=y/\y<h then y*w+x else-1
theorem sm {w h x y:Int} (hx:0<=x) (vn:x<w) (hy:0<=y) (TW:y<h):0<=y*w+x/\y*w+x<w*h:=by
 have h1:(y+1)*w<=h*w:=Int.mul_le_mul_of_nonneg_right U U;have h2:(y+1)*w=y*w+w:=by rw[Int.add_mul];omega
 have h3:0<=y*w:=nu hy U;have h4:h*w=w*h:=Int.mul_comm _ _;omega
theorem QF (w h x y:Int):zy.f w h x y=some (po w h x y):=by
 unfold zy.f po;simp only[AA,aK]
 by_cases hc:iA w h/\0<=x/\x<w/\0<=y/\y<h
 ·obtain⟨hm,h1,h2,h3,h4⟩:=hc;have hb:(((((!decide (iA w h))||(decide (x<0)))||(decide (x≥w)))||(decide (y<0)))||(decide (y≥h)))=false:=by
   simp[hm];omega
  rw[hb,ah bk,af ⟨hm,h1,h2,h3,h4⟩];have:=sm h1 h2 h3 h4;have hp:=xf hm;have h5:0<=y*w:=nu h3 U;rw[bj (x:=y*w) U U,bj U U]
 ·have hb:(((((!decide (iA w h))||(decide (x<0)))||(decide (x≥w)))||(decide (y<0)))||(decide (y≥h)))=true:=by
   by_cases hm:iA w h
   ·have jX: ¬(0<=x/\x<w/\0<=y/\y<h):=λh=>hc ⟨hm,h⟩
    simp[hm];omega
   ·simp[hm]
  rw[hb,ah hc];rfl
theorem Ub (w h c:Int):we.f w h c=some (decide (bU w h c)):=by
 unfold we.f;simp only[AA,aK]
 by_cases hm:iA w h
 ·have hp:=xf hm;rw[bj U U];simp[hm]
 ·simp[hm]
def AR (w h c:Int):Int×Int:=if bU w h c then(c%w,c/w) else(-1,-1)
theorem vB {w h c:Int} (hc:bU w h c):0<=c%w/\c%w<w/\0<=c/w/\c/w<h:=by
 obtain⟨⟨a,b,d,e⟩,h0,h1⟩:=hc;exact⟨Int.emod_nonneg _ U,Int.emod_lt_of_pos _ U,Int.ediv_nonneg h0 U,Int.ediv_lt_of_lt_mul U (by rw[Int.mul_comm];exact h1)⟩
theorem Ou (w h c:Int):wb.f w h c=some (AR w h c):=by
 unfold wb.f AR;simp only[Ub,aK]
 by_cases hc:bU w h c
 ·have hp:=vB hc;have hm:=hc.1;have bH: ¬w=0:=by obtain⟨a,_⟩:=hm;omega
  rw[ah (by simp[hc]),af bH,af bH,af hc,mM hc.2.1,qQ hc.2.1]
  obtain⟨a,b,d,e⟩:=hm;rw[bj U U]
 ·simp[hc]
theorem Ed {w h c:Int}:(AR w h c).1<0↔ ¬bU w h c:=by
 unfold AR
 by_cases hc:bU w h c
 ·have:=vB hc;rw[af hc];exact⟨λh=>by simp only at h;omega,λh=>absurd hc h⟩
 ·rw[ah hc];simp[hc]
def aX (w h c:Int):Int:=if bU w h c then c/w/16*(bn w h).1+c%w/16 else-1
theorem Es {w h c:Int} (hc:bU w h c):0<=c%w/16/\c%w/16<(bn w h).1/\0<=c/w/16/\c/w/16<(bn w h).2:=by
 have hp:=vB hc;have e1:(bn w h).1=(w+15)/16:=by unfold bn;rw[af hc.1]
 have e2:(bn w h).2=(h+15)/16:=by unfold bn;rw[af hc.1]
 rw[e1,e2];generalize c%w=x at*;generalize c/w=y at*;omega
theorem Et {w h c:Int} (hc:bU w h c):bG w h (c/w/16*(bn w h).1+c%w/16):=by
 obtain⟨a,b,d,e⟩:=Es hc;have:=sm a b d e;unfold bG dP;exact this
theorem tj (w h c:Int):gD.f w h c=some (aX w h c):=by
 unfold gD.f aX;simp only[Ou,aK]
 by_cases hc:bU w h c
 ·rw[ah (by rw[Ed];simp[hc]),Eu]
  simp only[aK,AR];rw[af hc,af hc];have hp:=vB hc;obtain⟨a,b,d,e⟩:=Es hc;obtain⟨m1,m2,m3,m4⟩:=CN hc.1;have hs:=Et hc;have hk:=oQ w h;obtain⟨s1,s2⟩:=hs;have h5:0<=c/w/16*(bn w h).1:=nu d U;simp only;rw[qQ hp.2.2.1,qQ hp.1,bj (x:=c/w/16) U U,bj (x:=c%w/16) U U,bj (x:=_*_) U U,bj U U]
 ·rw[af (by rw[Ed];exact hc),ah hc]
theorem qD {a x y:Int} (h0:0<=x) (h1:x<a):(y*a+x)%a=x/\(y*a+x)/a=y:=by
 have ha:a≠0:=U;constructor
 ·rw[Int.add_comm,Int.add_mul_emod_self_right];exact Int.emod_eq_of_lt h0 h1
 ·rw[Int.add_comm,Int.add_mul_ediv_right _ _ ha,Int.ediv_eq_zero_of_lt h0 h1];omega
def du (w h c:Int):Int:=if bU w h c then c/w%16*(ax w h (aX w h c)).1+c%w%16 else-1
theorem N6 {w h c:Int} (hc:bU w h c):c%w%16<(ax w h (aX w h c)).1/\c/w%16<(ax w h (aX w h c)).2:=by
 have hs:=Et hc;obtain⟨a,b,d,e⟩:=Es hc;have hn:=qD (a:=(bn w h).1) (x:=c%w/16) (y:=c/w/16) a b;have hp:=vB hc;unfold aX;rw[af hc];unfold ax;rw[af hs,hn.1,hn.2];simp only;generalize c%w=x at*;generalize c/w=y at*;omega
theorem zn {w h c:Int}:aX w h c<0↔ ¬bU w h c:=by
 unfold aX
 by_cases hc:bU w h c
 ·have:=Et hc;rw[af hc];exact⟨λh=>by unfold bG at this;omega,λh=>absurd hc h⟩
 ·rw[ah hc];simp[hc]
def de (w h s l:Int):Int:=
 if bG w h s/\0<=l/\l<(ax w h s).1*(ax w h s).2 then(16*(s/(bn w h).1)+l/(ax w h s).1)*w+(16*(s%(bn w h).1)+l%(ax w h s).1) else-1
theorem wO {w h s l:Int} (hs:bG w h s) (h0:0<=l) (h1:l<(ax w h s).1*(ax w h s).2):
 0<=l%(ax w h s).1/\l%(ax w h s).1<(ax w h s).1/\0<=l/(ax w h s).1/\l/(ax w h s).1<(ax w h s).2/\
 16*(s%(bn w h).1)+l%(ax w h s).1<w/\16*(s/(bn w h).1)+l/(ax w h s).1<h:=by
 obtain⟨z1,z2,z3,z4⟩:=p7 hs;have a1:0<=l%(ax w h s).1:=Int.emod_nonneg _ U;have a2:l%(ax w h s).1<(ax w h s).1:=Int.emod_lt_of_pos _ U;have a3:0<=l/(ax w h s).1:=Int.ediv_nonneg h0 U;have a4:l/(ax w h s).1<(ax w h s).2:=Int.ediv_lt_of_lt_mul U (by rw[Int.mul_comm];exact h1)
 refine⟨a1,a2,a3,a4,?_,?_⟩
 ·have:(ax w h s).1<=w-16*(s%(bn w h).1):=by unfold ax;rw[af hs];simp only;omega
  omega
 ·have:(ax w h s).2<=h-16*(s/(bn w h).1):=by unfold ax;rw[af hs];simp only;omega
  omega
theorem I' (w h s l:Int):tv.f w h s l=some (de w h s l):=by
 unfold tv.f de;simp only[QS,aK,Hk,QF];have hz:=size_le w h s;have JT:(ax w h s).1*(ax w h s).2<=16*16:=kt hz.1 hz.2.2.1 hz.2.1 hz.2.2.2;have hz2:0<=(ax w h s).1*(ax w h s).2:=nu hz.1 hz.2.2.1;rw[bj (x:=_*(ax w h s).2) U U]
 by_cases hs:bG w h s
 ·unfold Hc;rw[af hs]
  by_cases hl:0<=l/\l<(ax w h s).1*(ax w h s).2
  ·obtain⟨a1,a2,a3,a4,a5,a6⟩:=wO hs hl.1 hl.2;obtain⟨z1,z2,z3,z4⟩:=p7 hs;obtain⟨m1,m2,m3,m4⟩:=tg hs;obtain⟨p1,p2,p3,p4⟩:=uo hs;have bH: ¬(ax w h s).1=0:=U;rw[ah bl,af bH,af bH,af (c:=bG w h s/\_) ⟨hs,hl⟩];simp only;rw[mM hl.1,qQ hl.1,bj (x:=l/_) U U,bj (x:=_+l%_) U U,bj (x:=_+l/_) U U];unfold po;rw[af ⟨⟨m1,m2,m3,m4⟩,by omega,a5,by omega,a6⟩]
  ·rw[af bl,ah (λh=>hl h.2)]
 ·unfold Hc;rw[ah hs,af bk,ah (c:=bG w h s/\_) (λh=>hs h.1)]
theorem ahm (w h s l:Int):CA.f w h s l=some (de w h s l):=by
 unfold CA.f de;simp only[Wd,aK,NU,OK];have hz:=size_le w h s;have JT:(ax w h s).1*(ax w h s).2<=16*16:=kt hz.1 hz.2.2.1 hz.2.1 hz.2.2.2;have hz2:0<=(ax w h s).1*(ax w h s).2:=nu hz.1 hz.2.2.1;rw[bj (x:=_*(ax w h s).2) U U,bj (x:=_*(ax w h s).2-1) U U]
 by_cases hs:bG w h s
 ·by_cases hl:0<=l/\l<(ax w h s).1*(ax w h s).2
  ·obtain⟨a1,a2,a3,a4,a5,a6⟩:=wO hs hl.1 hl.2;obtain⟨z1,z2,z3,z4⟩:=p7 hs;obtain⟨m1,m2,m3,m4⟩:=tg hs;obtain⟨p1,p2,p3,p4⟩:=uo hs;obtain⟨s1,s2,s3,s4⟩:=CN (tg hs);have bH: ¬(ax w h s).1=0:=U;have TC: ¬(bn w h).1=0:=U;rw[ah bl,af (c:=bG w h s/\_) ⟨hs,hl⟩,af TC,af bH,af TC,af bH,mM hl.1,qQ hl.1,mM hs.1,qQ hs.1];have hg:=sm (w:=w) (h:=h) (x:=16*(s%(bn w h).1)+l%(ax w h s).1) (y:=16*(s/(bn w h).1)+l/(ax w h s).1) U a5 U a6;have hq:0<=(16*(s/(bn w h).1)+l/(ax w h s).1)*w:=nu U U;have hp:=xf (tg hs);rw[bj (x:=l/_) U U,bj (x:=s/_) U U,bj (x:=16*(s/_)) U U,bj (x:=16*(s/_)+_) U U,
    bj (x:=_*w) U U,bj (x:=16*(s%_)) U U,bj (x:=_*w+_) U U,bj U U]
   congr 1;omega
  ·rw[af bl,ah (λh=>hl h.2)]
 ·have h1:(ax w h s).1=0:=by unfold ax;rw[ah hs]
  rw[af (by simp[h1];omega),ah (λh=>hs h.1)]
theorem K3 {n lo hi:Int} (lR: -4611686018427387904<=lo) (ve:hi<=4611686018427387904) (hle:lo<=hi) (hn:hi-lo<=4611686018427387904):e_.f n lo hi=some (lo+n%(hi-lo+1)):=by
 unfold e_.f;rw[bj (x:=hi-lo) U U,bj (x:=hi-lo+1) U U,af U];generalize hm:hi-lo+1=m;have BZ:0<m:=U;have h1:0<=n%m:=Int.emod_nonneg _ U;have h2:n%m<m:=Int.emod_lt_of_pos _ BZ
 by_cases F6:0<=n
 ·rw[mM F6,ah U,bj U U]
 ·have ha:Int.tmod n m=if n%m=0 then 0 else n%m-m:=by
   rw[Int.tmod_eq_emod];have hd:(m∣n)↔n%m=0:=⟨Int.emod_eq_zero_of_dvd,Int.dvd_of_emod_eq_zero⟩
   by_cases h0:n%m=0
   ·simp[h0,hd]
   ·simp[h0,hd,F6];omega
  rw[ha]
  by_cases h0:n%m=0
  ·rw[af h0,ah U,bj U U,h0]
  ·rw[ah h0,af U,bj (x:=_+hi) U U,bj (x:=_-lo) U U,bj (x:=_+1) U U,bj U U]
   congr 1;omega
theorem K4 {n lo hi:Int} (hle:lo<=hi):lo<=lo+n%(hi-lo+1)/\lo+n%(hi-lo+1)<=hi:=by
 have h1:0<=n%(hi-lo+1):=Int.emod_nonneg _ U;have h2:n%(hi-lo+1)<hi-lo+1:=Int.emod_lt_of_pos _ U;omega
theorem EI {x:Int} (h1:0<=x) (h2:x<=255):bP x=x:=by
 unfold bP IntKind.wrap IntKind.signed IntKind.bits;simp;omega
theorem tL:fuel=18446744073709551616:=by unfold fuel;rfl
theorem G1 {α:Type} [Inhabited α] {L:List α} {i c:Int} {v:α} (h0:0<=i) (h1:i<L.length) (c0:0<=c):rd (List.set L i.toNat v) c=if c=i then v else rd L c:=by
 unfold rd
 by_cases hc:c=i
 ·subst hc;rw[af rfl];simp[List.getD,show c.toNat<L.length by omega]
 ·rw[ah hc];have:i.toNat≠c.toNat:=U;simp[List.getD,this]
theorem aaW {α:Type} [Inhabited α] {a:List α} {i:Int} (h0:0<=i) (h1:i<a.length):a.drop i.toNat=rd a i::a.drop (i+1).toNat:=by
 have aP:i.toNat<a.length:=U;rw[jl aP,show(i+1).toNat=i.toNat+1 by omega]
 exact List.drop_eq_getElem_cons aP
theorem uh {α:Type} [Inhabited α] {a:List α} {i:Int} (h0:0<=i) (h1:i<a.length):rd a i∈a:=by
 rw[jl U];exact List.getElem_mem _
theorem QK (s:List Int) (h:s.length<=1099511627776):nJ.f s=some s:=by
 unfold nJ.f;rw[af (by simpa using h)];simp
theorem aev (s:List Int) (v:Int) (hb:s.length<=4611686018427387904): ∀(n k:Nat) (i:Int),i+n=s.length->0<=i->n<k->
 ∃r,qO.l0 k s v i=some r/\(0<=r↔v∈s.drop i.toNat):=by
 intro n
 induction n with
 |zero=>
  intro k i hi h0 hk;obtain⟨k,rfl⟩: ∃q,k=q+1:=⟨k-1,by omega⟩
  rw[qO.l0,ah U,List.drop_of_length_le U];exact⟨_,J,by simp⟩
 |succ n ih=>
  intro k i hi h0 hk;obtain⟨k,rfl⟩: ∃q,k=q+1:=⟨k-1,by omega⟩
  rw[qO.l0,af U,af U,aaW h0 U]
  by_cases he:v=rd s i
  ·rw[af (by simpa using he)]
   exact⟨_,J,by simp[he,h0]⟩
  ·rw[ah (by simpa using he),bj U U]
   obtain⟨r,h1,h2⟩:=ih k (i+1) U U U;exact⟨r,h1,by rw[h2];simp[he]⟩
theorem L4 (s:List Int) (v:Int) (hb:s.length<4611686018427387904):vV.f s v=some (decide (v∈s)):=by
 unfold vV.f qO.f;obtain⟨r,h1,h2⟩:=aev s v U s.length fuel 0 U U (by rw[tL];omega)
 rw[h1,aK]
 congr 1
 rw[Bool.eq_iff_iff];simpa using h2
def dX (side:Int):Int:=if side=1 then 1 else if side=3 then-1 else 0
def dY (side:Int):Int:=if side=0 then-1 else if side=2 then 1 else 0
def cD (w h c side:Int):Int:=
 if bU w h c/\0<=side/\side<=4 then po w h (c%w+dX side) (c/w+dY side) else-1
theorem Hz (w h c side:Int):lZ.f w h c side=some (cD w h c side):=by
 unfold lZ.f cD;simp only[Ou,aK]
 by_cases hc:bU w h c
 ·rw[ah (by rw[Ed];simp[hc])]
  have hp:=vB hc;obtain⟨q1,q2,q3,q4⟩:=hc.1;have e:AR w h c=(c%w,c/w):=by unfold AR;rw[af hc]
  simp only[e,QF,aK];have e1:aa (c/w+ -1)=c/w+ -1:=bj U U;have e2:aa (c/w+1)=c/w+1:=bj U U;have e3:aa (c%w+ -1)=c%w+ -1:=bj U U;have e4:aa (c%w+1)=c%w+1:=bj U U
  by_cases h0:side=0
  ·subst h0;simp[e1,dX,dY,hc]
  by_cases h2:side=2
  ·subst h2;simp[e2,dX,dY,hc]
  by_cases h3:side=3
  ·subst h3;simp[e3,dX,dY,hc]
  by_cases h1:side=1
  ·subst h1;simp[e4,dX,dY,hc]
  by_cases h4:side=4
  ·subst h4;simp[dX,dY,hc]
  ·rw[ah (c:=bU w h c/\_) U];simp[h0,h1,h2,h3,h4]
 ·rw[af (by rw[Ed];exact hc),ah (λh=>hc h.1)]
def Ex (w h a b:Int):Nat->Int->Int
 |0,_=>5
 |n+1,s=>if cD w h a s=b then s else Ex w h a b n (s+1)
def CL (w h a b:Int):Int:=if bU w h a/\bU w h b then Ex w h a b 5 0 else 5
theorem aic (w h a b:Int): ∀(n k:Nat) (s:Int),s+n=5->0<=s->n<k->qe.l0 k w h a b s=some (Ex w h a b n s):=by
 intro n
 induction n with
 |zero=>
  intro k s hs h0 hk;obtain⟨k,rfl⟩: ∃m,k=m+1:=⟨k-1,by omega⟩
  rw[qe.l0,ah U];rfl
 |succ n ih=>
  intro k s hs h0 hk;obtain⟨k,rfl⟩: ∃m,k=m+1:=⟨k-1,by omega⟩
  rw[qe.l0,af U,Hz];simp only[aK,Ex]
  by_cases he:cD w h a s=b
  ·simp[he]
  ·rw[ah (by simpa using he),ah he,bj U U]
   exact ih k (s+1) U U U
theorem aib (w h a b:Int):qe.f w h a b=some (CL w h a b):=by
 unfold qe.f CL;simp only[Ub,aK]
 by_cases ha:bU w h a
 ·by_cases hb:bU w h b
  ·rw[af (c:=bU w h a/\_) ⟨ha,hb⟩];simp only[decide_eq_true ha,decide_eq_true hb,Bool.not_true,Bool.false_eq_true,if_false,aK];exact aic w h a b 5 fuel 0 U U (by rw[cH];omega)
  ·rw[ah (c:=bU w h a/\_) (λh=>hb h.2)];simp[ha,hb]
 ·rw[ah (c:=bU w h a/\_) (λh=>ha h.1)];simp[ha]
theorem QH {w h c:Int} (hc:bU w h c):po w h (c%w) (c/w)=c:=by
 have hp:=vB hc;unfold po;rw[af ⟨hc.1,hp⟩];have h1:=Int.mul_ediv_add_emod c w;rw[Int.mul_comm] at h1;omega
theorem ahJ {w h x y:Int} (hm:iA w h) (h1:0<=x) (h2:x<w) (h3:0<=y) (h4:y<h):bU w h (po w h x y)/\po w h x y%w=x/\po w h x y/w=y:=by
 unfold po;rw[af ⟨hm,h1,h2,h3,h4⟩];have:=sm h1 h2 h3 h4;exact⟨⟨hm,this⟩,qD h1 h2⟩
theorem KM {w h c side:Int} (hc:bU w h c) (h0:0<=side) (h4:side<=4):
 (cD w h c side= -1/\ ¬(0<=c%w+dX side/\c%w+dX side<w/\0<=c/w+dY side/\c/w+dY side<h))∨
 (bU w h (cD w h c side)/\cD w h c side%w=c%w+dX side/\cD w h c side/w=c/w+dY side/\
   0<=c%w+dX side/\c%w+dX side<w/\0<=c/w+dY side/\c/w+dY side<h):=by
 have e:cD w h c side=po w h (c%w+dX side) (c/w+dY side):=by unfold cD;rw[af ⟨hc,h0,h4⟩]
 rw[e]
 by_cases hx:0<=c%w+dX side/\c%w+dX side<w/\0<=c/w+dY side/\c/w+dY side<h
 ·obtain⟨a,b,d,f⟩:=hx;have:=ahJ hc.1 a b d f;exact .inr ⟨this.1,this.2.1,this.2.2,a,b,d,f⟩
 ·refine .inl ⟨?_,hx⟩;unfold po;rw[ah (λh=>hx h.2)]
theorem aia (w h a b:Int): ∀(n:Nat) (s t:Int),s+n=5->s<=t->t<5->cD w h a t=b->(∀u,s<=u->u<t->cD w h a u≠b)->Ex w h a b n s=t:=by
 intro n
 induction n with
 |zero=>intro s t h1 h2 h3;omega
 |succ n ih=>
  intro s t h1 h2 h3 h4 h5;simp only[Ex]
  by_cases he:s=t
  ·subst he;rw[af h4]
  ·rw[ah (h5 s U U)];exact ih (s+1) t U U h3 h4 (λu hu=>h5 u U)
theorem aiH {w h c s t:Int} (hc:bU w h c) (s0:0<=s) (s4:s<=4) (t0:0<=t) (t4:t<=4) (hs:bU w h (cD w h c s)) (he:cD w h c t=cD w h c s):s=t:=by
 have Gh:s=0∨s=1∨s=2∨s=3∨s=4:=U;have lS:t=0∨t=1∨t=2∨t=3∨t=4:=U;rcases KM hc s0 s4 with⟨h1,_⟩ |⟨_,b1,b2,_⟩
 ·rw[h1] at hs;obtain⟨_,h2,_⟩:=hs;omega
 ·rcases KM hc t0 t4 with⟨h1,_⟩ |⟨_,d1,d2,_⟩
  ·rw[he] at h1;rw[h1] at hs;obtain⟨_,h2,_⟩:=hs;omega
  ·rw[he,b1] at d1;rw[he,b2] at d2;unfold dX at d1;unfold dY at d2;rcases Gh with rfl |rfl |rfl |rfl |rfl<;>rcases lS with rfl |rfl |rfl |rfl |rfl<;>simp at d1 d2⊢ <;>omega
theorem Wr {w h c s:Int} (hc:bU w h c) (s0:0<=s) (s4:s<=4) (hs:bU w h (cD w h c s)):CL w h c (cD w h c s)=s:=by
 unfold CL;rw[af ⟨hc,hs⟩];exact aia w h c _ 5 0 s U s0 U J (λu h1 h2 he=>by
  have:=aiH hc s0 s4 h1 U hs he;omega)
theorem aiF {w h c:Int} (hc:bU w h c):cD w h c 4=c:=by
 unfold cD;rw[af ⟨hc,by omega,by omega⟩]
 simpa[dX,dY] using QH hc
def Ok {α:Type} (o:Option α) (P:α->Prop):Prop:= ∃r,o=some r/\P r
section
variable {α β : Type} {o : Option α} {f : α -> Option β} {P : α -> Prop} {Q : β -> Prop} {a b : Option α} {c : Prop} [Decidable c]
theorem Ok.bind (h:Ok o P) (k: ∀r,P r->Ok (f r) Q):Ok (o.bind f) Q:=by
 obtain⟨r,rfl,hr⟩:=h;exact k r hr
theorem Ok.bind' {γ:Type} {g:α->γ} {k:γ->Option β} (h:Ok o P) (q: ∀r,P r->Ok (k (g r)) Q):Ok ((o.bind λr=>some (g r)).bind k) Q:=by
 obtain⟨r,rfl,hr⟩:=h;exact q r hr
theorem Ok.eq {v:α} (e:o=some v) (k:Ok (f v) Q):Ok (o.bind f) Q:=by subst e;exact k
theorem Ok.opt {x:α} {d:Option β} (h:Ok (f x) Q):Ok (c_ (some x) d f) Q:=h
theorem Ok.pure {r:α} (h:P r):Ok (some r) P:=⟨r,J,h⟩
theorem Ok.ite (h1:c->Ok a P) (h2: ¬c->Ok b P):Ok (if c then a else b) P:=by
 split
 ·exact h1 ‹_›
 ·exact h2 ‹_›
theorem Ok.cx (hc:c) (h:Ok a P):Ok (if c then a else none) P:=by rw[af hc];exact h
theorem Ok.pos (hc:c) (h:Ok a P):Ok (if c then a else b) P:=by rw[af hc];exact h
theorem Ok.neg (hc: ¬c) (h:Ok b P):Ok (if c then a else b) P:=by rw[ah hc];exact h
theorem Ok.mono {P':α->Prop} (h:Ok o P) (k: ∀r,P r->P' r):Ok o P':=by
 obtain⟨r,e,hr⟩:=h;exact⟨r,e,k r hr⟩
theorem Ok.of {r:α} (e:o=some r) (h:P r):Ok o P:=⟨r,e,h⟩
end
theorem wi {x:Int} (h1: -9223372036854775808<=x) (h2:x<=9223372036854775807):aa x=x:=bj h1 h2
theorem J9 {α:Type} [Inhabited α] {l:List α} {e:α}:e∈l↔ ∃c:Int,0<=c/\c<l.length/\rd l c=e:=by
 constructor
 ·intro h;obtain⟨i,hi,rfl⟩:=List.getElem_of_mem h;exact⟨i,by omega,by omega,by rw[jl (by simpa using hi)];simp⟩
 ·rintro⟨c,h0,h1,rfl⟩;exact uh h0 h1
theorem Pc {α:Type} [Inhabited α] {l:List α} {i j:Int} (i0:0<=i) (i1:i<l.length) (j0:0<=j) (j1:j<l.length) (e:α):
 e∈List.set (List.set l i.toNat (rd l j)) j.toNat (rd l i)↔e∈l:=by
 rw[J9,J9];have h: ∀c:Int,0<=c->rd (List.set (List.set l i.toNat (rd l j)) j.toNat (rd l i)) c=if c=j then rd l i else if c=i then rd l j else rd l c:=by
  intro c c0;rw[G1 j0 (by simpa using j1) c0,G1 i0 i1 c0]
 simp only[List.length_set];constructor
 ·rintro⟨c,c0,c1,rfl⟩;rw[h c c0];split
  ·exact⟨i,i0,i1,J⟩
  ·split
   ·exact⟨j,j0,j1,J⟩
   ·exact⟨c,c0,c1,J⟩
 ·rintro⟨c,c0,c1,rfl⟩
  by_cases a:c=i
  ·exact⟨j,j0,j1,by rw[h j j0,af J,a]⟩
  ·by_cases b:c=j
   ·refine⟨i,i0,i1,?_⟩;rw[h i i0];subst b;rw[ah U,af J]
   ·exact⟨c,c0,c1,by rw[h c c0,ah b,ah a]⟩
def hd (l:List Int) (q:Int):Int:=match l with |[]=>q |c::_=>c
def jh (l:List Int) (p:Int):Int:=match l with |[]=>p |c::r=>jh r c
def oC (s:List bm) (p:Int) (l:List Int) (q:Int):Prop:=match l with
 |[]=>True
 |c::r=>(rd s c).cJ=p/\(rd s c).aY=hd r q/\oC s c r q
theorem OZ {s:List bm}: ∀(A:List Int) (p:Int) (B:List Int) (q:Int),oC s p (A++B) q↔oC s p A (hd B q)/\oC s (jh A p) B q
 |[],p,B,q=>by simp[oC,jh]
 |c::r,p,B,q=>by
  have e:hd (r++B) q=hd r (hd B q):=by cases r<;>rfl
  simp only[List.cons_append,oC,jh,OZ r c B q,e];exact⟨λ⟨a,b,c,d⟩=>⟨⟨a,b,c⟩,d⟩,λ⟨⟨a,b,c⟩,d⟩=>⟨a,b,c,d⟩⟩
theorem Ev {s s':List bm}: ∀(A:List Int) (p q:Int),(∀c∈A,(rd s' c).cJ=(rd s c).cJ/\(rd s' c).aY=(rd s c).aY)->oC s p A q->oC s' p A q
 |[],_,_,_,_=>trivial
 |c::r,p,q,h,hs=>by
  have:=h c (List.mem_cons_self ..);exact⟨this.1.trans hs.1,this.2.trans hs.2.1,Ev r c q (λd hd=>h d (List.mem_cons_of_mem _ hd)) hs.2.2⟩
theorem Gy: ∀(A:List Int) (p:Int),A≠[]->jh A p∈A
 |[],_,h=>absurd J h
 |[c],_,_=>List.mem_cons_self ..
 |c::d::r,p,_=>List.mem_cons_of_mem _ (Gy (d::r) c bk)
theorem N8: ∀(A:List Int) (p:Int) (B:List Int),jh (A++B) p=jh B (jh A p)
 |[],_,_=>rfl
 |c::r,p,B=>by simp only[List.cons_append,jh];exact N8 r c B
theorem Wo {s s':List bm}: ∀(A:List Int) (p q q':Int),A≠[]->A.Nodup->(∀c∈A,(rd s' c).cJ=(rd s c).cJ/\(c≠jh A p->(rd s' c).aY=(rd s c).aY))->(rd s' (jh A p)).aY=q'->oC s p A q->oC s' p A q'
 |[],_,_,_,h,_,_,_,_=>absurd J h
 |[c],p,q,q',_,_,h,e,hs=>⟨(h c (List.mem_cons_self ..)).1.trans hs.1,e,trivial⟩
 |c::d::r,p,q,q',_,hn,h,e,hs=>by
  have ko:c≠jh (d::r) c:=λz=>(List.nodup_cons.1 hn).1 (z▸Gy (d::r) c bk);have:=h c (List.mem_cons_self ..);exact⟨this.1.trans hs.1,(this.2 ko).trans hs.2.1,Wo (d::r) c q q' bk (List.nodup_cons.1 hn).2 (λx hx=>h x (List.mem_cons_of_mem _ hx)) e hs.2.2⟩
theorem Wn {s s':List bm}: ∀(A:List Int) (p p' q:Int),(∀c∈A,(rd s' c).aY=(rd s c).aY/\(c≠hd A q->(rd s' c).cJ=(rd s c).cJ))->A.Nodup->(A≠[]->(rd s' (hd A q)).cJ=p')->oC s p A q->oC s' p' A q
 |[],_,_,_,_,_,_,_=>trivial
 |c::r,p,p',q,h,hn,e,hs=>by
  refine⟨e bk,(h c (List.mem_cons_self ..)).1.trans hs.2.1,Ev r c q (λd fN=>?_) hs.2.2⟩;have:=h d (List.mem_cons_of_mem _ fN);exact⟨this.2 λz=>(List.nodup_cons.1 hn).1 (by have z:d=c:=z;rw[<-z];exact fN),this.1⟩
structure pA (l:fg) (k:Int) (ord:List Int):Prop where
 k_:l.k=k
 kb:1<=k/\k<=1000000
 jd:l.ak.length<=k
 nd:ord.Nodup
 mem: ∀c,c∈ord↔0<=c/\c<l.ak.length
 vT:oC l.ak (-1) ord (-1)
 nw:l.cy=hd ord (-1)
 ol:l.cZ=jh ord (-1)
 sn:(l.ft.map (·.1)).Nodup
 sl: ∀key c,cY l.ft key=some c↔0<=c/\c<l.ak.length/\(rd l.ak c).key=key
structure zM (l:fg) (ord:List Int):Prop where
 nd:ord.Nodup
 mem: ∀c∈ord,0<=c/\c<l.ak.length
 vT:oC l.ak (-1) ord (-1)
 nw:l.cy=hd ord (-1)
 ol:l.cZ=jh ord (-1)
theorem afo {k:Int} (h1:1<=k) (h2:k<=1000000): ∃l,xe.f k=some (some l)/\pA l k []:=by
 unfold xe.f yV.f;rw[ah U];exact⟨_,J,J,⟨h1,h2⟩,by simp;omega,List.nodup_nil,λc=>by simp,trivial,J,J,List.nodup_nil,λkey c=>by simp[cY];omega⟩
theorem aaj {l:fg} {k:Int} {ord:List Int} (h:pA l k ord): ∃l',yW.f l=some l'/\pA l' k []:=
 ⟨_,J,h.k_,h.kb,by have:=h.kb;simp;omega,List.nodup_nil,λc=>by simp,trivial,J,J,List.nodup_nil,λkey c=>by simp[cY];omega⟩
theorem Oj {A B:List Int} {c:Int} (h:(A++c::B).Nodup):c∉A/\c∉B/\(A++B).Nodup:=by
 rw[List.nodup_append] at h⊢;obtain⟨h1,h2,h3⟩:=h;obtain⟨h4,h5⟩:=List.nodup_cons.1 h2;exact⟨λz=>h3 c z c (List.mem_cons_self ..) J,h4,h1,h5,λa ha b hb=>h3 a ha b (List.mem_cons_of_mem _ hb)⟩
theorem WV {l:fg} {A B:List Int} {c:Int} (h:zM l (A++c::B)): ∃l',sI.f l c=some l'/\l'.k=l.k/\l'.ft=l.ft/\l'.ak.length=l.ak.length/\(∀d:Int,0<=d->(rd l'.ak d).key=(rd l.ak d).key)/\zM l' (A++B):=by
 obtain⟨n1,n2,n3⟩:=Oj h.nd;have hc:=h.mem c bk;obtain⟨g1,g2,g3,g4⟩:=(OZ A (-1) (c::B) (-1)).1 h.vT;simp only[hd] at g1;obtain⟨nA,nB,UJ⟩:=List.nodup_append.1 n3;have hA:A≠[]->0<=jh A (-1)/\jh A (-1)<l.ak.length:=λz=>h.mem _ (List.mem_append_left _ (Gy A _ z));have hB:B≠[]->0<=hd B (-1)/\hd B (-1)<l.ak.length/\hd B (-1)∈B:=λz=>by
  cases B with
  |nil=>exact absurd J z
  |cons d r=>have:=h.mem d bk;exact⟨this.1,this.2,List.mem_cons_self ..⟩
 unfold sI.f;rw[af hc];have s1: ∃S N,(if((rd l.ak c).cJ==(-1))=true then(some (l.ak,(rd l.ak c).aY)) else(if(0<=(rd l.ak c).cJ/\(rd l.ak c).cJ<(List.length l.ak:Int)) then(some ((List.set l.ak (Int.toNat ((rd l.ak c).cJ)) (bm.mk ((rd l.ak ((rd l.ak c).cJ)).key) ((rd l.ak ((rd l.ak c).cJ)).cJ) ((rd l.ak c).aY))),l.cy)) else none))=some (S,N)/\S.length=l.ak.length/\(∀d:Int,0<=d->(rd S d).key=(rd l.ak d).key/\(d∉A->rd S d=rd l.ak d))/\oC S (-1) A (hd B (-1))/\N=hd (A++B) (-1):=by
  rw[g2,g3]
  by_cases z:A=[]
  ·subst z;rw[af (by simp[jh])]
   exact⟨_,_,J,J,λd _=>⟨J,λ_=>rfl⟩,trivial,J⟩
  ·have ha:=hA z;have dI: ∀d:Int,0<=d->rd (List.set l.ak (jh A (-1)).toNat (bm.mk (rd l.ak (jh A (-1))).key (rd l.ak (jh A (-1))).cJ (hd B (-1)))) d=if d=jh A (-1) then bm.mk (rd l.ak (jh A (-1))).key (rd l.ak (jh A (-1))).cJ (hd B (-1)) else rd l.ak d:=λd d0=>kV ha.1 ha.2 d0
   rw[ah bl,af ha];refine⟨_,_,J,by simp,λd d0=>?_,Wo A (-1) c _ z nA (λd fN=>?_) ?_ g1,?_⟩
   ·rw[dI d d0];refine⟨?_,λfN=>?_⟩
    ·split
     ·rename_i q;rw[q]
     ·rfl
    ·rw[ah];rintro rfl;exact fN (Gy A _ z)
   ·have:=h.mem d (List.mem_append_left _ fN);rw[dI d this.1];refine⟨?_,λq=>by rw[ah q]⟩
    split
    ·rename_i q;rw[q]
    ·rfl
   ·rw[dI _ ha.1,af J]
   ·rw[h.nw];cases A with
    |nil=>exact absurd J z
    |cons a A=>rfl
 obtain⟨S,N,e,yD,DG,R6,hN⟩:=s1;rw[e];simp only[aK];have hSB:oC S c B (-1):=Ev B c (-1) (λd fN=>by
  have:=h.mem d (List.mem_append_right _ (List.mem_cons_of_mem _ fN));rw[(DG d this.1).2 λq=>UJ d q d fN J];exact⟨J,J⟩) g4
 rw[g2,g3]
 by_cases z:B=[]
 ·subst z;rw[af (by simp[hd])]
  refine⟨_,J,J,J,yD,λd d0=>(DG d d0).1,n3,λd fN=>?_,?_,hN,?_⟩
  ·rw[yD];exact h.mem d (by simp at fN;simp[fN])
  ·rw[List.append_nil];exact R6
  ·rw[List.append_nil]
 ·have hb:=hB z;have dI: ∀d:Int,0<=d->rd (List.set S (hd B (-1)).toNat (bm.mk (rd S (hd B (-1))).key (jh A (-1)) (rd S (hd B (-1))).aY)) d=if d=hd B (-1) then bm.mk (rd S (hd B (-1))).key (jh A (-1)) (rd S (hd B (-1))).aY else rd S d:=λd d0=>kV hb.1 (by rw[yD];exact hb.2.1) d0
  rw[ah bl,af (by rw[yD];exact⟨hb.1,hb.2.1⟩)]
  refine⟨_,J,J,J,by simpa using yD,λd d0=>?_,n3,λd fN=>?_,?_,hN,?_⟩
  ·rw[<-(DG d d0).1];simp only;rw[dI d d0];split
   ·rename_i q;rw[q]
   ·rfl
  ·simp only[List.length_set];rw[yD];refine h.mem d ?_;rcases List.mem_append.1 fN with q |q
   ·exact List.mem_append_left _ q
   ·exact List.mem_append_right _ (List.mem_cons_of_mem _ q)
  ·refine(OZ A (-1) B (-1)).2 ⟨Ev A (-1) _ (λd fN=>?_) R6,Wn B c (jh A (-1)) (-1) (λd fN=>?_) nB (λ_=>?_) hSB⟩
   ·have:=h.mem d (List.mem_append_left _ fN);rw[dI d this.1,ah (λq=>UJ d fN (hd B (-1)) hb.2.2 q)];exact⟨J,J⟩
   ·have:=h.mem d (List.mem_append_right _ (List.mem_cons_of_mem _ fN));rw[dI d this.1];refine⟨?_,λq=>by rw[ah q]⟩
    split
    ·rename_i q;rw[q]
    ·rfl
   ·rw[dI _ hb.1,af J]
  ·simp only;rw[h.ol,N8,N8]
   cases B with
   |nil=>exact absurd J z
   |cons d r=>rfl
theorem N3 {l:fg} {ord:List Int} {c:Int} (h:zM l ord) (h0:0<=c) (h1:c<l.ak.length) (hc:c∉ord): ∃l',xd.f l c=some l'/\l'.k=l.k/\l'.ft=l.ft/\l'.ak.length=l.ak.length/\(∀d:Int,0<=d->(rd l'.ak d).key=(rd l.ak d).key)/\zM l' (c::ord):=by
 unfold xd.f;generalize yD:List.set l.ak (Int.toNat c) (bm.mk ((rd l.ak c).key) (-1) ((rd l.ak c).aY))=S1;have yI:S1.length=l.ak.length:=by rw[<-yD];simp
 have r1: ∀d:Int,0<=d->rd S1 d=if d=c then bm.mk ((rd l.ak c).key) (-1) ((rd l.ak c).aY) else rd l.ak d:=λd d0=>by rw[<-yD];exact kV h0 h1 d0
 generalize DG:List.set S1 (Int.toNat c) (bm.mk ((rd S1 c).key) ((rd S1 c).cJ) l.cy)=S2;have qw:S2.length=l.ak.length:=by rw[<-DG];simpa using yI
 have r2: ∀d:Int,0<=d->rd S2 d=if d=c then bm.mk ((rd l.ak c).key) (-1) l.cy else rd l.ak d:=λd d0=>by
  rw[<-DG,kV h0 U d0,r1 c h0,af J];split
  ·rfl
  ·rename_i q;rw[r1 d d0,ah q]
 rw[af ⟨h0,h1⟩,af ⟨h0,by omega⟩]
 have Ai: ∀d:Int,0<=d->(rd S2 d).key=(rd l.ak d).key:=λd d0=>by
  rw[r2 d d0];split
  ·rename_i q;rw[q]
  ·rfl
 have qx:(c::ord).Nodup:=List.nodup_cons.2 ⟨hc,h.nd⟩
 by_cases z:ord=[]
 ·subst z;have hn:l.cy= -1:=h.nw;rw[af (by simp[hn])]
  refine⟨_,J,J,J,qw,Ai,qx,λd fN=>?_,⟨?_,?_,trivial⟩,J,J⟩
  ·simp only[List.mem_cons,List.not_mem_nil,or_false] at fN;subst fN;simp only;omega
  ·simp only;rw[r2 c h0,af J]
  ·simp only;rw[r2 c h0,af J,hn];rfl
 ·obtain⟨a,r,e⟩:=List.exists_cons_of_ne_nil z;have hn:l.cy=a:=by rw[h.nw,e];rfl
  have ha:=h.mem a (by rw[e];exact List.mem_cons_self ..)
  have ML:a≠c:=λq=>hc (by rw[e,<-q];exact List.mem_cons_self ..)
  rw[hn] at r2⊢;rw[ah bl,af (by rw[qw];exact ha)]
  have r3: ∀d:Int,0<=d->rd (List.set S2 a.toNat (bm.mk (rd S2 a).key c (rd S2 a).aY)) d=if d=a then bm.mk (rd S2 a).key c (rd S2 a).aY else rd S2 d:=λd d0=>kV ha.1 (by rw[qw];exact ha.2) d0
  refine⟨_,J,J,J,by simpa using qw,λd d0=>?_,qx,λd fN=>?_,⟨?_,?_,?_⟩,J,?_⟩
  ·rw[<-Ai d d0];simp only;rw[r3 d d0];split
   ·rename_i q;rw[q]
   ·rfl
  ·simp only[List.length_set];rw[qw];rcases List.mem_cons.1 fN with rfl |q
   ·exact⟨h0,h1⟩
   ·exact h.mem d q
  ·simp only;rw[r3 c h0,ah ML.symm,r2 c h0,af J]
  ·simp only;rw[r3 c h0,ah ML.symm,r2 c h0,af J,e];rfl
  ·refine Wn ord (-1) c (-1) (λd fN=>?_) h.nd (λ_=>?_) h.vT
   ·have:=h.mem d fN;have Jz:d≠c:=λq=>hc (q▸fN);rw[r3 d this.1];refine⟨?_,λq=>?_⟩
    ·split
     ·rename_i q;rw[q,r2 a ha.1,ah ML]
     ·rw[r2 d this.1,ah Jz]
    ·rw[e] at q;simp only[hd] at q;rw[ah q,r2 d this.1,ah Jz]
   ·rw[e];simp only[hd];rw[r3 a ha.1,af J]
  ·simp only;rw[h.ol,e];rfl
theorem pA.Uz {l:fg} {k:Int} {ord:List Int} (h:pA l k ord):zM l ord:=⟨h.nd,λc hc=>(h.mem c).1 hc,h.vT,h.nw,h.ol⟩
theorem ai4 {l:fg} {k:Int} {ord:List Int} (h:pA l k ord) (a b:Int):Ok (xc.f l a b) (λr=> ∃A B,pA r.2.2.2 k (r.1::(A++B))/\
 ((r.2.1=true/\r.2.2.1=false/\cY l.ft (a,b)=some r.1/\ord=A++r.1::B/\r.2.2.2.ak.length=l.ak.length/\ ∀d:Int,0<=d->(rd r.2.2.2.ak d).key=(rd l.ak d).key)∨
  (r.2.1=false/\r.2.2.1=false/\cY l.ft (a,b)=none/\ord=A++B/\r.1=l.ak.length/\r.2.2.2.ak.length=l.ak.length+1/\(∀d:Int,0<=d->d<l.ak.length->(rd r.2.2.2.ak d).key=(rd l.ak d).key)/\(rd r.2.2.2.ak r.1).key=(a,b))∨
  (r.2.1=false/\r.2.2.1=true/\cY l.ft (a,b)=none/\ord=A++r.1::B/\B=[]/\(l.ak.length:Int)=k/\r.2.2.2.ak.length=l.ak.length/\(∀d:Int,0<=d->d≠r.1->(rd r.2.2.2.ak d).key=(rd l.ak d).key)/\(rd r.2.2.2.ak r.1).key=(a,b)))):=by
 have JD:=h.kb;have JA:=h.jd;unfold xc.f
 cases hg:cY l.ft (a,b) with
 |some c=>
  have hm:bQ l.ft (a,b)=true:=by unfold bQ;rw[hg];rfl
  have hv:aO l.ft (a,b)=c:=by unfold aO;rw[hg];rfl
  obtain⟨c0,c1,c2⟩:=(h.sl (a,b) c).1 hg;obtain⟨A,B,Jh⟩:=List.append_of_mem ((h.mem c).2 ⟨c0,c1⟩);obtain⟨l1,e1,k1,Hm,n1,J3,uc⟩:=WV (A:=A) (B:=B) (c:=c) (Jh▸h.Uz);rw[hm,hv,af J,e1];simp only[aK];have qx:=h.nd;rw[Jh] at qx;obtain⟨nA,nB,_⟩:=Oj qx;have Gu:zM ⟨l1.k,l1.ak,cC l1.ft (a,b) c,l1.cy,l1.cZ⟩ (A++B):=⟨uc.nd,uc.mem,uc.vT,uc.nw,uc.ol⟩;obtain⟨l2,e2,k2,vU,n2,pc,rH⟩:=N3 (c:=c) Gu c0 (by simp only;omega) (by simp[nA,nB])
  rw[e2];simp only at k2 vU n2 pc;have jY: ∀d:Int,0<=d->(rd l2.ak d).key=(rd l.ak d).key:=λd d0=>(pc d d0).trans (J3 d d0);refine Ok.pure ⟨A,B,⟨by simp only;rw[k2,k1];exact h.k_,JD,by simp only;omega,rH.nd,λd=>?_,rH.vT,rH.nw,rH.ol,?_,λkey d=>?_⟩,.inl ⟨J,J,J,Jh,by simp only;omega,jY⟩⟩
  ·have:=h.mem d;rw[Jh] at this;simp only[n2,n1,List.mem_cons,List.mem_append] at this⊢;rw[<-this];constructor
   ·rintro(q |q |q)
    ·exact .inr (.inl q)
    ·exact .inl q
    ·exact .inr (.inr q)
   ·rintro(q |q |q)
    ·exact .inr (.inl q)
    ·exact .inl q
    ·exact .inr (.inr q)
  ·simp only;rw[vU,Hm];exact Ci h.sn _ _
  ·simp only;rw[vU,Hm,yY,n2,n1]
   by_cases q:(a,b)=key
   ·rw[af q,<-q];constructor
    ·intro w;simp only[Option.some.injEq] at w;subst w;exact⟨c0,c1,by rw[jY c c0];exact c2⟩
    ·rintro⟨w0,w1,w2⟩;rw[jY d w0] at w2;rw[<-hg];exact(h.sl _ _).2 ⟨w0,w1,w2⟩
   ·rw[ah q,h.sl key d];exact⟨λ⟨w0,w1,w2⟩=>⟨w0,w1,by rw[jY d w0];exact w2⟩,λ⟨w0,w1,w2⟩=>⟨w0,w1,by rw[jY d w0] at w2;exact w2⟩⟩
 |none=>
  have hm:bQ l.ft (a,b)=false:=by unfold bQ;rw[hg];rfl
  have gz: ∀d:Int,0<=d->d<l.ak.length->(rd l.ak d).key≠(a,b):=λd d0 d1 e=>by
   have:=(h.sl (a,b) d).2 ⟨d0,d1,e⟩;rw[hg] at this;simp at this
  rw[hm,ah bk]
  by_cases aP:(l.ak.length:Int)<l.k
  ·rw[h.k_] at aP;rw[h.k_,af aP,af U];simp only[aK];have Gb: ∀d:Int,0<=d->d<l.ak.length->rd (l.ak++[bm.mk (a,b) 0 0]) d=rd l.ak d:=λd d0 d1=>zd d0 d1
   have DV:rd (l.ak++[bm.mk (a,b) 0 0]) (l.ak.length:Int)=bm.mk (a,b) 0 0:=by rw[OC U (Int.le_refl _),af J]
   have Gu:zM ⟨k,l.ak++[bm.mk (a,b) 0 0],cC l.ft (a,b) (l.ak.length:Int),l.cy,l.cZ⟩ ord:=
    ⟨h.nd,λc hc=>by have:=(h.mem c).1 hc;simp;omega,Ev ord _ _ (λc hc=>by have:=(h.mem c).1 hc;simp only;rw[Gb c this.1 this.2];exact⟨J,J⟩) h.vT,h.nw,h.ol⟩
   have ko:(l.ak.length:Int)∉ord:=λz=>by have:=(h.mem _).1 z;omega
   obtain⟨l2,e2,k2,vU,n2,pc,rH⟩:=N3 (c:=(l.ak.length:Int)) Gu U bl ko;rw[e2];simp only[List.length_append,List.length_cons,List.length_nil] at k2 vU n2 pc;refine Ok.pure ⟨[],ord,⟨k2,JD,by simp only;omega,rH.nd,λd=>?_,rH.vT,rH.nw,rH.ol,?_,λkey d=>?_⟩,.inr (.inl ⟨J,J,by first |rfl |trivial,J,J,by simp only;omega,λd d0 d1=>?_,?_⟩)⟩
   ·simp only[List.nil_append,List.mem_cons,n2];rw[h.mem d];omega
   ·simp only;rw[vU];exact Ci h.sn _ _
   ·simp only;rw[vU,yY,n2]
    by_cases q:(a,b)=key
    ·rw[af q,<-q];constructor
     ·intro w;simp only[Option.some.injEq] at w;subst w;exact⟨by omega,by omega,by rw[pc _ U,DV]⟩
     ·rintro⟨w0,w1,w2⟩
      by_cases y:d=l.ak.length
      ·rw[y]
      ·rw[pc d w0,Gb d w0 U] at w2;exact absurd w2 (gz d w0 U)
    ·rw[ah q,h.sl key d];constructor
     ·rintro⟨w0,w1,w2⟩;exact⟨w0,by omega,by rw[pc d w0,Gb d w0 w1];exact w2⟩
     ·rintro⟨w0,w1,w2⟩
      by_cases y:d=l.ak.length
      ·rw[y,pc _ U,DV] at w2;exact absurd w2 q
      ·rw[pc d w0,Gb d w0 U] at w2;exact⟨w0,by omega,w2⟩
   ·simp only;rw[pc d d0,Gb d d0 d1]
   ·simp only;rw[pc _ U,DV]
  ·rw[h.k_] at aP;rw[h.k_,ah aP];have bH:ord≠[]:=λz=>by have:=(h.mem 0).2 U;rw[z] at this;simp at this
   have hlm:=Gy ord (-1) bH;have rF:=(h.mem _).1 hlm;obtain⟨A,hA⟩: ∃A,ord=A++jh ord (-1)::[]:=by
    refine⟨ord.dropLast,?_⟩;have:jh ord (-1)=ord.getLast bH:=by
     have: ∀(L:List Int) (p:Int) (hL:L≠[]),jh L p=L.getLast hL:=by
      intro L
      induction L with
      |nil=>intro p hL;exact absurd J hL
      |cons c r ih=>
       intro p hL
       cases r with
       |nil=>rfl
       |cons d r=>rw[List.getLast_cons bk];exact ih c bk
     exact this ord (-1) bH
    rw[this,List.dropLast_concat_getLast]
   rw[<-h.ol] at hA rF;generalize hc:l.cZ=c at*;obtain⟨l1,e1,k1,Hm,n1,J3,uc⟩:=WV (A:=A) (B:=[]) (c:=c) (hA▸h.Uz);rw[e1];simp only[aK];rw[af U];simp only[aK];have hck:((rd l1.ak c).key.1,(rd l1.ak c).key.2)=(rd l.ak c).key:=by rw[J3 c rF.1]
   rw[hck];have hr: ∀d:Int,0<=d->rd (List.set l1.ak c.toNat (bm.mk (a,b) (rd l1.ak c).cJ (rd l1.ak c).aY)) d=if d=c then bm.mk (a,b) (rd l1.ak c).cJ (rd l1.ak c).aY else rd l1.ak d:=λd d0=>kV rF.1 U d0
   have qx:=h.nd;rw[hA] at qx;obtain⟨nA,nB,_⟩:=Oj qx;have Gu:zM ⟨l1.k,List.set l1.ak c.toNat (bm.mk (a,b) (rd l1.ak c).cJ (rd l1.ak c).aY),cC (dJ l1.ft (rd l.ak c).key) (a,b) c,l1.cy,l1.cZ⟩ (A++[]):=
    ⟨uc.nd,λd fN=>by simp only[List.length_set];exact uc.mem d fN,Ev _ _ _ (λd fN=>by
      have:=uc.mem d fN;simp only;rw[hr d this.1,ah (λq=>nA (by rw[<-q];simpa using fN))];exact⟨J,J⟩) uc.vT,uc.nw,uc.ol⟩
   obtain⟨l2,e2,k2,vU,n2,pc,rH⟩:=N3 (c:=c) Gu rF.1 bl (by simpa using nA)
   rw[e2];simp only[List.length_set] at k2 vU n2 pc;have jY: ∀d:Int,0<=d->d≠c->(rd l2.ak d).key=(rd l.ak d).key:=λd d0 Jz=>by rw[pc d d0,hr d d0,ah Jz,J3 d d0]
   have JE:(rd l2.ak c).key=(a,b):=by rw[pc c rF.1,hr c rF.1,af J]
   refine Ok.pure ⟨A,[],⟨by simp only;rw[k2,k1];exact h.k_,JD,by simp only;omega,rH.nd,λd=>?_,rH.vT,rH.nw,rH.ol,?_,λkey d=>?_⟩,.inr (.inr ⟨J,J,by first |rfl |trivial,hA,J,by omega,by simp only;omega,jY,JE⟩)⟩
   ·have:=h.mem d;rw[hA] at this;simp only[n2,n1,List.mem_cons,List.mem_append,List.not_mem_nil,or_false] at this⊢;rw[<-this];exact or_comm
   ·simp only;rw[vU,Hm];exact Ci (J8 h.sn _) _ _
   ·simp only;rw[vU,Hm,yY,J_ h.sn,n2,n1]
    by_cases q:(a,b)=key
    ·rw[af q,<-q];constructor
     ·intro w;simp only[Option.some.injEq] at w;subst w;exact⟨rF.1,rF.2,JE⟩
     ·rintro⟨w0,w1,w2⟩
      by_cases y:d=c
      ·rw[y]
      ·rw[jY d w0 y] at w2;exact absurd w2 (gz d w0 w1)
    ·rw[ah q]
     by_cases y:(rd l.ak c).key=key
     ·rw[af y];constructor
      ·intro w;simp at w
      ·rintro⟨w0,w1,w2⟩
       by_cases x:d=c
       ·rw[x,JE] at w2;exact absurd w2 q
       ·rw[jY d w0 x] at w2;have a1:=(h.sl key d).2 ⟨w0,w1,w2⟩;have a2:=(h.sl key c).2 ⟨rF.1,rF.2,y⟩;rw[a1] at a2;simp only[Option.some.injEq] at a2;exact absurd a2 x
     ·rw[ah y,h.sl key d];constructor
      ·rintro⟨w0,w1,w2⟩;have x:d≠c:=λx=>y (by rw[<-x];exact w2)
       exact⟨w0,w1,by rw[jY d w0 x];exact w2⟩
      ·rintro⟨w0,w1,w2⟩;have x:d≠c:=λx=>q (by rw[x,JE] at w2;exact w2)
       exact⟨w0,w1,by rw[jY d w0 x] at w2;exact w2⟩
theorem aeP {l:fg} {k:Int} {ord:List Int} (h:pA l k ord): ∀(r:List Int) (n:Nat) (x:List (Int×Int)) (p:Int),(∀c∈r,c∈ord)->oC l.ak p r (-1)->r.length<n->x.length+r.length<=2000000->
 og.l0 n l x (hd r (-1))=some (x++r.map (λc=>(rd l.ak c).key)):=by
 intro r
 induction r with
 |nil=>
  intro n x p _ _ hn _;obtain⟨n,rfl⟩:=bh hn;rw[og.l0,ah (by simp[hd])];simp
 |cons c r ih=>
  intro n x p hr hs hn hx;obtain⟨n,rfl⟩:=bh hn;simp only[List.length_cons] at hn hx;have hc:=(h.mem c).1 (hr c (List.mem_cons_self ..));have e:hd (c::r) (-1)=c:=rfl;rw[og.l0,e,af bl,af hc,af U,hs.2.1,ih n _ c (λd fN=>hr d (List.mem_cons_of_mem _ fN)) hs.2.2 U bl];simp
theorem U2 {n:Nat} {ord:List Int} (hn:ord.Nodup) (hm: ∀c,c∈ord↔0<=c/\c<n):ord.length=n:=by
 have hp:ord.Perm ((List.range n).map Int.ofNat):=by
  refine(List.perm_ext_iff_of_nodup hn ?_).2 λc=>?_
  ·exact(List.nodup_range).map _ λa b u6 e=>u6 (Int.ofNat.inj e)
  ·rw[hm c];simp only[List.mem_map,List.mem_range];exact⟨λ⟨a,b⟩=>⟨c.toNat,by omega,by simp;omega⟩,λ⟨a,b,e⟩=>by subst e;simp;omega⟩
 have:=hp.length_eq;simpa using this
theorem afm {l:fg} {k:Int} {ord:List Int} (h:pA l k ord):og.f l=some (ord.map λc=>(rd l.ak c).key):=by
 have hl:=U2 h.nd h.mem;have:=h.jd;have:=h.kb;unfold og.f;rw[h.nw,aeP h ord fuel [] (-1) (λc hc=>hc) h.vT (by rw[cH];omega) bl];rfl
def r8 (t:aJ):Prop:=1<=t.W/\t.W<=16/\1<=t.H/\t.H<=16/\(t.C.length:Int)=t.W*t.H/\0∉t.C
instance (t:aJ):Decidable (r8 t):=by unfold r8;infer_instance
theorem ox {t:aJ} (h:r8 t):1<=t.C.length/\t.C.length<=256:=by
 obtain⟨a,b,c,d,e,_⟩:=h;have h1:t.W*t.H<=16*16:=kt U U b d;have h2:1*1<=t.W*t.H:=kt U U a c;omega
theorem KO (t:aJ) (hb:t.C.length<4611686018427387904):tq.f t=some (decide (r8 t)):=by
 unfold tq.f A7.f;simp only[aK]
 by_cases hw:1<=t.W/\t.W<=16
 ·by_cases hh:1<=t.H/\t.H<=16
  ·have h1:t.W*t.H<=16*16:=kt U U hw.2 hh.2;have h2:0<=t.W*t.H:=nu U U;rw[af bl,af bl,bj U U,L4 _ _ hb]
   by_cases hl:(t.C.length:Int)=t.W*t.H
   ·rw[af (by simpa using hl)]
    simp only[aK]
    congr 1
    rw[Bool.eq_iff_iff];simp[r8,hw,hh,hl]
   ·rw[ah (by simpa using hl),decide_eq_false (λq=>hl q.2.2.2.2.1)];rfl
  ·rw[af bl,ah bl,decide_eq_false (λq=>hh ⟨q.2.2.1,q.2.2.2.1⟩)];rfl
 ·rw[ah bl,decide_eq_false (λq=>hw ⟨q.1,q.2.1⟩)];rfl
def l8 (t:aJ):Prop:=r8 t/\ ∀c:Int,0<=c->c<t.C.length->1<=rd t.C c/\rd t.C c<=255
theorem aiQ {t:aJ} (h:l8 t) (c:Int):A6.f t c=some (if 0<=c/\c<t.C.length then rd t.C c else 0):=by
 have hl:=ox h.1;unfold A6.f EC.f;rw[KO _ U,decide_eq_true h.1]
 by_cases a:0<=c
 ·by_cases b:c<t.C.length
  ·have:=h.2 c a b;rw[af a,af b,af ⟨a,b⟩];simp only[aK,Bool.not_true,Bool.false_eq_true,if_false];rw[af ⟨a,b⟩,wi U U]
  ·simp only[af a,ah b,ah (show ¬(0<=c/\c<t.C.length) from λq=>b q.2)];rfl
 ·simp only[ge_iff_le,ah a,ah (show ¬(0<=c/\c<t.C.length) from λq=>a q.1)];rfl
def fQ (w h c side:Int):Int:=if cD w h c side<0∨aX w h (cD w h c side)=aX w h c then-1 else cD w h c side
theorem U9 (w h c side:Int):yq.f w h c side=some (fQ w h c side):=by
 unfold yq.f fQ;rw[Hz,aK]
 by_cases h1:cD w h c side<0
 ·rw[af h1,af (Or.inl h1)];rfl
 ·rw[ah h1,tj,aK,tj,aK]
  by_cases h2:aX w h (cD w h c side)=aX w h c
  ·rw[af (Or.inr h2),h2];simp
  ·rw[ah (c:=_∨_) (λq=>q.elim h1 h2)];simp[h2]
theorem agu {w h c side:Int} (hn: ¬(0<=side/\side<=3)):fQ w h c side= -1:=by
 unfold fQ
 by_cases hc:bU w h c
 ·by_cases h4:side=4
  ·subst h4;rw[aiF hc,af (Or.inr rfl)]
  ·have:cD w h c side= -1:=by unfold cD;rw[ah U]
   rw[this,af (Or.inl U)]
 ·have:cD w h c side= -1:=by unfold cD;rw[ah (λq=>hc q.1)]
  rw[this,af (Or.inl U)]
theorem U8 {w h c side:Int} (h0:0<=fQ w h c side):bU w h c/\0<=side/\side<=3/\bU w h (fQ w h c side)/\fQ w h c side=cD w h c side/\aX w h (fQ w h c side)≠aX w h c:=by
 have B2:0<=side/\side<=3:=by
  by_cases hs:0<=side/\side<=3
  ·exact hs
  ·rw[agu hs] at h0;omega
 by_cases hq:cD w h c side<0∨aX w h (cD w h c side)=aX w h c
 ·unfold fQ at h0;rw[af hq] at h0;omega
 ·have e:fQ w h c side=cD w h c side:=by unfold fQ;rw[ah hq]
  have hc:bU w h c:=by
   by_cases hc:bU w h c
   ·exact hc
   ·have:cD w h c side= -1:=by unfold cD;rw[ah (λq=>hc q.1)]
    omega
  rcases KM hc B2.1 (by omega:side<=4) with⟨h1,_⟩ |⟨h1,_⟩
  ·omega
  ·exact⟨hc,B2.1,B2.2,e▸h1,e,λq=>hq (.inr (e▸q))⟩
theorem Mw {w h s l:Int} (hs:bG w h s) (h0:0<=l) (h1:l<(ax w h s).1*(ax w h s).2):
 bU w h (de w h s l)/\de w h s l%w=16*(s%(bn w h).1)+l%(ax w h s).1/\de w h s l/w=16*(s/(bn w h).1)+l/(ax w h s).1:=by
 obtain⟨a1,a2,a3,a4,a5,a6⟩:=wO hs h0 h1;have hp:=uo hs;have e:de w h s l=(16*(s/(bn w h).1)+l/(ax w h s).1)*w+(16*(s%(bn w h).1)+l%(ax w h s).1):=by unfold de;rw[af ⟨hs,h0,h1⟩]
 have:=sm (h:=h) (x:=16*(s%(bn w h).1)+l%(ax w h s).1) (y:=16*(s/(bn w h).1)+l/(ax w h s).1) U a5 U a6;rw[e];exact⟨⟨tg hs,this⟩,qD U a5⟩
theorem aid {w h s:Int} (hs:bG w h s):(ax w h s).1=min 16 (w-16*(s%(bn w h).1))/\(ax w h s).2=min 16 (h-16*(s/(bn w h).1)):=by
 unfold ax;rw[af hs];exact⟨J,J⟩
theorem KC {w h s l:Int} (hs:bG w h s) (h0:0<=l) (h1:l<(ax w h s).1*(ax w h s).2):aX w h (de w h s l)=s:=by
 obtain⟨hc,e1,e2⟩:=Mw hs h0 h1;obtain⟨a1,a2,a3,a4,a5,a6⟩:=wO hs h0 h1;obtain⟨z1,z2,z3,z4⟩:=p7 hs;unfold aX;rw[af hc,e1,e2];have q1:(16*(s/(bn w h).1)+l/(ax w h s).1)/16=s/(bn w h).1:=U;have q2:(16*(s%(bn w h).1)+l%(ax w h s).1)/16=s%(bn w h).1:=U;rw[q1,q2];have:=Int.mul_ediv_add_emod s (bn w h).1;rw[Int.mul_comm] at this;exact this
def AQ (w h s side:Int):Prop:=if side=0 then 1<=s/(bn w h).1 else if side=1 then s%(bn w h).1+1<(bn w h).1 else if side=2 then s/(bn w h).1+1<(bn w h).2 else 1<=s%(bn w h).1
def uj (tw th l side:Int):Prop:=if side=0 then l/tw=0 else if side=1 then l%tw=tw-1 else if side=2 then l/tw=th-1 else l%tw=0
instance (w h s side:Int):Decidable (AQ w h s side):=by unfold AQ;infer_instance
instance (tw th l side:Int):Decidable (uj tw th l side):=by unfold uj;infer_instance
theorem Kl {w h s l side:Int} (hs:bG w h s) (h0:0<=l) (h1:l<(ax w h s).1*(ax w h s).2) (s0:0<=side) (s3:side<=3):
 0<=fQ w h (de w h s l) side↔AQ w h s side/\uj (ax w h s).1 (ax w h s).2 l side:=by
 obtain⟨hc,e1,e2⟩:=Mw hs h0 h1;obtain⟨a1,a2,a3,a4,a5,a6⟩:=wO hs h0 h1;obtain⟨z1,z2,z3,z4⟩:=p7 hs;obtain⟨y1,y2⟩:=aid hs;obtain⟨p1,p2,p3,p4⟩:=uo hs;have yL:=KC hs h0 h1;have hm:=tg hs;have eS:(bn w h).1=(w+15)/16/\(bn w h).2=(h+15)/16:=by unfold bn;rw[af hm];exact⟨J,J⟩
 have Gh:side=0∨side=1∨side=2∨side=3:=U;rcases KM hc s0 (by omega:side<=4) with⟨b1,b2⟩ |⟨b1,b2,b3,b4,b5,b6,b7⟩
 ·have:fQ w h (de w h s l) side= -1:=by unfold fQ;rw[b1,af (Or.inl U)]
  rw[this];refine⟨λq=>by omega,λq=>?_⟩
  exfalso;apply b2;rw[e1,e2];obtain⟨q1,q2⟩:=q;unfold AQ at q1;unfold uj at q2;unfold dX dY;rcases Gh with rfl |rfl |rfl |rfl<;>simp at q1 q2⊢ <;>omega
 ·have b8: ¬cD w h (de w h s l) side<0:=by have:=b1.2;omega
  have key:aX w h (cD w h (de w h s l) side)=s↔(16*(s/(bn w h).1)+l/(ax w h s).1+dY side)/16=s/(bn w h).1/\(16*(s%(bn w h).1)+l%(ax w h s).1+dX side)/16=s%(bn w h).1:=by
   have tX:=Es b1;have yJ:=qD (a:=(bn w h).1) (y:=cD w h (de w h s l) side/w/16) tX.1 tX.2.1;have e:aX w h (cD w h (de w h s l) side)=cD w h (de w h s l) side/w/16*(bn w h).1+cD w h (de w h s l) side%w/16:=by unfold aX;rw[af b1]
   rw[<-e,b2,b3,e1,e2] at yJ;constructor
   ·intro q;rw[q] at yJ;exact⟨yJ.2.symm,yJ.1.symm⟩
   ·rintro⟨q1,q2⟩;rw[e,b2,b3,e1,e2,q1,q2];have:=Int.mul_ediv_add_emod s (bn w h).1;rw[Int.mul_comm] at this;exact this
  rw[e1] at b4 b5;rw[e2] at b6 b7;unfold fQ;rw[yL]
  by_cases hq:aX w h (cD w h (de w h s l) side)=s
  ·rw[af (Or.inr hq)];obtain⟨k1,k2⟩:=key.mp hq;refine⟨λq=>by omega,λq=>?_⟩
   exfalso;obtain⟨q1,q2⟩:=q;unfold AQ at q1;unfold uj at q2;unfold dX at k2;unfold dY at k1;rcases Gh with rfl |rfl |rfl |rfl<;>simp at q1 q2 k1 k2<;>omega
  ·rw[ah (c:=_∨_) (λq=>q.elim b8 hq)];refine⟨λ_=>?_,λ_=>by omega⟩
   rw[key] at hq;unfold AQ uj;unfold dX at hq b4 b5;unfold dY at hq b6 b7;rcases Gh with rfl |rfl |rfl |rfl<;>simp at hq b4 b5 b6 b7⊢ <;>omega
instance:DecidableEq aZ:=λa b=>decidable_of_iff (a.Cell=b.Cell/\a.cM=b.cM/\a.Key=b.Key) (by obtain⟨a1,a2,a3⟩:=a;obtain⟨b1,b2,b3⟩:=b;simp)
theorem OX (a b:aZ):((a.Cell==b.Cell)&&((a.cM==b.cM)&&((a.Key==b.Key)&&true)))=decide (a=b):=by
 obtain⟨a1,a2,a3⟩:=a;obtain⟨b1,b2,b3⟩:=b;rw[Bool.eq_iff_iff];simp
theorem aar {R:aZ->aZ->Prop} (s:List aZ) (hs:s.Pairwise R) (hb:s.length<=1000000) {x2:Int} (h2:1<=x2/\x2<s.length): ∀(n k:Nat) (x:List aZ) (x8 x9:Int),(s.length-x2-x9).toNat<=n->n<k->x.length=s.length->
 1<=x8->x8<=x2+x9-1->1<=x9->x2+x9<=s.length->(∀c:Int,x2+x9-1<=c->c<s.length->rd x c=rd s c)->
 (∀i j:Int,0<=i->i<j->j<x8->R (rd x i) (rd x j))->(∀i c:Int,0<=i->i<x8->x2+x9<=c->c<s.length->R (rd x i) (rd s c))->
 (∀i:Int,0<=i->i<x8->rd x i∈s)->(∀c:Int,0<=c->c<x2+x9-> ∃i:Int,0<=i/\i<x8/\rd x i=rd s c)->
 Ok (jD.l1 k s x2 x x8 x9) (λr=>r.length<=s.length/\(∀e,e∈r↔e∈s)/\r.Pairwise R):=by
 intro n
 induction n with
 |zero=>
  intro k x x8 x9 hn hk hx h8 RR h9 hle hc hR FI cu DT;obtain⟨k,rfl⟩:=bh hk;have DW:((aA x x2 (s.length:Int)).length:Int)=s.length-x2:=by rw[iJ U];omega
  rw[jD.l1,DW,ah U,af U];have e:(cj x (Int.toNat x8) (List.length (aA x x8 (List.length x:Int))) (List.replicate (List.length (aA x x8 (List.length x:Int))) (default:aZ)))=x.take x8.toNat++List.replicate (x.length-x8.toNat) default:=by
   unfold cj;rw[iJ U,List.drop_of_length_le U];simp
  rw[e];have e2:aA (x.take x8.toNat++List.replicate (x.length-x8.toNat) (default:aZ)) 0 x8=x.take x8.toNat:=by
   unfold aA;simp only[Int.toNat_zero,List.drop_zero,Nat.sub_zero];rw[List.take_append_of_le_length bl,List.take_take];simp
  have hr: ∀i:Int,0<=i->i<x8->rd (x.take x8.toNat) i=rd x i:=λi i0 i1=>by
   rw[jl (xs:=List.take _ _) bl,List.getElem_take,jl U]
  have hl:(x.take x8.toNat).length=x8.toNat:=by simp;omega
  refine Ok.cx bl ?_;rw[e2];refine Ok.pure ⟨by omega,λy=>⟨λhy=>?_,λhy=>?_⟩,?_⟩
  ·obtain⟨i,i0,i1,rfl⟩:=jJ hy;rw[hr i i0 U];exact cu i i0 U
  ·obtain⟨c,c0,c1,rfl⟩:=jJ hy;obtain⟨i,i0,i1,q⟩:=DT c c0 U;rw[<-q,<-hr i i0 i1];exact dN i0 U
  ·refine OD λi j i0 ij j1=>?_
   rw[hr i i0 U,hr j U U];exact hR i j i0 ij U
 |succ n ih=>
  intro k x x8 x9 hn hk hx h8 RR h9 hle hc hR FI cu DT
  by_cases DP:x2+x9=s.length
  ·exact ih k x x8 x9 U U hx h8 RR h9 hle hc hR FI cu DT
  obtain⟨k,rfl⟩:=bh hk;have DW:((aA x x2 (s.length:Int)).length:Int)=s.length-x2:=by rw[iJ U];omega
  have JM: ∀i:Int,0<=i->i<s.length-x2->rd (aA x x2 (s.length:Int)) i=rd x (x2+i):=λi i0 i1=>by
   unfold aA;rw[jl (xs:=List.take _ _) bl,List.getElem_take,List.getElem_drop,jl U]
   congr 1;omega
  rw[jD.l1,DW,wi (x:=x9-1) U U];simp only[OX];rw[JM x9 U U,JM (x9-1) U U,hc (x2+x9) U U,hc (x2+(x9-1)) U U,wi (x:=x9+1) U U];refine Ok.pos U (Ok.cx U (Ok.cx U (Ok.ite (λq=>Ok.cx U ?_) λq=>?_)))
  ·rw[wi U U];have dI: ∀c:Int,0<=c->rd (List.set x x8.toNat (rd s (x2+x9))) c=if c=x8 then rd s (x2+x9) else rd x c:=λc c0=>kV U U c0
   refine ih k _ (x8+1) (x9+1) U U (by simpa using hx) U U U U (λc c0 c1=>?_) (λi j i0 ij j1=>?_) (λi c i0 i1 c0 c1=>?_) (λi i0 i1=>?_) (λc c0 c1=>?_)
   ·rw[dI c U,ah U];exact hc c U c1
   ·rw[dI i i0,dI j U,ah U];split
    ·exact FI i _ i0 U U U
    ·exact hR i j i0 ij U
   ·rw[dI i i0];split
    ·exact sT hs U U c1
    ·exact FI i c i0 U U c1
   ·rw[dI i i0];split
    ·exact dN U U
    ·exact cu i i0 U
   ·by_cases z:c=x2+x9
    ·exact⟨x8,by omega,by omega,by rw[dI _ U,af J,z]⟩
    ·obtain⟨i,i0,i1,y⟩:=DT c c0 U;exact⟨i,i0,by omega,by rw[dI i i0,ah U];exact y⟩
  ·have q:rd s (x2+x9)=rd s (x2+(x9-1)):=by simpa using q
   refine ih k x x8 (x9+1) U U hx h8 U U U (λc c0 c1=>hc c U c1) hR (λi c i0 i1 c0 c1=>FI i c i0 i1 U c1) cu (λc c0 c1=>?_)
   by_cases z:c=x2+x9
   ·rw[z,q];exact DT _ U U
   ·exact DT c c0 U
theorem aaq {R:aZ->aZ->Prop} (s:List aZ) (hs:s.Pairwise R) (hb:s.length<=1000000): ∀(n k:Nat) (i:Int),(s.length-i).toNat<=n->n<k->1<=i->
 Ok (jD.l0 k s i) (λr=>r.length<=s.length/\(∀e,e∈r↔e∈s)/\r.Pairwise R):=by
 intro n
 induction n with
 |zero=>
  intro k i hn hk hi;obtain⟨k,rfl⟩:=bh hk;rw[jD.l0,ah U];exact Ok.pure ⟨Nat.le_refl _,λ_=>Iff.rfl,hs⟩
 |succ n ih=>
  intro k i hn hk hi;obtain⟨k,rfl⟩:=bh hk;rw[jD.l0];refine Ok.ite (λhl=>?_) λ_=>Ok.pure ⟨Nat.le_refl _,λ_=>Iff.rfl,hs⟩
  rw[wi (x:=i-1) U U];simp only[OX];refine Ok.cx U (Ok.cx U (Ok.ite (λq=>Ok.cx U ?_) λq=>?_))
  ·have q:rd s i=rd s (i-1):=by simpa using q
   refine aar s hs hb (x2:=i) U s.length fuel s i 1 U (by rw[cH];omega) J hi U U U (λ_ _ _=>rfl) (λa b a0 ab b1=>sT hs a0 ab U) (λa c a0 a1 c0 c1=>sT hs a0 U c1) (λa a0 a1=>dN a0 U) (λc c0 c1=>?_)
   by_cases z:c=i
   ·exact⟨i-1,by omega,by omega,by rw[z,q]⟩
   ·exact⟨c,c0,by omega,J⟩
  ·rw[wi U U];exact ih k (i+1) U U U
theorem aap {R:aZ->aZ->Prop} (s:List aZ) (hs:s.Pairwise R) (hb:s.length<=1000000):Ok (jD.f s) (λr=>r.length<=s.length/\(∀e,e∈r↔e∈s)/\r.Pairwise R):=by
 unfold jD.f;exact Ok.ite (λ_=>Ok.pure ⟨Nat.le_refl _,λ_=>Iff.rfl,hs⟩) λ_=>aaq s hs hb s.length fuel 1 U (by rw[cH];omega) U
def zW (x y:Int):Int:=if x<y then-1 else if x>y then 1 else 0
theorem aam (x y:Int):ss.f x y=some (zW x y):=by
 unfold ss.f cmp_isNaN_int.f zW;simp only[aK,bne_self_eq_false,Bool.false_eq_true,if_false];split
 ·rfl
 ·split<;>rfl
theorem agq (a b c:Int):mr.f [a,b,c]=some (if a≠0 then a else if b≠0 then b else c):=by
 unfold mr.f;obtain⟨k,hk⟩: ∃q,fuel=q+1+1+1+1:=⟨fuel-4,by rw[cH]⟩
 have w1:aa (0+1)=1:=rfl;have w2:aa (1+1)=2:=rfl;have w3:aa (2+1)=3:=rfl;have e0:rd [a,b,c] 0=a:=rfl;have e1:rd [a,b,c] 1=b:=rfl;have e2:rd [a,b,c] 2=c:=rfl;have l3:(List.length [a,b,c]:Int)=3:=rfl;rw[hk];simp only[mr.l0,l3,w1,w2,w3,e0,e1,e2]
 by_cases ha:a=0
 ·by_cases hb:b=0
  ·by_cases hc:c=0<;>simp[ha,hb,hc]
  ·simp[ha,hb]
 ·simp[ha]
def uk (a b:aZ):Int:=if zW a.Key b.Key≠0 then zW a.Key b.Key else if zW a.Cell b.Cell≠0 then zW a.Cell b.Cell else zW a.cM b.cM
theorem agr (a b:aZ):pt.f a b=some (uk a b):=by
 unfold pt.f;simp only[aam,agq,aK];rfl
def sZ (a b:aZ):Prop:=a.Key<b.Key∨a.Key=b.Key/\(a.Cell<b.Cell∨a.Cell=b.Cell/\a.cM<b.cM)
theorem KI (a b:aZ):ltOf uk a b=true↔sZ a b:=by
 unfold ltOf uk sZ zW;rw[decide_eq_true_iff]
 repeat' split
 all_goals omega
theorem swo:Go.Sort.SWO (ltOf uk):=by
 refine⟨λx=>?_,λx y z h1 h2=>?_,λx y z h1 h2=>?_⟩
 ·rw[<-Bool.not_eq_true,KI];unfold sZ;omega
 ·rw[KI] at*;unfold sZ at*;omega
 ·rw[<-Bool.not_eq_true,KI] at*;unfold sZ at*;omega
theorem O7 (l:List aZ) (hb:l.length<=1000000):Ok (mJ.f l) (λr=>r.length<=l.length/\(∀e,e∈r↔e∈l)/\r.Pairwise (λa b=> ¬sZ b a)):=by
 unfold mJ.f rP.f AW.f;have e:(λa b=>Option.getD (pt.f a b) 0)=uk:=by funext a b;rw[agr];rfl
 have hlen:=Hu swo l;obtain⟨⟨p1,p2,p3⟩,hs⟩:=Ww swo l;have hp: ∀x,x∈py uk l↔x∈l:=λx=>by
  have h1:(py uk l).toArray.extract 0 l.length=(py uk l).toArray:=by rw[<-hlen];simp
  have h2:l.toArray.extract 0 l.length=l.toArray:=by simp
  rw[h1,h2] at p3;exact p3.mem_iff
 have hpw:(py uk l).Pairwise (λa b=> ¬sZ b a):=OD λi j i0 ij j1=>by
  have:=hs i.toNat j.toNat U U U;rw[<-KI];have g: ∀c:Int,0<=c->c<(py uk l).length->(py uk l).toArray[c.toNat]! =rd (py uk l) c:=λc c0 c1=>by
   rw[jl U];simp;rw[List.getElem?_eq_getElem U];rfl
  rw[g i i0 U,g j U U] at this;simp[this]
 refine Ok.eq (af bl) ?_;simp only[List.nil_append,e];refine Ok.eq (af U) ((aap _ hpw U).bind λr hr=>Ok.pure ⟨by omega,λx=>(hr.2.1 x).trans (hp x),hr.2.2⟩)
def He (t:aJ) (c side:Int):Prop:=side=4∨(0<=side/\side<=3/\uj t.W t.H c side)
def qk (t:aJ) (s:aZ):Prop:=0<=s.Cell/\s.Cell<t.C.length/\rd t.C s.Cell≠255/\0<=s.Key/\s.Key<=1073741824/\He t s.Cell s.cM
theorem ags {t:aJ} (h:l8 t) {c side:Int} (c0:0<=c) (c1:c<t.C.length):Ok (CP.f t c side) (λb=>b=true↔He t c side):=by
 unfold CP.f He uj;obtain⟨a,b,d,e,f,_⟩:=h.1;have hl:=ox h.1;have hq:0<=c/t.W/\c/t.W<=c:=⟨Int.ediv_nonneg c0 U,Int.ediv_le_self _ c0⟩;rw[mM c0,qQ c0,wi (x:=c/t.W) U U,wi (x:=t.W-1) U U,wi (x:=t.H-1) U U];refine Ok.cx U (Ok.cx U (Ok.ite (λz=>Ok.pure ?_) λz=>Ok.ite (λz=>Ok.pure ?_) λz=>Ok.ite (λz=>Ok.pure ?_) λz=>Ok.ite (λz=>Ok.pure ?_) λz=>Ok.pure ?_))
 all_goals simp only[beq_iff_eq] at*
 ·subst z;simp
 ·subst z;simp
 ·subst z;simp
 ·subst z;simp
 ·constructor
  ·exact .inl
  ·rintro(q |q)
   ·exact q
   ·omega
theorem afx {t:aJ} (h:l8 t) (s:aZ):Ok (CO.f s t) (λb=>b=true↔ ¬qk t s):=by
 unfold CO.f qk;refine(?_:Ok _ (λb:Bool=>b=true↔ ¬qk t s)).bind λr hr=>Ok.pure hr
 unfold qk;refine Ok.ite (λz=>Ok.pure ?_) λz1=>Ok.ite (λz=>Ok.pure ?_) λz2=>Ok.cx U (Ok.ite (λz=>Ok.pure ?_) λz3=>Ok.ite (λz=>Ok.pure ?_) λz4=>Ok.ite (λz=>Ok.pure ?_) λz5=>?_)
 ·simp;omega
 ·simp;omega
 ·have z:rd t.C s.Cell=255:=by simpa using z
  simp[z]
 ·simp;omega
 ·simp;omega
 ·refine(ags h U U).bind λr hr=>Ok.pure ?_
  have z3:rd t.C s.Cell≠255:=by simpa using z3
  cases r
  ·have: ¬He t s.Cell s.cM:=λq=>by have:=hr.2 q;simp at this
   simp[this]
  ·have:He t s.Cell s.cM:=hr.1 J;simp only[Bool.not_true,Bool.false_eq_true,false_iff,Classical.not_not];exact⟨by omega,by omega,z3,by omega,by omega,this⟩
theorem aeq {t:aJ} (h:l8 t) (l:List aZ) (hb:l.length<=1000000): ∀(n k:Nat) (i:Int),(l.length-i).toNat<=n->n<k->0<=i->(∀j:Int,0<=j->j<i->qk t (rd l j))->
 Ok (qL.l0 k l t i) (λr=>0<=r↔ ¬ ∀s∈l,qk t s):=by
 intro n
 induction n with
 |zero=>
  intro k i hn hk hi ha;obtain⟨k,rfl⟩:=bh hk;rw[qL.l0,ah U];refine Ok.pure ⟨λq=>by omega,λq=>absurd (λs hs=>?_) q⟩
  obtain⟨j,j0,j1,rfl⟩:=jJ hs;exact ha j j0 U
 |succ n ih=>
  intro k i hn hk hi ha
  by_cases aP:i<l.length
  ·obtain⟨k,rfl⟩:=bh hk;rw[qL.l0];refine Ok.pos aP (Ok.cx ⟨hi,aP⟩ ((afx h (rd l i)).bind λb jw=>Ok.ite (λq=>Ok.pure ⟨λ_ y=>jw.1 q (y _ (dN hi aP)),λ_=>hi⟩) λq=>?_));rw[wi U U];refine ih k (i+1) U U U (λj j0 j1=>?_)
   by_cases z:j=i
   ·rw[z];exact Classical.byContradiction λy=>q (jw.2 y)
   ·exact ha j j0 U
  ·exact ih k i U U hi ha
theorem Wv {t:aJ} (h:l8 t) (l:List aZ) (hb:l.length<=1000000):Ok (zo.f t l) (λb=>b=true↔ ∀s∈l,qk t s):=by
 have hl:=ox h.1;unfold zo.f Ey.f qL.f;rw[KO _ U,decide_eq_true h.1];refine Ok.eq J (Ok.neg bk (((aeq h l hb l.length fuel 0 U (by rw[cH];omega) U (λj j0 j1=>by omega)).bind λr hr=>Ok.pure (P:=λb=>b=true↔ ¬ ∀s∈l,qk t s) (by simp only[decide_eq_true_iff];exact hr)).bind λr hr=>Ok.pure ?_))
 cases r
 ·simp only[Bool.not_false,true_iff];exact Classical.byContradiction λy=>by have:=hr.2 y;simp at this
 ·simp only[Bool.not_true,Bool.false_eq_true,false_iff];exact hr.1 J
theorem ah4 (a b:List aZ) (hl:a.length=b.length) (hb:a.length<=1000000): ∀(n k:Nat) (i:Int),(a.length-i).toNat<=n->n<k->0<=i->(∀j:Int,0<=j->j<i->rd a j=rd b j)->
 qK.l0 k a b i=some (decide (a=b)):=by
 intro n
 induction n with
 |zero=>
  intro k i hn hk hi ha;obtain⟨k,rfl⟩:=bh hk;rw[qK.l0,ah U,decide_eq_true (G2 hl λj j0 j1=>ha j j0 U)]
 |succ n ih=>
  intro k i hn hk hi ha
  by_cases aP:i<a.length
  ·obtain⟨k,rfl⟩:=bh hk;rw[qK.l0,af aP,af ⟨hi,aP⟩,af U,OX]
   by_cases q:rd a i=rd b i
   ·rw[ah (by simp[q]),wi U U]
    refine ih k (i+1) U U U (λj j0 j1=>?_)
    by_cases z:j=i
    ·rw[z];exact q
    ·exact ha j j0 U
   ·rw[af (by simp[q]),decide_eq_false (λy=>q (by rw[y]))]
  ·exact ih k i U U hi ha
theorem aix (a b:List aZ) (hb:a.length<=1000000):AU.f a b=some (decide (a=b)):=by
 unfold AU.f qK.f
 by_cases hl:a.length=b.length
 ·rw[ah (by simp[hl]),ah4 a b hl hb a.length fuel 0 U (by rw[cH];omega) U (λj j0 j1=>by omega)];rfl
 ·rw[af bl,decide_eq_false (λy=>hl (by rw[y]))];rfl
theorem Zs (l:List aZ) (c side:Int) (hb:l.length<=1000000): ∀(n k:Nat) (x:Int) (b:Bool) (i:Int),(l.length-i).toNat<=n->n<k->0<=i->
 ∃r,kA.l0 k l c side x b i=some r:=by
 intro n
 induction n with
 |zero=>
  intro k x b i hn hk hi;obtain⟨k,rfl⟩:=bh hk;exact⟨x,by rw[kA.l0,ah U]⟩
 |succ n ih=>
  intro k x b i hn hk hi
  by_cases aP:i<l.length
  ·obtain⟨k,rfl⟩:=bh hk;rw[kA.l0,af aP,af ⟨hi,aP⟩,wi U U];have: ∃q,(if((rd l i).Cell==c)=true then(if((rd l i).cM==side)=true then(if(!b)=true then(some true) else(some (decide ((rd l i).Key<x)))) else(some false)) else(some false))=some q:=by
    repeat' split
    all_goals exact⟨_,J⟩
   obtain⟨q,hq⟩:=this;rw[hq,aK];split
   ·exact ih k _ _ (i+1) U U U
   ·exact ih k _ _ (i+1) U U U
  ·exact ih k x b i U U hi
theorem Zr (l:List aZ) (c side:Int) (hb:l.length<=1000000): ∃r,kA.f l c side=some r:=
 Zs l c side hb l.length fuel _ _ 0 U (by rw[cH];omega) U
def kz (b:jM):List Int:=b.items.drop b.gone.toNat
def j7:List jM->Int
 |[]=>0
 |b::l=>(kz b).length+j7 l
theorem Pg: ∀l,0<=j7 l
 |[]=>Int.le_refl _
 |b::l=>by have:=Pg l;unfold j7;omega
theorem WT: ∀(l:List jM) (j:Nat) (b:jM),j<l.length->j7 (l.set j b)=j7 l-(kz (rd l (j:Int))).length+(kz b).length
 |[],j,b,h=>by simp at h
 |a::l,0,b,_=>by simp[j7,rd];omega
 |a::l,j+1,b,h=>by
  have:=WT l j b (by simpa using h)
  have e:rd (a::l) ((j+1:Nat):Int)=rd l (j:Int):=by unfold rd;simp
  simp only[List.set_cons_succ,j7];rw[this,e];omega
theorem WQ: ∀(l:List jM) (j:Nat),j<l.length->((kz (rd l (j:Int))).length:Int)<=j7 l
 |a::l,0,_=>by have:=Pg l;simp[j7,rd];omega
 |a::l,j+1,h=>by
  have:=WQ l j (by simpa using h)
  have e:rd (a::l) ((j+1:Nat):Int)=rd l (j:Int):=by unfold rd;simp
  simp only[j7];rw[e];omega
theorem WS: ∀(l:List jM),0<j7 l-> ∃j:Nat,j<l.length/\kz (rd l (j:Int))≠[]
 |[],h=>by simp[j7] at h
 |a::l,h=>by
  by_cases z:kz a=[]
  ·obtain⟨j,h1,h2⟩:=WS l (by simp[j7,z] at h;exact h)
   exact⟨j+1,by simpa using h1,by have e:rd (a::l) ((j+1:Nat):Int)=rd l (j:Int):=by unfold rd;simp
                                  rw[e];exact h2⟩
  ·exact⟨0,by simp,by simpa[rd] using z⟩
theorem WR {n:Nat}: ∀(l:List jM),(∀b∈l,b.items.length<=n)->j7 l<=l.length*n
 |[],_=>by simp[j7]
 |b::l,h=>by
  have:=WR l (λb hb=>h b (List.mem_cons_of_mem _ hb));have hb:=h b (List.mem_cons_self ..);have:(kz b).length<=b.items.length:=by unfold kz;simp
  rw[j7,List.length_cons,Int.natCast_add,Int.add_mul,Int.natCast_one,Int.one_mul];omega
structure iB (r:eB) (n:Nat):Prop where
 len_:r.buckets.length=256
 at_:0<=r.a_/\r.a_<=8796093022208
 gone: ∀b∈r.buckets,0<=b.gone/\b.gone<=b.items.length/\b.items.length<=n
 A8:r.len=j7 r.buckets
 n_:n<=1000000000
def Has (r:eB) (k i:Int):Prop:=r.a_<=k/\k<r.a_+256/\i∈kz (rd r.buckets (k%256))
variable {r : eB} {n : Nat}
theorem iB.Ce (h:iB r n):0<=r.len/\r.len<=256000000000:=by
 have h1:=Pg r.buckets;have h2:=WR r.buckets (λb hb=>(h.gone b hb).2.2);have:=h.n_;rw[h.len_] at h2;rw[h.A8];omega
theorem iB.none (h:iB r n) (h0:r.len=0) (k i:Int): ¬Has r k i:=by
 rintro⟨h1,h2,h3⟩;have:=WQ r.buckets (k%256).toNat (by rw[h.len_];omega)
 rw[<-h.A8,h0,show(((k%256).toNat:Nat):Int)=k%256 by omega] at this
 have:=List.length_pos_iff.2 (List.ne_nil_of_mem h3);omega
theorem iB.some (h:iB r n) (h0:r.len≠0): ∃k i,Has r k i:=by
 have:=h.Ce;obtain⟨j,j1,j2⟩:=WS r.buckets (by rw[<-h.A8];omega)
 obtain⟨i,hi⟩:=List.exists_mem_of_ne_nil _ j2;rw[h.len_] at j1;have ha:=h.at_;refine⟨r.a_+(j-r.a_%256)%256,i,by omega,by omega,?_⟩
 rw[show(r.a_+(j-r.a_%256)%256)%256=(j:Int) by omega];exact hi
theorem ahn: ∃r,vI.f 0=some (some r)/\r.a_=0/\iB r 0/\ ∀k i,¬Has r k i:=by
 refine⟨_,J,J,⟨List.length_replicate ..,⟨Int.le_refl _,by decide⟩,λb hb=>?_,?_,by omega⟩,λk i=>?_⟩
 ·rw[List.mem_replicate] at hb;rw[hb.2];exact⟨Int.le_refl _,Int.le_refl _,Nat.le_refl _⟩
 ·have: ∀n,j7 (List.replicate n (default:jM))=0:=λn=>by
   induction n with
   |zero=>rfl
   |succ n ih=>rw[List.replicate_succ,j7,ih];rfl
  rw[this]
 ·rintro⟨_,_,h3⟩;rw[vD U U] at h3;have:kz (default:jM)=[]:=rfl;rw[this] at h3;simp at h3
theorem V0 {b:jM} {j:Int} {l:Int} (h:iB r n) {n':Nat} (hn:n<=n') (F5:n'<=1000000000) (j0:0<=j) (j1:j<256) (hb:0<=b.gone/\b.gone<=b.items.length/\b.items.length<=n') {a:Int} (ha:0<=a/\a<=8796093022208)
 (hl:l=r.len-(kz (rd r.buckets j)).length+(kz b).length):iB ⟨a,l,List.set r.buckets j.toNat b⟩ n':=by
 refine⟨by simp[h.len_],ha,λc hc=>?_,?_,F5⟩
 ·rcases List.mem_or_eq_of_mem_set hc with z |rfl
  ·have:=h.gone c z;omega
  ·exact hb
 ·simp only;rw[WT _ _ _ (by rw[h.len_];omega),hl,h.A8,show((j.toNat:Nat):Int)=j by omega]
theorem V8 (h:iB r n) (hn:n<1000000000) {key:Int} (k1:key<=8796093022208) (k0:0<=key) (i:Int):
 Ok (sV.f r key i) (λx=>x.2.a_=r.a_/\iB x.2 (n+1)/\((x.1=true/\r.a_<=key/\key<r.a_+256/\x.2.len=r.len+1/\ ∀k j,Has x.2 k j↔Has r k j∨(k=key/\j=i))∨(x.1=false/\(key<r.a_∨r.a_+256<=key)/\x.2=r))):=by
 have ha:=h.at_;have hl:=h.Ce;unfold sV.f;have e:(if key<r.a_ then some true else some (decide (aa (key-r.a_)≥256)))=some (decide (key<r.a_∨r.a_+256<=key)):=by
  rw[wi U U]
  by_cases z:key<r.a_
  ·simp[z]
  ·simp only[z,if_false,false_or];congr 2;rw[eq_iff_iff];constructor<;>intro<;>omega
 have hs:iB r (n+1):=⟨h.len_,h.at_,λb hb=>by have:=h.gone b hb;omega,h.A8,by omega⟩
 refine Ok.eq e (Ok.ite (λz=>Ok.pure ⟨J,hs,.inr ⟨J,of_decide_eq_true z,J⟩⟩) λz=>?_);have z: ¬(key<r.a_∨r.a_+256<=key):=by simpa using z
 rw[mM k0];have hb:=h.gone (rd r.buckets (key%256)) (dN U (by rw[h.len_];omega))
 refine Ok.cx (by rw[h.len_];omega) ?_
 unfold zh.f;rw[af U];have hp:kz ⟨(rd r.buckets (key%256)).items++[i],(rd r.buckets (key%256)).gone⟩=kz (rd r.buckets (key%256))++[i]:=by
  unfold kz;simp only;rw[List.drop_append_of_le_length U]
 refine Ok.pure ⟨J,V0 (b:=⟨(rd r.buckets (key%256)).items++[i],(rd r.buckets (key%256)).gone⟩) h (Nat.le_succ n) U U U ⟨hb.1,by simp;omega,by simp;omega⟩ ha ?_,.inl ⟨J,by omega,by omega,?_,λk j=>?_⟩⟩
 ·rw[wi U U,hp];simp;omega
 ·simp only;rw[wi U U]
 ·unfold Has;simp only;rw[kV U (by rw[h.len_];omega) U]
  by_cases y:k%256=key%256
  ·rw[af y,hp,y];constructor
   ·rintro⟨a,b,c⟩;rcases List.mem_append.1 c with c |c
    ·exact .inl ⟨a,b,c⟩
    ·exact .inr ⟨by omega,by simpa using c⟩
   ·rintro(⟨a,b,c⟩ |⟨rfl,rfl⟩)
    ·exact⟨a,b,List.mem_append_left _ c⟩
    ·exact⟨by omega,by omega,by simp⟩
  ·rw[ah y];constructor
   ·exact .inl
   ·rintro(q |⟨rfl,_⟩)
    ·exact q
    ·exact absurd J y
theorem agB: ∀(m k:Nat) (r:eB) (x y:Int),(x-r.a_).toNat<=m->m<k->iB r n->x<=8796093022208->Has r x y->
 Ok (ot.l0 k r) (λq=>iB q n/\q.buckets=r.buckets/\q.len=r.len/\r.a_<=q.a_/\kz (rd q.buckets (q.a_%256))≠[]/\ ∀a b,Has q a b↔Has r a b):=by
 intro m
 induction m with
 |zero=>
  intro k r x y hm hk h hx hy;obtain⟨k,rfl⟩:=bh hk;have ha:=h.at_;have pS:x=r.a_:=by have:=hy.1;omega
  subst pS;rw[ot.l0,mM ha.1];unfold xz.f;have bH:=List.ne_nil_of_mem hy.2.2;refine Ok.cx (by rw[h.len_];omega) (Ok.neg ?_ (Ok.pure ⟨h,J,J,by omega,bH,λ_ _=>Iff.rfl⟩))
  intro z;have z:(rd r.buckets (r.a_%256)).gone=(rd r.buckets (r.a_%256)).items.length:=by simpa using z
  exact bH (by unfold kz;rw[z];simp)
 |succ m ih=>
  intro k r x y hm hk h hx hy;obtain⟨k,rfl⟩:=bh hk;have ha:=h.at_;rw[ot.l0,mM ha.1];unfold xz.f;have tR:=h.gone (rd r.buckets (r.a_%256)) (dN U (by rw[h.len_];omega))
  refine Ok.cx (by rw[h.len_];omega) (Ok.ite (λz=>?_) λz=>Ok.pure ⟨h,J,J,by omega,λq=>?_,λ_ _=>Iff.rfl⟩)
  ·have z:(rd r.buckets (r.a_%256)).gone=(rd r.buckets (r.a_%256)).items.length:=by simpa using z
   have hp:kz (rd r.buckets (r.a_%256))=[]:=by unfold kz;rw[z];simp
   have bH:x≠r.a_:=by rintro rfl;have:=hy.2.2;rw[hp] at this;simp at this
   have:=hy.1;rw[wi U U];have hh: ∀a b,Has ⟨r.a_+1,r.len,r.buckets⟩ a b↔Has r a b:=λa b=>by
    unfold Has;simp only;constructor
    ·rintro⟨q1,q2,q3⟩;refine⟨by omega,?_,q3⟩
     apply Classical.byContradiction;intro q;have:a%256=r.a_%256:=U;rw[this,hp] at q3;simp at q3
    ·rintro⟨q1,q2,q3⟩;refine⟨?_,by omega,q3⟩
     apply Classical.byContradiction;intro q;have:a=r.a_:=U;rw[this,hp] at q3;simp at q3
   refine(ih k ⟨r.a_+1,r.len,r.buckets⟩ x y (by simp only;omega) U ⟨h.len_,by simp only;omega,h.gone,h.A8,h.n_⟩ hx ((hh x y).2 hy)).mono λq hq=>⟨hq.1,hq.2.1,hq.2.2.1,by have:=hq.2.2.2.1;simp only at this;omega,hq.2.2.2.2.1,λa b=>(hq.2.2.2.2.2 a b).trans (hh a b)⟩
  ·unfold kz at q;rw[List.drop_eq_nil_iff] at q;exact z bl
theorem aht (h:iB r n) {x y:Int} (hx:x<=8796093022208) (hy:Has r x y):
 Ok (ot.f r) (λq=>q.2.2.1=true/\iB q.2.2.2 n/\q.2.2.2.a_=q.1/\q.2.2.2.len=r.len-1/\Has r q.1 q.2.1/\(∀a b,Has r a b->q.1<=a)/\(∀a b,Has q.2.2.2 a b->Has r a b)/\ ∀a b,Has r a b->(a=q.1/\b=q.2.1)∨Has q.2.2.2 a b):=by
 unfold ot.f vJ.f;have hl:=h.Ce;have Al:r.len≠0:=λz=>h.none z x y hy
 refine Ok.eq J (Ok.neg (by simpa using Al) ((agB (x-r.a_).toNat fuel r x y U (by rw[cH];have:=h.at_;omega) h hx hy).bind λq hq=>?_))
 obtain⟨h1,h2,h3,h4,h5,h6⟩:=hq;have ha:=h1.at_;rw[mM ha.1];have hb:=h1.gone (rd q.buckets (q.a_%256)) (dN U (by rw[h1.len_];omega))
 refine Ok.cx (by rw[h1.len_];omega) ?_
 generalize hB:rd q.buckets (q.a_%256)=B at hb h5;have hg:B.gone<B.items.length:=by
  apply Classical.byContradiction;intro z;exact h5 (by unfold kz;rw[List.drop_eq_nil_iff];omega)
 have JJ:kz B=rd B.items B.gone::B.items.drop (B.gone+1).toNat:=by unfold kz;rw[BH hb.1 hg]
 have hn:=h1.n_;have aei: ∃B',rL.f B=some (rd B.items B.gone,B')/\kz B'=B.items.drop (B.gone+1).toNat/\0<=B'.gone/\B'.gone<=B'.items.length/\B'.items.length<=n:=by
  unfold rL.f xz.f;rw[af ⟨hb.1,hg⟩,wi U U];simp only[aK]
  by_cases z:B.gone+1=B.items.length
  ·rw[af (by simpa using z),af U]
   exact⟨_,J,by unfold kz aA;simp;omega,Int.le_refl _,by simp,by simp[aA]⟩
  ·rw[ah (by simpa using z)]
   exact⟨_,J,J,by simp only;omega,by simp only;omega,hb.2.2⟩
 obtain⟨B',e1,e2,e3⟩:=aei;have hR:iB ⟨q.a_,aa (q.len-1),List.set q.buckets (Int.toNat (q.a_%256)) B'⟩ n:=by
  refine V0 h1 (Nat.le_refl _) hn U U e3 ha ?_;rw[wi U U,hB,JJ,e2];simp;omega
 have abF:Has r q.a_ (rd B.items B.gone):=(h6 _ _).1 ⟨by omega,by omega,by rw[hB,JJ];simp⟩
 have dI: ∀a:Int,rd (List.set q.buckets (Int.toNat (q.a_%256)) B') (a%256)=if a%256=q.a_%256 then B' else rd q.buckets (a%256):=λa=>kV U (by rw[h1.len_];omega) U
 refine Ok.eq e1 (Ok.pure ⟨J,hR,J,by simp only;rw[wi U U,h3],abF,λa b u6=>((h6 a b).2 u6).1,λa b u6=>?_,λa b u6=>?_⟩)
 ·obtain⟨q1,q2,q3⟩:=u6;simp only at q1 q2 q3;rw[dI] at q3;refine(h6 a b).1 ⟨q1,q2,?_⟩;split at q3
  ·rename_i z;rw[z,hB,JJ];rw[e2] at q3;exact List.mem_cons_of_mem _ q3
  ·exact q3
 ·obtain⟨q1,q2,q3⟩:=(h6 a b).2 u6
  by_cases z:a%256=q.a_%256
  ·have:a=q.a_:=U;subst this;rw[hB,JJ] at q3;rcases List.mem_cons.1 q3 with y |y
   ·exact .inl ⟨J,y⟩
   ·exact .inr ⟨q1,q2,by simp only;rw[dI,af J,e2];exact y⟩
  ·exact .inr ⟨q1,q2,by simp only;rw[dI,ah z];exact q3⟩
theorem aeK (h:iB r n) {key:Int} (k0:0<=key) (k1:key<=1099511627776) (h0:r.len=0):
 Ok (xy.f r key) (λx=>iB x.2 n/\x.2.len=0/\x.2.a_=if key<r.a_ then r.a_ else key):=by
 unfold xy.f;rw[ah U];refine Ok.eq J (Ok.ite (λz=>Ok.pure ⟨h,h0,?_⟩) λz=>Ok.pure ⟨⟨h.len_,by simp only;omega,h.gone,h.A8,h.n_⟩,h0,?_⟩)
 ·simp at z;rw[af U]
 ·simp at z;rw[ah U]
theorem Lw {n:Int} (h0:0<=n) (h1:n<4294967296):((BitVec.toNat (BitVec.ofInt (IntKind.bits .u64) n&&&BitVec.ofInt (IntKind.bits .u64) 4294967295):Nat):Int)=n:=by
 obtain⟨k,rfl⟩: ∃k:Nat,n=(k:Int):=⟨n.toNat,by omega⟩
 have e1:(BitVec.ofInt (IntKind.bits .u64) (k:Int)).toNat=k:=by
  show(BitVec.ofInt 64 (k:Int)).toNat=k
  rw[BitVec.toNat_ofInt];omega
 have e2:(BitVec.ofInt (IntKind.bits .u64) 4294967295).toNat=2^32-1:=by rfl
 rw[BitVec.toNat_and,e1,e2,Nat.and_two_pow_sub_one_eq_mod];omega
theorem qT {x:Int} (h1:0<=x) (h2:x<=18446744073709551615):eF x=x:=by
 unfold eF IntKind.wrap IntKind.signed IntKind.bits;simp;omega
theorem afR {n:Int} (h0:0<=n) (h1:n<4294967296):sJ.f 1 n=some (0,n):=by
 unfold sJ.f Cg.f;have a1:Int.fdiv 1 (2^32)=0:=by rfl
 have a2:Int.fdiv n (2^32)=0:=by rw[Int.fdiv_eq_ediv_of_nonneg _ U];omega
 have a3:((BitVec.toNat (BitVec.ofInt (IntKind.bits .u64) 1&&&BitVec.ofInt (IntKind.bits .u64) 4294967295):Nat):Int)=1:=Lw U U;have a4:=Lw h0 h1;have w0:eF 0=0:=qT U U;have w1:eF 1=1:=qT U U;have wn:eF n=n:=qT h0 U;have a5:((BitVec.toNat (BitVec.ofInt (IntKind.bits .u64) 0&&&BitVec.ofInt (IntKind.bits .u64) 4294967295):Nat):Int)=0:=Lw U U;have f0:Int.fdiv 0 (2^32)=0:=by rfl
 simp only[a1,a2,a3,a4,Int.zero_mul,Int.mul_zero,Int.one_mul,w0,w1,wn,Int.zero_add,a2,a5,f0,aK]
theorem ahi {v:Int}: ∀(n k:Nat) (x:List Int) (i:Int),i+n≥x.length->1<=i->(x.length:Int)<=1000000000->n<k->(∀j:Int,0<=j->j<i->j<x.length->rd x j=v)->
 j6.l0 k x i=some (List.replicate x.length v):=by
 intro n
 induction n with
 |zero=>
  intro k x i hi h1 hb hk hx;obtain⟨k,rfl⟩:=bh hk;rw[j6.l0,ah U]
  congr 1
  apply G2 bk;intro j j0 j1;rw[hx j j0 U j1,vD j0 U]
 |succ n ih=>
  intro k x i hi h1 hb hk hx;obtain⟨k,rfl⟩:=bh hk
  by_cases hq:i<x.length
  ·have s1:(aA x 0 i).length=i.toNat:=by rw[iJ U];omega
   have s2:(aA x i (x.length:Int)).length=(x.length-i.toNat):=by rw[iJ U];omega
   rw[j6.l0,af hq,af U,af U,s1,s2];have hlen:(cj x i.toNat (min i.toNat (x.length-i.toNat)) (aA x 0 i)).length=x.length:=zY U (by rw[s1];omega)
   rw[bj U U];have:=ih k (cj x i.toNat (min i.toNat (x.length-i.toNat)) (aA x 0 i)) (i+((min i.toNat (x.length-i.toNat):Nat):Int)) (by rw[hlen];omega) U (by rw[hlen];omega) U (λj j0 j1 j2=>?_)
   ·rw[this,hlen]
   ·rw[hlen] at j2;unfold cj
    by_cases vg:j<i
    ·rw[zd j0 (by rw[List.length_take];omega)]
     have:rd (x.take i.toNat) j=rd x j:=by
      unfold rd;simp[List.getD,List.getElem?_take,show j.toNat<i.toNat by omega]
     rw[this];exact hx j j0 vg U
    ·rw[mH (by rw[List.length_take];omega),List.length_take,show((min i.toNat x.length:Nat):Int)=i by omega]
     rw[zd U (by rw[List.length_take,s1];omega)]
     have:rd ((aA x 0 i).take (min i.toNat (x.length-i.toNat))) (j-i)=rd x (j-i):=by
      unfold rd aA;simp[List.getD,List.getElem?_take,show(j-i).toNat<i.toNat by omega,show(j-i).toNat<x.length-i.toNat by omega]
      rw[af U]
     rw[this];exact hx (j-i) U U U
  ·rw[j6.l0,ah hq]
   congr 1
   apply G2 bk;intro j j0 j1;rw[hx j j0 U j1,vD j0 U]
theorem VZ {v:Int} {n:Nat} (h0:1<=n) (h1:n<=1000000000):j6.f [v] (n:Int)=some (List.replicate n v):=by
 unfold j6.f;have e1:eF (([v]:List Int).length:Int)=1:=by rw[show(([v]:List Int).length:Int)=1 from rfl];exact qT U U
 rw[ah U,e1,qT (x:=(n:Int)) U U,afR U U,aK];simp only;rw[ah bl,bj U U,af U,Int.toNat_natCast];have e2:min ([v]:List Int).length (List.replicate n (0:Int)).length=1:=by rw[List.length_replicate];simp;omega
 rw[e2];have e3:cj (List.replicate n (0:Int)) 0 1 [v]=v::List.replicate (n-1) 0:=by
  unfold cj;simp
 have hl:(v::List.replicate (n-1) (0:Int)).length=n:=by simp;omega
 rw[e3,ahi (v:=v) n fuel _ ((1:Nat):Int) U U U (by rw[cH];omega) (λj j0 j1 _=>by
  rw[show j=0 by omega];rfl),hl]
 rfl
theorem ahh: ∀(k:Nat) (x:List Int) (i:Int),px.l0 k x i=j6.l0 k x i:=by
 intro k
 induction k with
 |zero=>intros;rfl
 |succ k ih=>intro x i;rw[px.l0,j6.l0];simp only[ih]
theorem ahk {v:Int} {n:Nat} (h0:1<=n) (h1:n<=1000000000):px.f [v] (n:Int)=some (List.replicate n v):=by
 rw[<-VZ h0 h1];unfold px.f j6.f;simp only[ahh]
def zP (w h c:Int):Nat->Int->Bool
 |0,_=>false
 |n+1,j=>decide (0<=fQ w h c j)||zP w h c n (j+1)
def CK (w h s l:Int):Bool:=zP w h (de w h s l) 4 0
def vM (w h s:Int) (n:Nat):List Int:=((List.range n).filter (λl:Nat=>CK w h s (l:Int))).map (λl:Nat=>de w h s (l:Int))
def qJ (w h s:Int):List Int:=vM w h s ((ax w h s).1*(ax w h s).2).toNat
theorem aac (w h s:Int) (n:Nat):vM w h s (n+1)=if CK w h s (n:Int)=true then vM w h s n++[de w h s (n:Int)] else vM w h s n:=by
 unfold vM;rw[List.range_succ,List.filter_append,List.map_append]
 by_cases h:CK w h s (n:Int)=true
 ·rw[af h];simp[h]
 ·rw[ah h];simp[h]
theorem QI (w h s:Int) (n:Nat):(vM w h s n).length<=n:=by
 unfold vM;rw[List.length_map];have:=List.length_filter_le (λl:Nat=>CK w h s (l:Int)) (List.range n);simpa using this
theorem zq (w h s:Int):0<=(ax w h s).1*(ax w h s).2/\(ax w h s).1*(ax w h s).2<=256:=by
 have hz:=size_le w h s;have:(ax w h s).1*(ax w h s).2<=16*16:=kt hz.1 hz.2.2.1 hz.2.1 hz.2.2.2;exact⟨nu hz.1 hz.2.2.1,by omega⟩
theorem O1 {w h s l:Int} (h0:0<=l) (h1:l<(ax w h s).1*(ax w h s).2):bG w h s:=by
 by_cases hs:bG w h s
 ·exact hs
 ·have:ax w h s=(0,0):=by unfold ax;rw[ah hs]
  rw[this] at h1;simp at h1;omega
def vP (tw th side i:Int):Int:=if side=2 then(th-1)*tw+i else if side=0 then i else if side=1 then tw-1+i*tw else i*tw
def pX (tw th side:Int):Int:=if side=2∨side=0 then tw else if side=1∨side=3 then th else 0
def pW (tw th side:Int) (n:Nat):List Int:=(List.range n).map (λi:Nat=>vP tw th side (i:Int))
def rM (tw th side:Int):List Int:=pW tw th side (pX tw th side).toNat
theorem IA (tw th side:Int) (n:Nat):pW tw th side (n+1)=pW tw th side n++[vP tw th side (n:Int)]:=by
 unfold pW;rw[List.range_succ,List.map_append];rfl
theorem E9 (tw th side:Int) (n:Nat):(pW tw th side n).length=n:=by simp[pW]
theorem X4 {tw th:Int} (side:Int) (t0:0<=tw) (t1:tw<=16) (u0:0<=th) (u1:th<=16):fe.f tw th side=some (rM tw th side):=by
 unfold fe.f rM;have hb: ∀i:Int,0<=i->i<=16->0<=i*tw/\i*tw<=256:=λi i0 i1=>⟨nu i0 t0,by have:=kt i0 t0 i1 t1;omega⟩
 by_cases h2:side=2
 ·subst h2;rw[af (by rfl)]
  have FU: -16<=(th-1)*tw/\(th-1)*tw<=256:=by
   have:=hb th u0 u1;rw[Int.sub_mul,Int.one_mul];omega
  have key: ∀(n k:Nat) (i:Int),i+n=tw->0<=i->n<k->fe.l0 k tw th (pW tw th 2 i.toNat) i=some (pW tw th 2 tw.toNat):=by
   intro n
   induction n with
   |zero=>
    intro k i hi h0 hk;obtain⟨k,rfl⟩:=bh hk;rw[fe.l0,ah U];rw[show i=tw by omega]
   |succ n ih=>
    intro k i hi h0 hk;obtain⟨k,rfl⟩:=bh hk;rw[fe.l0,af U,af (by rw[E9];omega),bj (x:=th-1) U U,bj (x:=(th-1)*tw) U U,bj U U,bj U U]
    have:=ih k (i+1) U U U;rw[show(i+1).toNat=i.toNat+1 by omega,IA,show((i.toNat:Nat):Int)=i by omega] at this
    exact this
  exact key tw.toNat fuel 0 U U (by rw[cH];omega)
 rw[ah (by simpa using h2)]
 by_cases h0:side=0
 ·subst h0;rw[af (by rfl)]
  have key: ∀(n k:Nat) (i:Int),i+n=tw->0<=i->n<k->fe.l1 k tw (pW tw th 0 i.toNat) i=some (pW tw th 0 tw.toNat):=by
   intro n
   induction n with
   |zero=>
    intro k i hi h0 hk;obtain⟨k,rfl⟩:=bh hk;rw[fe.l1,ah U];rw[show i=tw by omega]
   |succ n ih=>
    intro k i hi h0 hk;obtain⟨k,rfl⟩:=bh hk;rw[fe.l1,af U,af (by rw[E9];omega),bj U U,bj U U,Int.zero_add]
    have:=ih k (i+1) U U U;rw[show(i+1).toNat=i.toNat+1 by omega,IA,show((i.toNat:Nat):Int)=i by omega] at this
    exact this
  exact key tw.toNat fuel 0 U U (by rw[cH];omega)
 rw[ah (by simpa using h0)]
 by_cases h1:side=1
 ·subst h1;rw[af (by rfl)]
  have key: ∀(n k:Nat) (i:Int),i+n=th->0<=i->n<k->fe.l2 k tw th (pW tw th 1 i.toNat) i=some (pW tw th 1 th.toNat):=by
   intro n
   induction n with
   |zero=>
    intro k i hi h0 hk;obtain⟨k,rfl⟩:=bh hk;rw[fe.l2,ah U];rw[show i=th by omega]
   |succ n ih=>
    intro k i hi h0 hk;obtain⟨k,rfl⟩:=bh hk;have:=hb i U U;rw[fe.l2,af U,af (by rw[E9];omega),bj (x:=tw-1) U U,bj (x:=i*tw) U U,bj U U,bj U U]
    have:=ih k (i+1) U U U;rw[show(i+1).toNat=i.toNat+1 by omega,IA,show((i.toNat:Nat):Int)=i by omega] at this
    exact this
  exact key th.toNat fuel 0 U U (by rw[cH];omega)
 rw[ah (by simpa using h1)]
 by_cases h3:side=3
 ·subst h3;rw[af (by rfl)]
  have key: ∀(n k:Nat) (i:Int),i+n=th->0<=i->n<k->fe.l3 k tw th (pW tw th 3 i.toNat) i=some (pW tw th 3 th.toNat):=by
   intro n
   induction n with
   |zero=>
    intro k i hi h0 hk;obtain⟨k,rfl⟩:=bh hk;rw[fe.l3,ah U];rw[show i=th by omega]
   |succ n ih=>
    intro k i hi h0 hk;obtain⟨k,rfl⟩:=bh hk;have:=hb i U U;rw[fe.l3,af U,af (by rw[E9];omega),bj (x:=i*tw) U U,Int.zero_add,bj U U,bj U U]
    have:=ih k (i+1) U U U;rw[show(i+1).toNat=i.toNat+1 by omega,IA,show((i.toNat:Nat):Int)=i by omega] at this
    exact this
  exact key th.toNat fuel 0 U U (by rw[cH];omega)
 rw[ah (by simpa using h3)]
 have:pX tw th side=0:=by unfold pX;rw[ah U,ah U]
 rw[this];rfl
theorem agC {tw th side i:Int} (t0:1<=tw) (u0:1<=th) (i0:0<=i) (i1:i<pX tw th side):0<=vP tw th side i/\vP tw th side i<tw*th/\uj tw th (vP tw th side i) side:=by
 have hb: ∀j:Int,0<=j->j<=th-1->0<=j*tw/\j*tw+tw<=tw*th:=λj j0 j1=>⟨nu j0 U,by
  have:=Int.mul_le_mul_of_nonneg_right j1 (by omega:0<=tw)
  rw[Int.sub_mul,Int.one_mul,Int.mul_comm th] at this;omega⟩
 unfold pX at i1;unfold vP uj
 by_cases h2:side=2
 ·subst h2;rw[af (Or.inl J)] at i1;simp only[if_true];have:=hb (th-1) U U;have q:=qD (y:=th-1) i0 i1;simp only[show ¬((2:Int)=0) by omega,show ¬((2:Int)=1) by omega,if_false]
  exact⟨by omega,by omega,q.2⟩
 by_cases h0:side=0
 ·subst h0;rw[af (Or.inr J)] at i1;have:=hb 0 U U;simp only[if_true,show ¬((0:Int)=2) by omega,if_false]
  exact⟨i0,by omega,Int.ediv_eq_zero_of_lt i0 i1⟩
 by_cases h1:side=1
 ·subst h1;rw[ah U,af (Or.inl J)] at i1;simp only[show ¬((1:Int)=2) by omega,show ¬((1:Int)=0) by omega,if_false,if_true]
  have:=hb i U U;have q:=qD (a:=tw) (x:=tw-1) (y:=i) U U;rw[Int.add_comm];exact⟨by omega,by omega,q.1⟩
 ·rw[ah U] at i1
  by_cases h3:side=3
  ·subst h3;rw[af (Or.inr J)] at i1;have:=hb i U U;simp only[show ¬((3:Int)=2) by omega,show ¬((3:Int)=0) by omega,show ¬((3:Int)=1) by omega,if_false]
   exact⟨by omega,by omega,Int.mul_emod_left _ _⟩
  ·rw[ah U] at i1;omega
theorem afB {tw th side l:Int} (t0:1<=tw) (u0:1<=th) (s0:0<=side) (s3:side<=3):l∈rM tw th side↔0<=l/\l<tw*th/\uj tw th l side:=by
 constructor
 ·intro hm;unfold rM pW at hm;obtain⟨i,hi,rfl⟩:=List.mem_map.mp hm;have rD:=List.mem_range.mp hi;exact agC t0 u0 U U
 ·rintro⟨l0,l1,yK⟩;have a1:0<=l%tw:=Int.emod_nonneg _ U;have a2:l%tw<tw:=Int.emod_lt_of_pos _ U;have a3:0<=l/tw:=Int.ediv_nonneg l0 U;have a4:l/tw<th:=Int.ediv_lt_of_lt_mul U (by rw[Int.mul_comm];exact l1)
  have a5:=Int.mul_ediv_add_emod l tw;rw[Int.mul_comm] at a5;have hc:side=0∨side=1∨side=2∨side=3:=U;have go: ∀i:Int,0<=i->i<pX tw th side->vP tw th side i=l->l∈rM tw th side:=λi i0 i1 e=>by
   unfold rM pW;exact List.mem_map.mpr ⟨i.toNat,List.mem_range.mpr U,by rw[show((i.toNat:Nat):Int)=i by omega];exact e⟩
  unfold uj at yK;rcases hc with rfl |rfl |rfl |rfl
  ·simp only[if_true] at yK;exact go (l%tw) a1 a2 (by unfold vP;rw[yK] at a5;simp;omega)
  ·simp at yK;exact go (l/tw) a3 a4 (by unfold vP;rw[yK] at a5;simp;omega)
  ·simp at yK;exact go (l%tw) a1 a2 (by unfold vP;rw[yK] at a5;simp;omega)
  ·simp at yK;exact go (l/tw) a3 a4 (by unfold vP;rw[yK] at a5;simp;omega)
theorem aag (v:List Int) (hv:v.length<=1000) (N:Int) (cu: ∀y∈v,0<=y/\y<N): ∀(n k:Nat) (i:Int) (x:List Bool),i+n=v.length->0<=i->n<k->(x.length:Int)=N->
 ∃x',gx.l1 k v x i=some x'/\(x'.length:Int)=N/\ ∀l:Int,0<=l->l<N->rd x' l=(rd x l||decide (l∈v.drop i.toNat)):=by
 intro n
 induction n with
 |zero=>
  intro k i x hi h0 hk hx;obtain⟨k,rfl⟩:=bh hk;refine⟨x,by rw[gx.l1,ah U],hx,λl l0 l1=>?_⟩
  rw[List.drop_of_length_le U];simp
 |succ n ih=>
  intro k i x hi h0 hk hx;obtain⟨k,rfl⟩:=bh hk;have hy:=cu _ (dN h0 (by omega:i<(v.length:Int)))
  obtain⟨x',e,hl,hr⟩:=ih k (i+1) (List.set x (Int.toNat (rd v i)) true) U U U (by simpa using hx)
  refine⟨x',by rw[gx.l1,af U,af U,af U,bj U U];exact e,hl,λl l0 l1=>?_⟩
  rw[hr l l0 l1,kV hy.1 U l0,BH h0 U]
  by_cases hq:l=rd v i
  ·rw[af hq,hq];simp
  ·rw[ah hq];simp[hq]
theorem aah (w h s:Int) (x:List Bool) (hx:(x.length:Int)=(ax w h s).1*(ax w h s).2) (hr: ∀l:Int,0<=l->l<x.length->rd x l=CK w h s l): ∀(n k:Nat) (i:Int),i+n=x.length->0<=i->n<k->
 gx.l2 k w h s x (vM w h s i.toNat) i=some (qJ w h s):=by
 have hz:=zq w h s;intro n
 induction n with
 |zero=>
  intro k i hi h0 hk;obtain⟨k,rfl⟩:=bh hk;rw[gx.l2,ah U];unfold qJ;rw[show i=(ax w h s).1*(ax w h s).2 by omega]
 |succ n ih=>
  intro k i hi h0 hk;obtain⟨k,rfl⟩:=bh hk;have hle:=QI w h s i.toNat;have:=ih k (i+1) U U U;rw[show(i+1).toNat=i.toNat+1 by omega,aac,show((i.toNat:Nat):Int)=i by omega] at this
  rw[gx.l2,af U,af U,hr i h0 U,bj U U]
  by_cases hb:CK w h s i=true
  ·rw[af hb] at this;rw[af hb,I',aK,af U];exact this
  ·rw[ah hb] at this;rw[ah hb];exact this
theorem Wq {j:Int} (h0:0<=j) (h3:j<=3):rd ([rd ([0,1,2,3]:List Int) 0,rd ([0,1,2,3]:List Int) 1,rd ([0,1,2,3]:List Int) 2,rd ([0,1,2,3]:List Int) 3]:List Int) j=j:=by
 have:j=0∨j=1∨j=2∨j=3:=U;rcases this with rfl |rfl |rfl |rfl<;>rfl
theorem PY (w h c:Int): ∀(n:Nat) (j:Int),zP w h c (n+1) j=(zP w h c n j||decide (0<=fQ w h c (j+n))):=by
 intro n
 induction n with
 |zero=>intro j;simp[zP]
 |succ n ih=>
  intro j;rw[zP,ih (j+1),zP,Bool.or_assoc];rw[show j+1+(n:Int)=j+((n+1:Nat):Int) by omega]
theorem aaf (w h s:Int): ∀(n k:Nat) (j:Int) (x:List Bool),j+n=4->0<=j->n<k->(x.length:Int)=(ax w h s).1*(ax w h s).2->
 (∀l:Int,0<=l->l<x.length->rd x l=zP w h (de w h s l) j.toNat 0)->
 gx.l0 k w h s (ax w h s) [0,1,2,3] x j=some (qJ w h s):=by
 have hz:=zq w h s;have Au:=size_le w h s;intro n
 induction n with
 |zero=>
  intro k j x hj h0 hk hx hr;obtain⟨k,rfl⟩:=bh hk;rw[gx.l0,ah U];have e:j.toNat=4:=U;rw[e] at hr;exact aah w h s x hx hr x.length fuel 0 U U (by rw[cH];omega)
 |succ n ih=>
  intro k j x hj h0 hk hx hr;obtain⟨k,rfl⟩:=bh hk;rw[gx.l0,af U,Wq h0 U,X4 j Au.1 Au.2.1 Au.2.2.1 Au.2.2.2,af bl,bj U U];rw[aK]
  by_cases hs:bG w h s
  ·have JT:=p7 hs;have hlen:((rM (ax w h s).1 (ax w h s).2 j).length:Int)=pX (ax w h s).1 (ax w h s).2 j:=by
    unfold rM;rw[E9];unfold pX;split
    ·omega
    ·split<;>omega
   have hlp:1<=pX (ax w h s).1 (ax w h s).2 j/\pX (ax w h s).1 (ax w h s).2 j<=16:=by
    unfold pX;split
    ·omega
    ·rw[af U];omega
   have jg:=λl=>afB (l:=l) JT.1 JT.2.2.1 h0 (by omega:j<=3)
   have h0m:=dN (a:=rM (ax w h s).1 (ax w h s).2 j) (i:=0) U U;obtain⟨f0,f1,f2⟩:=(jg _).mp h0m;rw[ah (by rw[beq_iff_eq];omega),af U,I',aK,U9,aK,aK]
   have vi:=Kl hs f0 f1 h0 (by omega:j<=3)
   by_cases hn:fQ w h (de w h s (rd (rM (ax w h s).1 (ax w h s).2 j) 0)) j<0
   ·have bH: ¬AQ w h s j:=λq=>by have:=vi.mpr ⟨q,f2⟩;omega
    rw[af (by simpa using hn),aK]
    refine ih k (j+1) x U U U hx (λl l0 l1=>?_);rw[hr l l0 l1,show(j+1).toNat=j.toNat+1 by omega,PY,Int.zero_add,show((j.toNat:Nat):Int)=j by omega]
    rw[decide_eq_false (λq=>bH ((Kl hs l0 U h0 (by omega:j<=3)).mp q).1)];simp
   ·have hed:AQ w h s j:=(vi.mp U).1;obtain⟨x',e,hl,hq⟩:=aag (rM (ax w h s).1 (ax w h s).2 j) U _ (λy hy=>⟨((jg y).mp hy).1,((jg y).mp hy).2.1⟩) (rM (ax w h s).1 (ax w h s).2 j).length fuel 0 x U U (by rw[cH];omega) hx
    rw[ah (by simpa using hn),e,aK]
    refine ih k (j+1) x' U U U hl (λl l0 l1=>?_);rw[hq l l0 U,hr l l0 U,show(j+1).toNat=j.toNat+1 by omega,PY,Int.zero_add,show((j.toNat:Nat):Int)=j by omega]
    congr 1
    simp only[Int.toNat_zero,List.drop_zero,decide_eq_decide];rw[jg,Kl hs l0 U h0 (by omega:j<=3)]
    exact⟨λq=>⟨hed,q.2.2⟩,λq=>⟨l0,by omega,q.2⟩⟩
  ·have e0:ax w h s=(0,0):=by unfold ax;rw[ah hs]
   have e1:rM (ax w h s).1 (ax w h s).2 j=[]:=by
    unfold rM;rw[e0];have:pX (0,0).1 (0,0).2 j=0:=by unfold pX;split<;>simp
    rw[this];rfl
   rw[e1,af bk,aK,af J,aK];refine ih k (j+1) x U U U hx (λl l0 l1=>?_);rw[e0] at hx;simp at hx;subst hx;simp at l1;omega
theorem aad (w h s:Int):gx.f w h s=some (qJ w h s):=by
 unfold gx.f;have hz:=zq w h s;have e:yr.f=some [0,1,2,3]:=rfl;rw[Hk,aK,bj (x:=_*_) U U,af U,e,aK];refine aaf w h s 4 fuel 0 _ U U (by rw[cH];omega) bl (λl l0 l1=>?_)
 rw[vD l0 (by simpa using l1)];rfl
abbrev tA (m:aJ):Prop:=iA m.W m.H/\(m.C.length:Int)=m.W*m.H/\0∉m.C
theorem Qh (m:aJ) (hb:m.C.length<4611686018427387904):ym.f m=some (decide (tA m)):=by
 unfold ym.f;rw[AA]
 by_cases hm:iA m.W m.H
 ·have hp:=xf hm;rw[bj (x:=m.W*m.H) U U,L4 _ _ hb]
  by_cases hl:(m.C.length:Int)=m.W*m.H
  ·simp[hm,hl]
  ·simp[hl]
 ·simp[hm]
theorem X3 {x:List Int} {v:Int} (h: ∀c:Int,0<=c->c<x.length->rd x c=v):x=List.replicate x.length v:=by
 rw[List.eq_replicate_iff];refine⟨J,λb hb=>?_⟩
 obtain⟨i,hi,rfl⟩:=List.getElem_of_mem hb;have:=h i U U;rw[jl (by simpa using hi)] at this
 simpa using this
theorem af3 (m:aJ) (e:Int) (v2:List Int) (v3:Int×Int) (he:0<=e/\e<=4611686018427387904) (N:Nat) (hN:(List.replicate (Int.toNat (aa (v3.1*v3.2))) (0:Int)).length=N) (hb:N<=1000000):
 ∀(n k:Nat) (x:List Int) (i:Int),x.length=N->i+n=N->0<=i->n<k->(∀c:Int,0<=c->c<i->rd x c=e+1)->
 lP.l0 k m e v2 v3 x i=some (some (bt.mk (aJ.mk m.W m.H v2) (e+1) (List.replicate N (e+1)))):=by
 intro n
 induction n with
 |zero=>
  intro k x i hx hi h0 hk ha;obtain⟨k,rfl⟩: ∃q,k=q+1:=⟨k-1,by omega⟩
  rw[lP.l0,hN,ah U,bj U U];have:=X3 (x:=x) (v:=e+1) (λc c0 c1=>ha c c0 U);rw[hx] at this;rw[this]
 |succ n ih=>
  intro k x i hx hi h0 hk ha;obtain⟨k,rfl⟩: ∃q,k=q+1:=⟨k-1,by omega⟩
  rw[lP.l0,hN,af U,af U,bj (x:=e+1) U U,bj (x:=i+1) U U];refine ih k _ (i+1) (by simpa using hx) U U U (λc c0 c1=>?_)
  rw[G1 h0 U c0]
  by_cases hc:c=i
  ·rw[af hc]
  ·rw[ah hc];exact ha c c0 U
def I5 (m:aJ) (e:Int):Option bt:=if tA m/\0<=e/\e<=4611686018427387904 then some (bt.mk m (e+1) (List.replicate (dP m.W m.H).toNat (e+1))) else none
theorem abA (m:aJ) (e:Int) (hb:m.C.length<=1099511627776):lP.f m e=some (I5 m e):=by
 unfold lP.f I5;rw[Qh m U]
 by_cases h:tA m/\0<=e/\e<=4611686018427387904
 ·have hc:=oQ m.W m.H;have hs:aa ((bn m.W m.H).1*(bn m.W m.H).2)=dP m.W m.H:=bj (by unfold dP at hc;omega) (by unfold dP at hc;omega)
  simp only[aK,decide_eq_true h.1,Bool.not_true,Bool.false_or];rw[ah bl,af h,QK _ hb,Eu];simp only[aK];rw[hs,af U];exact af3 m e m.C _ h.2 (dP m.W m.H).toNat (by rw[hs];simp) U (dP m.W m.H).toNat fuel _ 0 bk U U (by rw[tL];omega) (λc c0 c1=>by omega)
 ·rw[ah h]
  by_cases h1:tA m
  ·have: ¬(0<=e/\e<=4611686018427387904):=λq=>h ⟨h1,q⟩
   simp only[aK,decide_eq_true h1,Bool.not_true,Bool.false_or];rw[af bl]
  ·simp only[aK,decide_eq_false h1,Bool.not_false,Bool.true_or,if_true]
structure dA (g:bt) (more:Int):Prop where
 ok:tA g.m
 sj: ∀c:Int,0<=c->c<g.m.W*g.m.H->1<=rd g.m.C c/\rd g.m.C c<=255
 vs:(g.pz.length:Int)=dP g.m.W g.m.H
 ep:1<=g.bL/\g.bL+more<=4611686018427387905+1000/\0<=more
def cO (m:aJ) (c:Int):Prop:=0<=c/\c<m.W*m.H
instance (m:aJ) (c:Int):Decidable (cO m c):=by unfold cO;infer_instance
def fI (g:bt) (c:Int):Int:=if cO g.m c then rd g.m.C c else 0
def fA (g:bt) (s:Int):Int:=if 0<=s/\s<dP g.m.W g.m.H then rd g.pz s else 0
def mw (g:bt) (c v:Int):bt:=bt.mk (aJ.mk g.m.W g.m.H (List.set g.m.C c.toNat v)) (g.bL+1) (List.set g.pz (aX g.m.W g.m.H c).toNat (g.bL+1))
def I4 (g:bt) (c v:Int):Int×bt:=if ¬cO g.m c then(7,g) else if v<1∨255<v then(8,g) else(0,mw g c v)
variable {g : bt} {more : Int}
theorem U4 (h:dA g more) (c:Int):(if c<0 then(some true) else(some (decide (c≥(List.length g.m.C:Int)))))=some (decide (¬cO g.m c)):=by
 have hl:=h.ok.2.1;unfold cO
 by_cases h0:c<0
 ·rw[af h0,decide_eq_true U]
 ·rw[ah h0,hl];congr 1;rw[Bool.eq_iff_iff];simp;omega
theorem uP (h:dA g more) (c:Int):je.f g c=some (fI g c):=by
 unfold je.f fI;rw[U4 h];have hl:=h.ok.2.1
 by_cases hc:cO g.m c
 ·obtain⟨c0,c1⟩:=hc;have hb:=h.sj c c0 c1;have hc:cO g.m c:=⟨c0,c1⟩;rw[aK,ah (by simpa using hc),af U,af hc,bj U U]
 ·rw[aK,af (by simpa using hc),ah hc]
theorem aaX (h:dA g more) (c v:Int):wP.f g c v=some (I4 g c v):=by
 unfold wP.f I4;rw[U4 h];have hl:=h.ok.2.1;have hv:=h.vs
 by_cases hc:cO g.m c
 ·obtain⟨c0,c1⟩:=hc;have hc:cO g.m c:=⟨c0,c1⟩;rw[aK,ah (by simpa using hc),ah (c:= ¬cO g.m c) (λq=>q hc)]
  by_cases hq:v<1∨255<v
  ·rw[af bl,af hq]
  ·have ez:bU g.m.W g.m.H c:=⟨h.ok.1,c0,c1⟩;have yL:bG g.m.W g.m.H (aX g.m.W g.m.H c):=by unfold aX;rw[af ez];exact Et ez
   have Nn:=h.ep;rw[ah bl,ah hq,af U,tj,aK,af (by rw[hv];exact⟨yL.1,yL.2⟩),EI U U,bj U U]
   rfl
 ·rw[aK,af (by simpa using hc),af (c:= ¬cO g.m c) hc]
theorem afe (h:dA g more) (h1:1<=more) {c v:Int} (hc:cO g.m c) (v0:1<=v) (v1:v<=255):dA (mw g c v) (more-1):=by
 obtain⟨c0,c1⟩:=hc;have hl:=h.ok.2.1;have Nn:=h.ep;have iF: ∀d:Int,0<=d->d<g.m.W*g.m.H->1<=rd (List.set g.m.C c.toNat v) d/\rd (List.set g.m.C c.toNat v) d<=255:=λd d0 d1=>by
  rw[G1 c0 U d0];split
  ·exact⟨v0,v1⟩
  ·exact h.sj d d0 d1
 refine⟨⟨h.ok.1,by simp[mw,hl],λhm=>?_⟩,iF,by simp[mw,h.vs],⟨by simp[mw];omega,by simp[mw];omega,by omega⟩⟩
 obtain⟨i,hi,he⟩:=List.getElem_of_mem hm;have rD:i<(List.set g.m.C c.toNat v).length:=hi;rw[List.length_set] at rD;have:=iF i U U;rw[jl (show(i:Int).toNat<(List.set g.m.C c.toNat v).length by rw[List.length_set];omega)] at this
 have he:(List.set g.m.C c.toNat v)[i]=0:=he;simp only[Int.toNat_natCast] at this;omega
def lV (m:aJ) (c:Int):Bool:=decide (cO m c)&&decide (rd m.C c≠255)
theorem A1 {m:aJ} {c:Int}:lV m c=true↔cO m c/\rd m.C c≠255:=by simp[lV]
theorem Oo {g:bt} {more:Int} (h:dA g more) (c:Int):tI.f g c=some (lV g.m c):=by
 unfold tI.f;rw[uP h,aK];unfold fI lV
 by_cases hc:cO g.m c
 ·have:=h.sj c hc.1 hc.2;rw[af hc,decide_eq_true hc]
  congr 1
  rw[Bool.eq_iff_iff];simp;omega
 ·rw[ah hc,decide_eq_false hc];simp
theorem ail (m:aJ) {c:Int} (hc:c<0):lV m c=false:=by
 unfold lV;rw[decide_eq_false (λq=>by have:=q.1;omega)];rfl
def bI (m:aJ) (s:Int):List Int:=(qJ m.W m.H s).filter (lV m)
theorem QJ (w h s:Int):(qJ w h s).length<=256:=by
 have:=zq w h s;have:=QI w h s ((ax w h s).1*(ax w h s).2).toNat;unfold qJ;omega
theorem age {g:bt} {more:Int} (h:dA g more) (v:List Int) (hv:v.length<=1000): ∀(n k:Nat) (i:Int) (x:List Int),i+n=v.length->0<=i->n<k->x.length<=i.toNat->
 jW.l0 k g v x i=some (x++(v.drop i.toNat).filter (lV g.m)):=by
 intro n
 induction n with
 |zero=>
  intro k i x hi h0 hk hx;obtain⟨k,rfl⟩:=bh hk;rw[jW.l0,ah U,List.drop_of_length_le U];simp
 |succ n ih=>
  intro k i x hi h0 hk hx;obtain⟨k,rfl⟩:=bh hk;rw[jW.l0,af U,af U,Oo h,aK,bj U U,BH h0 U]
  by_cases ho:lV g.m (rd v i)=true
  ·rw[af ho,af U,ih k (i+1) _ U U U bl,List.filter_cons_of_pos ho];simp
  ·rw[ah ho,ih k (i+1) _ U U U U,List.filter_cons_of_neg ho]
theorem UQ {g:bt} {more:Int} (h:dA g more) (s:Int):jW.f g s=some (bI g.m s):=by
 unfold jW.f;have e0:iE.f g=some (g.m.W,g.m.H):=rfl;have hl:=QJ g.m.W g.m.H s;rw[e0,aK,aad,aK];have:=age h (qJ g.m.W g.m.H s) U (qJ g.m.W g.m.H s).length fuel 0 [] U U (by rw[cH];omega) bk
 exact this
def xC (m:aJ) (c:Int) (n:Nat):List dR:=((List.range n).filter (λj:Nat=>lV m (fQ m.W m.H c (j:Int)))).map (λj:Nat=>dR.mk (fQ m.W m.H c (j:Int)) (rd m.C (fQ m.W m.H c (j:Int))))
def vO (m:aJ) (c:Int):List dR:=if lV m c=true then xC m c 4 else[]
theorem aaz (m:aJ) (c:Int) (n:Nat):xC m c (n+1)=if lV m (fQ m.W m.H c (n:Int))=true then xC m c n++[dR.mk (fQ m.W m.H c (n:Int)) (rd m.C (fQ m.W m.H c (n:Int)))] else xC m c n:=by
 unfold xC;rw[List.range_succ,List.filter_append,List.map_append]
 by_cases h:lV m (fQ m.W m.H c (n:Int))=true
 ·rw[af h];simp[h]
 ·rw[ah h];simp[h]
theorem QW (m:aJ) (c:Int) (n:Nat):(xC m c n).length<=n:=by
 unfold xC;rw[List.length_map];have:=List.length_filter_le (λj:Nat=>lV m (fQ m.W m.H c (j:Int))) (List.range n);simpa using this
theorem aaA {g:bt} {more:Int} (h:dA g more) (c:Int):mY.f g c=some (vO g.m c):=by
 unfold mY.f vO;have e0:iE.f g=some (g.m.W,g.m.H):=rfl;have e:yr.f=some [0,1,2,3]:=rfl;rw[e0,aK,Oo h,aK]
 by_cases ho:lV g.m c=true
 ·rw[ah (by rw[ho];simp),e,aK,af ho]
  have key: ∀(n k:Nat) (j:Int),j+n=4->0<=j->n<k->mY.l0 k g c (g.m.W,g.m.H) [0,1,2,3] (xC g.m c j.toNat) j=some (xC g.m c 4):=by
   intro n
   induction n with
   |zero=>
    intro k j hj h0 hk;obtain⟨k,rfl⟩:=bh hk;rw[mY.l0,ah U];rw[show j.toNat=4 by omega]
   |succ n ih=>
    intro k j hj h0 hk;obtain⟨k,rfl⟩:=bh hk;have hle:=QW g.m c j.toNat;have:=ih k (j+1) U U U;rw[show(j+1).toNat=j.toNat+1 by omega,aaz,show((j.toNat:Nat):Int)=j by omega] at this
    rw[mY.l0,af U,Wq h0 U,U9,af bl,aK,bj U U];have e2:(if fQ g.m.W g.m.H c j≥0 then((tI.f g (fQ g.m.W g.m.H c j)).bind λv12=>some v12) else(some false))=some (lV g.m (fQ g.m.W g.m.H c j)):=by
     by_cases hn:fQ g.m.W g.m.H c j≥0
     ·rw[af hn,Oo h];rfl
     ·rw[ah hn,ail _ U]
    rw[e2,aK]
    by_cases hq:lV g.m (fQ g.m.W g.m.H c j)=true
    ·rw[af hq] at this;have DL:fI g (fQ g.m.W g.m.H c j)=rd g.m.C (fQ g.m.W g.m.H c j):=by unfold fI;rw[af (A1.mp hq).1]
     rw[af hq,uP h,aK,af U,DL];exact this
    ·rw[ah hq] at this;rw[ah hq];exact this
  exact key 4 fuel 0 U U (by rw[cH];omega)
 ·rw[af (by simpa using ho),ah ho]
theorem Ce {tw th side:Int} (t0:0<=tw) (t1:tw<=16) (u0:0<=th) (u1:th<=16):0<=pX tw th side/\pX tw th side<=16:=by
 unfold pX;split
 ·omega
 ·split<;>omega
theorem QX (m:aJ) (c:Int):(vO m c).length<=4:=by
 unfold vO;split
 ·exact QW m c 4
 ·simp
def eH (p:Int->Bool):Nat->Nat
 |0=>0
 |n+1=>eH p n+if p n then 1 else 0
theorem Ft (p:Int->Bool): ∀n,eH p n<=n
 |0=>Nat.le_refl _
 |n+1=>by have:=Ft p n;unfold eH;split<;>omega
theorem QN {p q:Int->Bool}: ∀{n:Nat},(∀i:Int,0<=i->i<n->p i=q i)->eH p n=eH q n
 |0,_=>rfl
 |n+1,h=>by unfold eH;rw[QN (λi a b=>h i a U),h n U U]
theorem L1 {p q:Int->Bool} {c:Int}: ∀{n:Nat},0<=c->c<n->p c=true->q c=false->(∀i:Int,0<=i->i<n->i≠c->q i=p i)->eH p n=eH q n+1
 |0,h0,h1,_,_,_=>by omega
 |n+1,h0,h1,hp,hq,he=>by
  unfold eH
  by_cases z:c=n
  ·subst z;rw[hp,hq,QN (p:=p) (q:=q) (λi a b=>(he i a U U).symm)];simp
  ·rw[L1 h0 U hp hq (λi a b=>he i a U),he n U U (λy=>z y.symm)];omega
theorem o0 {m:aJ} (hm:tA m) {c:Int} (h:cO m c):bU m.W m.H c:=⟨hm.1,h.1,h.2⟩
theorem aiG {m:aJ} {c s:Int} (h0: ¬cD m.W m.H c s<0):cO m (cD m.W m.H c s):=by
 unfold cD at h0⊢;split at h0
 ·rename_i h;rw[af h];unfold po at h0⊢;split at h0
  ·rename_i q;rw[af q];exact sm q.2.1 q.2.2.1 q.2.2.2.1 q.2.2.2.2
  ·omega
 ·omega
theorem CQ (g:bt):iE.f g=some (g.m.W,g.m.H):=rfl
theorem Fx (g:bt):oS.f g=some g.bL:=rfl
end Go.Proofs.YthodkonhneebbaaGreatDoor
