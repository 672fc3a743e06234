/- What the functions do, in plain Lean, on the objects that are kept in order. -/
import Derived.Test.YthodkonhneebbaaGreatDoorKD6
import Derived.Test.YthodkonhneebbaaGreatDoorKD5
import Derived.Test.YthodkonhneebbaaGreatDoorKD11
import Derived.Test.YthodkonhneebbaaGreatDoorKD7
import Derived.Test.YthodkonhneebbaaGreatDoorKD10
import Derived.Test.YthodkonhneebbaaGreatDoorKD8
namespace Go.Proofs.YthodkonhneebbaaGreatDoor
open Go.Hx
set_option linter.unusedVariables false
set_option linter.unusedSimpArgs false
theorem bm {x:Int} (h1: -9223372036854775808<=x) (h2:x<=9223372036854775807):aa x=x:=by
 unfold aa IntKind.wrap IntKind.signed IntKind.bits;simp;omega
theorem qX {a b:Int} (h:0<=a):Int.tdiv a b=a/b:=Int.tdiv_eq_ediv_of_nonneg h
theorem mX {a b:Int} (h:0<=a):Int.tmod a b=a%b:=Int.tmod_eq_emod_of_nonneg h
abbrev iA (w h:Int):Prop:=1<=w/\w<=1024/\1<=h/\h<=1024
abbrev bV (w h c:Int):Prop:=iA w h/\0<=c/\c<w*h
theorem ky {a b m n:Int} (ha:0<=a) (hb:0<=b) (h1:a<=m) (h2:b<=n):a*b<=m*n:=
 Int.mul_le_mul h1 h2 hb U
theorem nG {a b:Int} (ha:0<=a) (hb:0<=b):0<=a*b:=Int.mul_nonneg ha hb
theorem xv {w h:Int} (hm:iA w h):1<=w*h/\w*h<=1048576:=by
 obtain⟨a,b,c,d⟩:=hm;have h1:w*h<=1024*1024:=ky U U b d;have h2:1*1<=w*h:=Int.mul_le_mul a c U U;omega
theorem AM (w h:Int):nV.f w h=some (decide (iA w h)):=by
 unfold nV.f
 congr 1
 simp only[iA];rw[Bool.eq_iff_iff];simp;omega
theorem Oe (n lo hi:Int):sW.f n lo hi=some (decide (lo<=n/\n<=hi)):=by
 unfold sW.f
 congr 1
 rw[Bool.eq_iff_iff];simp
theorem ahA (w h:Int):CW.f w h=some (decide (iA w h)):=by
 unfold CW.f;simp only[Oe,aG,iA]
 by_cases h1:1<=w/\w<=1024
 ·simp[h1]
 ·simp[h1];omega
def bq (w h:Int):Int×Int:=if iA w h then((w+15)/16,(h+15)/16) else(0,0)
theorem EE (w h:Int):ql.f w h=some (bq w h):=by
 unfold ql.f bq;simp only[AM,aG]
 by_cases hm:iA w h
 ·rw[decide_eq_true hm,af hm,ah bj];obtain⟨a,b,c,d⟩:=hm;simp only[bm (x:=w+16) U U,bm (x:=h+16) U U,bm (x:=w+16-1) U U,bm (x:=h+16-1) U U,
   qX (a:=w+16-1) U,qX (a:=h+16-1) U,bm (x:=(w+16-1)/16) U U,bm (x:=(h+16-1)/16) U U]
  congr 2<;>omega
 ·simp[hm]
theorem O' (w h:Int):vY.f w h=some (bq w h):=by
 rw[<-EE];unfold vY.f ql.f;rw[ahA,AM]
theorem C5 {w h:Int} (hm:iA w h):1<=(bq w h).1/\(bq w h).1<=64/\1<=(bq w h).2/\(bq w h).2<=64:=by
 unfold bq;rw[af hm];obtain⟨a,b,c,d⟩:=hm;simp only;omega
theorem ah8 (w h:Int):0<=(bq w h).1/\(bq w h).1<=64/\0<=(bq w h).2/\(bq w h).2<=64:=by
 by_cases hm:iA w h
 ·have:=C5 hm;omega
 ·unfold bq;rw[ah hm];simp
def dO (w h:Int):Int:=(bq w h).1*(bq w h).2
theorem oq (w h:Int):0<=dO w h/\dO w h<=4096:=by
 obtain⟨a,b,c,d⟩:=ah8 w h;have h1:dO w h<=64*64:=ky a c b d;have h2:0<=dO w h:=nG a c;omega
theorem aaU {w h:Int} (hm:iA w h):1<=dO w h:=by
 obtain⟨a,b,c,d⟩:=C5 hm;have h2:1*1<=dO w h:=Int.mul_le_mul a c U U;omega
theorem KS (w h:Int):vX.f w h=some (dO w h):=by
 unfold vX.f;have:=oq w h;simp only[O',aG,dO];unfold dO at this;rw[bm U U]
abbrev bJ (w h s:Int):Prop:=0<=s/\s<dO w h
def Hw (w h s:Int):Int×Int×Bool:=if bJ w h s then(16*(s%(bq w h).1),16*(s/(bq w h).1),true) else(0,0,false)
theorem tl {w h s:Int} (hs:bJ w h s):iA w h:=by
 by_cases hm:iA w h
 ·exact hm
 ·have:dO w h=0:=by unfold dO bq;rw[ah hm];simp
  obtain⟨a,b⟩:=hs;omega
theorem uG {w h s:Int} (hs:bJ w h s):0<=s%(bq w h).1/\s%(bq w h).1<(bq w h).1/\0<=s/(bq w h).1/\s/(bq w h).1<(bq w h).2:=by
 obtain⟨a,b,c,d⟩:=C5 (tl hs);obtain⟨h0,h1⟩:=hs;refine⟨Int.emod_nonneg _ U,Int.emod_lt_of_pos _ U,Int.ediv_nonneg h0 U,?_⟩;unfold dO at h1;exact Int.ediv_lt_of_lt_mul U (by rw[Int.mul_comm];exact h1)
theorem Rl (w h s:Int):zJ.f w h s=some (Hw w h s):=by
 unfold zJ.f Hw;simp only[EE,aG];have hc:=oq w h;have hw:aa ((bq w h).1*(bq w h).2)=dO w h:=by unfold dO at hc⊢;exact bm U U
 rw[hw]
 by_cases hs:bJ w h s
 ·have hb:((decide (s<0))||(decide (s≥dO w h)))=false:=by
   obtain⟨h0,h1⟩:=hs;simp;omega
  rw[hb];obtain⟨p1,p2,p3,p4⟩:=uG hs;obtain⟨a,b,c,d⟩:=C5 (tl hs);have bM: ¬(bq w h).1=0:=U;rw[ah bj,af bM,af bM,af hs,mX hs.1,qX hs.1];rw[bm (x:=s/(bq w h).1) U U,bm U U,bm U U];rw[Int.mul_comm 16,Int.mul_comm 16]
 ·have hb:((decide (s<0))||(decide (s≥dO w h)))=true:=by
   simp only[bJ] at hs;simp;omega
  rw[hb,ah hs];rfl
def ax (w h s:Int):Int×Int:=if bJ w h s then(min 16 (w-16*(s%(bq w h).1)),min 16 (h-16*(s/(bq w h).1))) else(0,0)
theorem Pm {w h s:Int} (hs:bJ w h s):16*(s%(bq w h).1)<w/\16*(s/(bq w h).1)<h:=by
 have hm:=tl hs;obtain⟨p1,p2,p3,p4⟩:=uG hs;have e1:(bq w h).1=(w+15)/16:=by unfold bq;rw[af hm]
 have e2:(bq w h).2=(h+15)/16:=by unfold bq;rw[af hm]
 generalize s%(bq w h).1=x at*;generalize s/(bq w h).1=y at*;omega
theorem Kw (x:Int):(if x<16 then x else 16)=min 16 x:=by
 rw[Int.min_def];split<;>split<;>omega
theorem HF (w h s:Int):qZ.f w h s=some (ax w h s):=by
 unfold qZ.f ax;simp only[Rl,aG];unfold Hw
 by_cases hs:bJ w h s
 ·rw[af hs,af hs];obtain⟨r1,r2⟩:=Pm hs;obtain⟨p1,p2,p3,p4⟩:=uG hs;obtain⟨a,b,c,d⟩:=tl hs;rw[ah bj];simp only;rw[bm (x:=w-_) U U,bm (x:=h-_) U U,Kw,Kw]
 ·rw[ah hs,ah hs];rfl
theorem WM (w h s:Int):zq.f w h s=some (ax w h s):=by
 unfold zq.f ax;have hc:=oq w h;simp only[KS,aG,Oe,O'];rw[bm (x:=dO w h-1) U U]
 by_cases hs:bJ w h s
 ·have hb:decide (0<=s/\s<=dO w h-1)=true:=by obtain⟨h0,h1⟩:=hs;simp;omega
  rw[hb,af hs];obtain⟨r1,r2⟩:=Pm hs;obtain⟨p1,p2,p3,p4⟩:=uG hs;obtain⟨a,b,c,d⟩:=C5 (tl hs);obtain⟨m1,m2,m3,m4⟩:=tl hs;have bM: ¬(bq w h).1=0:=U;rw[ah bj,af bM,af bM,mX hs.1,qX hs.1];rw[bm (x:=s/(bq w h).1) U U,bm (x:=16*(s%_)) U U,bm (x:=16*(s/_)) U U,
   bm (x:=w-_) U U,bm (x:=h-_) U U,Kw,Kw]
 ·have hb:decide (0<=s/\s<=dO w h-1)=false:=by simp only[bJ] at hs;simp;omega
  rw[hb,ah hs];rfl
theorem qf {w h s:Int} (hs:bJ w h s):1<=(ax w h s).1/\(ax w h s).1<=16/\1<=(ax w h s).2/\(ax w h s).2<=16:=by
 obtain⟨r1,r2⟩:=Pm hs;unfold ax;rw[af hs];simp only;omega
theorem size_le (w h s:Int):0<=(ax w h s).1/\(ax w h s).1<=16/\0<=(ax w h s).2/\(ax w h s).2<=16:=by
 by_cases hs:bJ w h s
 ·have:=qf hs;omega
 ·unfold ax;rw[ah hs];simp
def pD (w h x y:Int):Int:=if iA w h/\0<=x/\x<w/\0<=y/\y<h then y*w+x else-1
theorem sw {w h x y:Int} (hx:0<=x) (vH:x<w) (hy:0<=y) (UA:y<h):0<=y*w+x/\y*w+x<w*h:=by
 have h1:(y+1)*w<=h*w:=Int.mul_le_mul_of_nonneg_right U U;have h2:(y+1)*w=y*w+w:=by rw[Int.add_mul];omega
 have h3:0<=y*w:=nG hy U;have h4:h*w=w*h:=Int.mul_comm _ _;omega
theorem Q_ (w h x y:Int):zI.f w h x y=some (pD w h x y):=by
 unfold zI.f pD;simp only[AM,aG]
 by_cases hc:iA w h/\0<=x/\x<w/\0<=y/\y<h
 ·obtain⟨hm,h1,h2,h3,h4⟩:=hc;have hb:(((((!decide (iA w h))||(decide (x<0)))||(decide (x≥w)))||(decide (y<0)))||(decide (y≥h)))=false:=by
   simp[hm];omega
  rw[hb,ah bj,af ⟨hm,h1,h2,h3,h4⟩];have:=sw h1 h2 h3 h4;have hp:=xv hm;have h5:0<=y*w:=nG h3 U;rw[bm (x:=y*w) U U,bm U U]
 ·have hb:(((((!decide (iA w h))||(decide (x<0)))||(decide (x≥w)))||(decide (y<0)))||(decide (y≥h)))=true:=by
   by_cases hm:iA w h
   ·have gv: ¬(0<=x/\x<w/\0<=y/\y<h):=λh=>hc ⟨hm,h⟩
    simp[hm];omega
   ·simp[hm]
  rw[hb,ah hc];rfl
theorem UJ (w h c:Int):wC.f w h c=some (decide (bV w h c)):=by
 unfold wC.f;simp only[AM,aG]
 by_cases hm:iA w h
 ·have hp:=xv hm;rw[bm U U];simp[hm]
 ·simp[hm]
def A_ (w h c:Int):Int×Int:=if bV w h c then(c%w,c/w) else(-1,-1)
theorem vU {w h c:Int} (hc:bV w h c):0<=c%w/\c%w<w/\0<=c/w/\c/w<h:=by
 obtain⟨⟨a,b,d,e⟩,h0,h1⟩:=hc;exact⟨Int.emod_nonneg _ U,Int.emod_lt_of_pos _ U,Int.ediv_nonneg h0 U,Int.ediv_lt_of_lt_mul U (by rw[Int.mul_comm];exact h1)⟩
theorem OQ (w h c:Int):wB.f w h c=some (A_ w h c):=by
 unfold wB.f A_;simp only[UJ,aG]
 by_cases hc:bV w h c
 ·have hp:=vU hc;have hm:=hc.1;have bM: ¬w=0:=by obtain⟨a,_⟩:=hm;omega
  rw[ah (by simp[hc]),af bM,af bM,af hc,mX hc.2.1,qX hc.2.1]
  obtain⟨a,b,d,e⟩:=hm;rw[bm U U]
 ·simp[hc]
theorem Ep {w h c:Int}:(A_ w h c).1<0↔ ¬bV w h c:=by
 unfold A_
 by_cases hc:bV w h c
 ·have:=vU hc;rw[af hc];exact⟨λh=>by simp only at h;omega,λh=>absurd hc h⟩
 ·rw[ah hc];simp[hc]
def aW (w h c:Int):Int:=if bV w h c then c/w/16*(bq w h).1+c%w/16 else-1
theorem EC {w h c:Int} (hc:bV w h c):0<=c%w/16/\c%w/16<(bq w h).1/\0<=c/w/16/\c/w/16<(bq w h).2:=by
 have hp:=vU hc;have e1:(bq w h).1=(w+15)/16:=by unfold bq;rw[af hc.1]
 have e2:(bq w h).2=(h+15)/16:=by unfold bq;rw[af hc.1]
 rw[e1,e2];generalize c%w=x at*;generalize c/w=y at*;omega
theorem ED {w h c:Int} (hc:bV w h c):bJ w h (c/w/16*(bq w h).1+c%w/16):=by
 obtain⟨a,b,d,e⟩:=EC hc;have:=sw a b d e;unfold bJ dO;exact this
theorem rR (w h c:Int):gi.f w h c=some (aW w h c):=by
 unfold gi.f aW;simp only[OQ,aG]
 by_cases hc:bV w h c
 ·rw[ah (by rw[Ep];simp[hc]),EE]
  simp only[aG,A_];rw[af hc,af hc];have hp:=vU hc;obtain⟨a,b,d,e⟩:=EC hc;obtain⟨m1,m2,m3,m4⟩:=C5 hc.1;have hs:=ED hc;have hk:=oq w h;obtain⟨s1,s2⟩:=hs;have h5:0<=c/w/16*(bq w h).1:=nG d U;simp only;rw[qX hp.2.2.1,qX hp.1,bm (x:=c/w/16) U U,bm (x:=c%w/16) U U,bm (x:=_*_) U U,bm U U]
 ·rw[af (by rw[Ep];exact hc),ah hc]
theorem qK {a x y:Int} (h0:0<=x) (h1:x<a):(y*a+x)%a=x/\(y*a+x)/a=y:=by
 have ha:a≠0:=U;constructor
 ·rw[Int.add_comm,Int.add_mul_emod_self_right];exact Int.emod_eq_of_lt h0 h1
 ·rw[Int.add_comm,Int.add_mul_ediv_right _ _ ha,Int.ediv_eq_zero_of_lt h0 h1];omega
def dw (w h c:Int):Int:=if bV w h c then c/w%16*(ax w h (aW w h c)).1+c%w%16 else-1
theorem Ot {w h c:Int} (hc:bV w h c):c%w%16<(ax w h (aW w h c)).1/\c/w%16<(ax w h (aW w h c)).2:=by
 have hs:=ED hc;obtain⟨a,b,d,e⟩:=EC hc;have hn:=qK (a:=(bq w h).1) (x:=c%w/16) (y:=c/w/16) a b;have hp:=vU hc;unfold aW;rw[af hc];unfold ax;rw[af hs,hn.1,hn.2];simp only;generalize c%w=x at*;generalize c/w=y at*;omega
theorem zA {w h c:Int}:aW w h c<0↔ ¬bV w h c:=by
 unfold aW
 by_cases hc:bV w h c
 ·have:=ED hc;rw[af hc];exact⟨λh=>by unfold bJ at this;omega,λh=>absurd hc h⟩
 ·rw[ah hc];simp[hc]
def c_ (w h s l:Int):Int:=
 if bJ w h s/\0<=l/\l<(ax w h s).1*(ax w h s).2 then(16*(s/(bq w h).1)+l/(ax w h s).1)*w+(16*(s%(bq w h).1)+l%(ax w h s).1) else-1
theorem xc {w h s l:Int} (hs:bJ w h s) (h0:0<=l) (h1:l<(ax w h s).1*(ax w h s).2):
 0<=l%(ax w h s).1/\l%(ax w h s).1<(ax w h s).1/\0<=l/(ax w h s).1/\l/(ax w h s).1<(ax w h s).2/\
 16*(s%(bq w h).1)+l%(ax w h s).1<w/\16*(s/(bq w h).1)+l/(ax w h s).1<h:=by
 obtain⟨z1,z2,z3,z4⟩:=qf hs;have a1:0<=l%(ax w h s).1:=Int.emod_nonneg _ U;have a2:l%(ax w h s).1<(ax w h s).1:=Int.emod_lt_of_pos _ U;have a3:0<=l/(ax w h s).1:=Int.ediv_nonneg h0 U;have a4:l/(ax w h s).1<(ax w h s).2:=Int.ediv_lt_of_lt_mul U (by rw[Int.mul_comm];exact h1)
 refine⟨a1,a2,a3,a4,?_,?_⟩
 ·have:(ax w h s).1<=w-16*(s%(bq w h).1):=by unfold ax;rw[af hs];simp only;omega
  omega
 ·have:(ax w h s).2<=h-16*(s/(bq w h).1):=by unfold ax;rw[af hs];simp only;omega
  omega
theorem Jq (w h s l:Int):tF.f w h s l=some (c_ w h s l):=by
 unfold tF.f c_;simp only[Rl,aG,HF,Q_];have hz:=size_le w h s;have J_:(ax w h s).1*(ax w h s).2<=16*16:=ky hz.1 hz.2.2.1 hz.2.1 hz.2.2.2;have hz2:0<=(ax w h s).1*(ax w h s).2:=nG hz.1 hz.2.2.1;rw[bm (x:=_*(ax w h s).2) U U]
 by_cases hs:bJ w h s
 ·unfold Hw;rw[af hs]
  by_cases hl:0<=l/\l<(ax w h s).1*(ax w h s).2
  ·obtain⟨a1,a2,a3,a4,a5,a6⟩:=xc hs hl.1 hl.2;obtain⟨z1,z2,z3,z4⟩:=qf hs;obtain⟨m1,m2,m3,m4⟩:=tl hs;obtain⟨p1,p2,p3,p4⟩:=uG hs;have bM: ¬(ax w h s).1=0:=U;rw[ah bk,af bM,af bM,af (c:=bJ w h s/\_) ⟨hs,hl⟩];simp only;rw[mX hl.1,qX hl.1,bm (x:=l/_) U U,bm (x:=_+l%_) U U,bm (x:=_+l/_) U U];unfold pD;rw[af ⟨⟨m1,m2,m3,m4⟩,by omega,a5,by omega,a6⟩]
  ·rw[af bk,ah (λh=>hl h.2)]
 ·unfold Hw;rw[ah hs,af bj,ah (c:=bJ w h s/\_) (λh=>hs h.1)]
theorem ahy (w h s l:Int):CV.f w h s l=some (c_ w h s l):=by
 unfold CV.f c_;simp only[WM,aG,Oe,O'];have hz:=size_le w h s;have J_:(ax w h s).1*(ax w h s).2<=16*16:=ky hz.1 hz.2.2.1 hz.2.1 hz.2.2.2;have hz2:0<=(ax w h s).1*(ax w h s).2:=nG hz.1 hz.2.2.1;rw[bm (x:=_*(ax w h s).2) U U,bm (x:=_*(ax w h s).2-1) U U]
 by_cases hs:bJ w h s
 ·by_cases hl:0<=l/\l<(ax w h s).1*(ax w h s).2
  ·obtain⟨a1,a2,a3,a4,a5,a6⟩:=xc hs hl.1 hl.2;obtain⟨z1,z2,z3,z4⟩:=qf hs;obtain⟨m1,m2,m3,m4⟩:=tl hs;obtain⟨p1,p2,p3,p4⟩:=uG hs;obtain⟨s1,s2,s3,s4⟩:=C5 (tl hs);have bM: ¬(ax w h s).1=0:=U;have Ug: ¬(bq w h).1=0:=U;rw[ah bk,af (c:=bJ w h s/\_) ⟨hs,hl⟩,af Ug,af bM,af Ug,af bM,mX hl.1,qX hl.1,mX hs.1,qX hs.1];have hg:=sw (w:=w) (h:=h) (x:=16*(s%(bq w h).1)+l%(ax w h s).1) (y:=16*(s/(bq w h).1)+l/(ax w h s).1) U a5 U a6;have hq:0<=(16*(s/(bq w h).1)+l/(ax w h s).1)*w:=nG U U;have hp:=xv (tl hs);rw[bm (x:=l/_) U U,bm (x:=s/_) U U,bm (x:=16*(s/_)) U U,bm (x:=16*(s/_)+_) U U,
    bm (x:=_*w) U U,bm (x:=16*(s%_)) U U,bm (x:=_*w+_) U U,bm U U]
   congr 1;omega
  ·rw[af bk,ah (λh=>hl h.2)]
 ·have h1:(ax w h s).1=0:=by unfold ax;rw[ah hs]
  rw[af (by simp[h1];omega),ah (λh=>hs h.1)]
theorem PT {n lo hi:Int} (l6: -4611686018427387904<=lo) (vz:hi<=4611686018427387904) (hle:lo<=hi) (hn:hi-lo<=4611686018427387904):fv.f n lo hi=some (lo+n%(hi-lo+1)):=by
 unfold fv.f;rw[bm (x:=hi-lo) U U,bm (x:=hi-lo+1) U U,af U];generalize hm:hi-lo+1=m;have Cd:0<m:=U;have h1:0<=n%m:=Int.emod_nonneg _ U;have h2:n%m<m:=Int.emod_lt_of_pos _ Cd
 by_cases Gj:0<=n
 ·rw[mX Gj,ah U,bm U U]
 ·have ha:Int.tmod n m=if n%m=0 then 0 else n%m-m:=by
   rw[Int.tmod_eq_emod];have hd:(m∣n)↔n%m=0:=⟨Int.emod_eq_zero_of_dvd,Int.dvd_of_emod_eq_zero⟩
   by_cases h0:n%m=0
   ·simp[h0,hd]
   ·simp[h0,hd,Gj];omega
  rw[ha]
  by_cases h0:n%m=0
  ·rw[af h0,ah U,bm U U,h0]
  ·rw[ah h0,af U,bm (x:=_+hi) U U,bm (x:=_-lo) U U,bm (x:=_+1) U U,bm U U]
   congr 1;omega
theorem PU {n lo hi:Int} (hle:lo<=hi):lo<=lo+n%(hi-lo+1)/\lo+n%(hi-lo+1)<=hi:=by
 have h1:0<=n%(hi-lo+1):=Int.emod_nonneg _ U;have h2:n%(hi-lo+1)<hi-lo+1:=Int.emod_lt_of_pos _ U;omega
theorem ET {x:Int} (h1:0<=x) (h2:x<=255):bS x=x:=by
 unfold bS IntKind.wrap IntKind.signed IntKind.bits;simp;omega
theorem tZ:fuel=18446744073709551616:=by unfold fuel;rfl
theorem Hf {α:Type} [Inhabited α] {L:List α} {i c:Int} {v:α} (h0:0<=i) (h1:i<L.length) (c0:0<=c):rd (List.set L i.toNat v) c=if c=i then v else rd L c:=by
 unfold rd
 by_cases hc:c=i
 ·subst hc;rw[af rfl];simp[List.getD,show c.toNat<L.length by omega]
 ·rw[ah hc];have:i.toNat≠c.toNat:=U;simp[List.getD,this]
theorem abn {α:Type} [Inhabited α] {a:List α} {i:Int} (h0:0<=i) (h1:i<a.length):a.drop i.toNat=rd a i::a.drop (i+1).toNat:=by
 have aQ:i.toNat<a.length:=U;rw[jj aQ,show(i+1).toNat=i.toNat+1 by omega]
 exact List.drop_eq_getElem_cons aQ
theorem uA {α:Type} [Inhabited α] {a:List α} {i:Int} (h0:0<=i) (h1:i<a.length):rd a i∈a:=by
 rw[jj U];exact List.getElem_mem _
theorem Re (s:List Int) (h:s.length<=1099511627776):nQ.f s=some s:=by
 unfold nQ.f;rw[af (by simpa using h)];simp
theorem aeQ (s:List Int) (v:Int) (hb:s.length<=4611686018427387904): ∀(n k:Nat) (i:Int),i+n=s.length->0<=i->n<k->
 ∃r,qV.l0 k s v i=some r/\(0<=r↔v∈s.drop i.toNat):=by
 intro n
 induction n with
 |zero=>
  intro k i hi h0 hk;obtain⟨k,rfl⟩: ∃q,k=q+1:=⟨k-1,by omega⟩
  rw[qV.l0,ah U,List.drop_of_length_le U];exact⟨_,J,by simp⟩
 |succ n ih=>
  intro k i hi h0 hk;obtain⟨k,rfl⟩: ∃q,k=q+1:=⟨k-1,by omega⟩
  rw[qV.l0,af U,af U,abn h0 U]
  by_cases he:v=rd s i
  ·rw[af (by simpa using he)]
   exact⟨_,J,by simp[he,h0]⟩
  ·rw[ah (by simpa using he),bm U U]
   obtain⟨r,h1,h2⟩:=ih k (i+1) U U U;exact⟨r,h1,by rw[h2];simp[he]⟩
theorem Mp (s:List Int) (v:Int) (hb:s.length<4611686018427387904):wq.f s v=some (decide (v∈s)):=by
 unfold wq.f qV.f;obtain⟨r,h1,h2⟩:=aeQ s v U s.length fuel 0 U U (by rw[tZ];omega)
 rw[h1,aG]
 congr 1
 rw[Bool.eq_iff_iff];simpa using h2
def dX (side:Int):Int:=if side=1 then 1 else if side=3 then-1 else 0
def dY (side:Int):Int:=if side=0 then-1 else if side=2 then 1 else 0
def cB (w h c side:Int):Int:=
 if bV w h c/\0<=side/\side<=4 then pD w h (c%w+dX side) (c/w+dY side) else-1
theorem HN (w h c side:Int):mf.f w h c side=some (cB w h c side):=by
 unfold mf.f cB;simp only[OQ,aG]
 by_cases hc:bV w h c
 ·rw[ah (by rw[Ep];simp[hc])]
  have hp:=vU hc;obtain⟨q1,q2,q3,q4⟩:=hc.1;have e:A_ w h c=(c%w,c/w):=by unfold A_;rw[af hc]
  simp only[e,Q_,aG];have e1:aa (c/w+ -1)=c/w+ -1:=bm U U;have e2:aa (c/w+1)=c/w+1:=bm U U;have e3:aa (c%w+ -1)=c%w+ -1:=bm U U;have e4:aa (c%w+1)=c%w+1:=bm U U
  by_cases h0:side=0
  ·subst h0;simp[e1,dX,dY,hc]
  by_cases h2:side=2
  ·subst h2;simp[e2,dX,dY,hc]
  by_cases h3:side=3
  ·subst h3;simp[e3,dX,dY,hc]
  by_cases h1:side=1
  ·subst h1;simp[e4,dX,dY,hc]
  by_cases h4:side=4
  ·subst h4;simp[dX,dY,hc]
  ·rw[ah (c:=bV w h c/\_) U];simp[h0,h1,h2,h3,h4]
 ·rw[af (by rw[Ep];exact hc),ah (λh=>hc h.1)]
def EH (w h a b:Int):Nat->Int->Int
 |0,_=>5
 |n+1,s=>if cB w h a s=b then s else EH w h a b n (s+1)
def C3 (w h a b:Int):Int:=if bV w h a/\bV w h b then EH w h a b 5 0 else 5
theorem aip (w h a b:Int): ∀(n k:Nat) (s:Int),s+n=5->0<=s->n<k->qm.l0 k w h a b s=some (EH w h a b n s):=by
 intro n
 induction n with
 |zero=>
  intro k s hs h0 hk;obtain⟨k,rfl⟩: ∃m,k=m+1:=⟨k-1,by omega⟩
  rw[qm.l0,ah U];rfl
 |succ n ih=>
  intro k s hs h0 hk;obtain⟨k,rfl⟩: ∃m,k=m+1:=⟨k-1,by omega⟩
  rw[qm.l0,af U,HN];simp only[aG,EH]
  by_cases he:cB w h a s=b
  ·simp[he]
  ·rw[ah (by simpa using he),ah he,bm U U]
   exact ih k (s+1) U U U
theorem aio (w h a b:Int):qm.f w h a b=some (C3 w h a b):=by
 unfold qm.f C3;simp only[UJ,aG]
 by_cases ha:bV w h a
 ·by_cases hb:bV w h b
  ·rw[af (c:=bV w h a/\_) ⟨ha,hb⟩];simp only[decide_eq_true ha,decide_eq_true hb,Bool.not_true,Bool.false_eq_true,if_false,aG];exact aip w h a b 5 fuel 0 U U (by rw[cD];omega)
  ·rw[ah (c:=bV w h a/\_) (λh=>hb h.2)];simp[ha,hb]
 ·rw[ah (c:=bV w h a/\_) (λh=>ha h.1)];simp[ha]
theorem Ra {w h c:Int} (hc:bV w h c):pD w h (c%w) (c/w)=c:=by
 have hp:=vU hc;unfold pD;rw[af ⟨hc.1,hp⟩];have h1:=Int.mul_ediv_add_emod c w;rw[Int.mul_comm] at h1;omega
theorem ahU {w h x y:Int} (hm:iA w h) (h1:0<=x) (h2:x<w) (h3:0<=y) (h4:y<h):bV w h (pD w h x y)/\pD w h x y%w=x/\pD w h x y/w=y:=by
 unfold pD;rw[af ⟨hm,h1,h2,h3,h4⟩];have:=sw h1 h2 h3 h4;exact⟨⟨hm,this⟩,qK h1 h2⟩
theorem K8 {w h c side:Int} (hc:bV w h c) (h0:0<=side) (h4:side<=4):
 (cB w h c side= -1/\ ¬(0<=c%w+dX side/\c%w+dX side<w/\0<=c/w+dY side/\c/w+dY side<h))∨
 (bV w h (cB w h c side)/\cB w h c side%w=c%w+dX side/\cB w h c side/w=c/w+dY side/\
   0<=c%w+dX side/\c%w+dX side<w/\0<=c/w+dY side/\c/w+dY side<h):=by
 have e:cB w h c side=pD w h (c%w+dX side) (c/w+dY side):=by unfold cB;rw[af ⟨hc,h0,h4⟩]
 rw[e]
 by_cases hx:0<=c%w+dX side/\c%w+dX side<w/\0<=c/w+dY side/\c/w+dY side<h
 ·obtain⟨a,b,d,f⟩:=hx;have:=ahU hc.1 a b d f;exact .inr ⟨this.1,this.2.1,this.2.2,a,b,d,f⟩
 ·refine .inl ⟨?_,hx⟩;unfold pD;rw[ah (λh=>hx h.2)]
theorem ain (w h a b:Int): ∀(n:Nat) (s t:Int),s+n=5->s<=t->t<5->cB w h a t=b->(∀u,s<=u->u<t->cB w h a u≠b)->EH w h a b n s=t:=by
 intro n
 induction n with
 |zero=>intro s t h1 h2 h3;omega
 |succ n ih=>
  intro s t h1 h2 h3 h4 h5;simp only[EH]
  by_cases he:s=t
  ·subst he;rw[af h4]
  ·rw[ah (h5 s U U)];exact ih (s+1) t U U h3 h4 (λu hu=>h5 u U)
theorem aiQ {w h c s t:Int} (hc:bV w h c) (s0:0<=s) (s4:s<=4) (t0:0<=t) (t4:t<=4) (hs:bV w h (cB w h c s)) (he:cB w h c t=cB w h c s):s=t:=by
 have Gv:s=0∨s=1∨s=2∨s=3∨s=4:=U;have l7:t=0∨t=1∨t=2∨t=3∨t=4:=U;rcases K8 hc s0 s4 with⟨h1,_⟩ |⟨_,b1,b2,_⟩
 ·rw[h1] at hs;obtain⟨_,h2,_⟩:=hs;omega
 ·rcases K8 hc t0 t4 with⟨h1,_⟩ |⟨_,d1,d2,_⟩
  ·rw[he] at h1;rw[h1] at hs;obtain⟨_,h2,_⟩:=hs;omega
  ·rw[he,b1] at d1;rw[he,b2] at d2;unfold dX at d1;unfold dY at d2;rcases Gv with rfl |rfl |rfl |rfl |rfl<;>rcases l7 with rfl |rfl |rfl |rfl |rfl<;>simp at d1 d2⊢ <;>omega
theorem W1 {w h c s:Int} (hc:bV w h c) (s0:0<=s) (s4:s<=4) (hs:bV w h (cB w h c s)):C3 w h c (cB w h c s)=s:=by
 unfold C3;rw[af ⟨hc,hs⟩];exact ain w h c _ 5 0 s U s0 U J (λu h1 h2 he=>by
  have:=aiQ hc s0 s4 h1 U hs he;omega)
theorem aiO {w h c:Int} (hc:bV w h c):cB w h c 4=c:=by
 unfold cB;rw[af ⟨hc,by omega,by omega⟩]
 simpa[dX,dY] using Ra hc
def Ok {α:Type} (o:Option α) (P:α->Prop):Prop:= ∃r,o=some r/\P r
section
variable {α β : Type} {o : Option α} {f : α -> Option β} {P : α -> Prop} {Q : β -> Prop} {a b : Option α} {c : Prop} [Decidable c]
theorem Ok.bind (h:Ok o P) (k: ∀r,P r->Ok (f r) Q):Ok (o.bind f) Q:=by
 obtain⟨r,rfl,hr⟩:=h;exact k r hr
theorem Ok.bind' {γ:Type} {g:α->γ} {k:γ->Option β} (h:Ok o P) (q: ∀r,P r->Ok (k (g r)) Q):Ok ((o.bind λr=>some (g r)).bind k) Q:=by
 obtain⟨r,rfl,hr⟩:=h;exact q r hr
theorem Ok.eq {v:α} (e:o=some v) (k:Ok (f v) Q):Ok (o.bind f) Q:=by subst e;exact k
theorem Ok.opt {x:α} {d:Option β} (h:Ok (f x) Q):Ok (dm (some x) d f) Q:=h
theorem Ok.pure {r:α} (h:P r):Ok (some r) P:=⟨r,J,h⟩
theorem Ok.ite (h1:c->Ok a P) (h2: ¬c->Ok b P):Ok (if c then a else b) P:=by
 split
 ·exact h1 ‹_›
 ·exact h2 ‹_›
theorem Ok.cx (hc:c) (h:Ok a P):Ok (if c then a else none) P:=by rw[af hc];exact h
theorem Ok.pos (hc:c) (h:Ok a P):Ok (if c then a else b) P:=by rw[af hc];exact h
theorem Ok.neg (hc: ¬c) (h:Ok b P):Ok (if c then a else b) P:=by rw[ah hc];exact h
theorem Ok.mono {P':α->Prop} (h:Ok o P) (k: ∀r,P r->P' r):Ok o P':=by
 obtain⟨r,e,hr⟩:=h;exact⟨r,e,k r hr⟩
theorem Ok.of {r:α} (e:o=some r) (h:P r):Ok o P:=⟨r,e,h⟩
end
theorem wi {x:Int} (h1: -9223372036854775808<=x) (h2:x<=9223372036854775807):aa x=x:=bm h1 h2
theorem Ku {α:Type} [Inhabited α] {l:List α} {e:α}:e∈l↔ ∃c:Int,0<=c/\c<l.length/\rd l c=e:=by
 constructor
 ·intro h;obtain⟨i,hi,rfl⟩:=List.getElem_of_mem h;exact⟨i,by omega,by omega,by rw[jj (by simpa using hi)];simp⟩
 ·rintro⟨c,h0,h1,rfl⟩;exact uA h0 h1
theorem PA {α:Type} [Inhabited α] {l:List α} {i j:Int} (i0:0<=i) (i1:i<l.length) (j0:0<=j) (j1:j<l.length) (e:α):
 e∈List.set (List.set l i.toNat (rd l j)) j.toNat (rd l i)↔e∈l:=by
 rw[Ku,Ku];have h: ∀c:Int,0<=c->rd (List.set (List.set l i.toNat (rd l j)) j.toNat (rd l i)) c=if c=j then rd l i else if c=i then rd l j else rd l c:=by
  intro c c0;rw[Hf j0 (by simpa using j1) c0,Hf i0 i1 c0]
 simp only[List.length_set];constructor
 ·rintro⟨c,c0,c1,rfl⟩;rw[h c c0];split
  ·exact⟨i,i0,i1,J⟩
  ·split
   ·exact⟨j,j0,j1,J⟩
   ·exact⟨c,c0,c1,J⟩
 ·rintro⟨c,c0,c1,rfl⟩
  by_cases a:c=i
  ·exact⟨j,j0,j1,by rw[h j j0,af J,a]⟩
  ·by_cases b:c=j
   ·refine⟨i,i0,i1,?_⟩;rw[h i i0];subst b;rw[ah U,af J]
   ·exact⟨c,c0,c1,by rw[h c c0,ah b,ah a]⟩
def hd (l:List Int) (q:Int):Int:=match l with |[]=>q |c::_=>c
def jf (l:List Int) (p:Int):Int:=match l with |[]=>p |c::r=>jf r c
def pM (s:List bp) (p:Int) (l:List Int) (q:Int):Prop:=match l with
 |[]=>True
 |c::r=>(rd s c).cF=p/\(rd s c).aZ=hd r q/\pM s c r q
theorem Pp {s:List bp}: ∀(A:List Int) (p:Int) (B:List Int) (q:Int),pM s p (A++B) q↔pM s p A (hd B q)/\pM s (jf A p) B q
 |[],p,B,q=>by simp[pM,jf]
 |c::r,p,B,q=>by
  have e:hd (r++B) q=hd r (hd B q):=by cases r<;>rfl
  simp only[List.cons_append,pM,jf,Pp r c B q,e];exact⟨λ⟨a,b,c,d⟩=>⟨⟨a,b,c⟩,d⟩,λ⟨⟨a,b,c⟩,d⟩=>⟨a,b,c,d⟩⟩
theorem EF {s s':List bp}: ∀(A:List Int) (p q:Int),(∀c∈A,(rd s' c).cF=(rd s c).cF/\(rd s' c).aZ=(rd s c).aZ)->pM s p A q->pM s' p A q
 |[],_,_,_,_=>trivial
 |c::r,p,q,h,hs=>by
  have:=h c (List.mem_cons_self ..);exact⟨this.1.trans hs.1,this.2.trans hs.2.1,EF r c q (λd hd=>h d (List.mem_cons_of_mem _ hd)) hs.2.2⟩
theorem GP: ∀(A:List Int) (p:Int),A≠[]->jf A p∈A
 |[],_,h=>absurd J h
 |[c],_,_=>List.mem_cons_self ..
 |c::d::r,p,_=>List.mem_cons_of_mem _ (GP (d::r) c bj)
theorem Ov: ∀(A:List Int) (p:Int) (B:List Int),jf (A++B) p=jf B (jf A p)
 |[],_,_=>rfl
 |c::r,p,B=>by simp only[List.cons_append,jf];exact Ov r c B
theorem WY {s s':List bp}: ∀(A:List Int) (p q q':Int),A≠[]->A.Nodup->(∀c∈A,(rd s' c).cF=(rd s c).cF/\(c≠jf A p->(rd s' c).aZ=(rd s c).aZ))->(rd s' (jf A p)).aZ=q'->pM s p A q->pM s' p A q'
 |[],_,_,_,h,_,_,_,_=>absurd J h
 |[c],p,q,q',_,_,h,e,hs=>⟨(h c (List.mem_cons_self ..)).1.trans hs.1,e,trivial⟩
 |c::d::r,p,q,q',_,hn,h,e,hs=>by
  have kq:c≠jf (d::r) c:=λz=>(List.nodup_cons.1 hn).1 (z▸GP (d::r) c bj);have:=h c (List.mem_cons_self ..);exact⟨this.1.trans hs.1,(this.2 kq).trans hs.2.1,WY (d::r) c q q' bj (List.nodup_cons.1 hn).2 (λx hx=>h x (List.mem_cons_of_mem _ hx)) e hs.2.2⟩
theorem WX {s s':List bp}: ∀(A:List Int) (p p' q:Int),(∀c∈A,(rd s' c).aZ=(rd s c).aZ/\(c≠hd A q->(rd s' c).cF=(rd s c).cF))->A.Nodup->(A≠[]->(rd s' (hd A q)).cF=p')->pM s p A q->pM s' p' A q
 |[],_,_,_,_,_,_,_=>trivial
 |c::r,p,p',q,h,hn,e,hs=>by
  refine⟨e bj,(h c (List.mem_cons_self ..)).1.trans hs.2.1,EF r c q (λd gw=>?_) hs.2.2⟩;have:=h d (List.mem_cons_of_mem _ gw);exact⟨this.2 λz=>(List.nodup_cons.1 hn).1 (by have z:d=c:=z;rw[<-z];exact gw),this.1⟩
structure rk (l:fS) (k:Int) (ord:List Int):Prop where
 k_:l.k=k
 kb:1<=k/\k<=1000000
 lF:l.ak.length<=k
 nd:ord.Nodup
 mem: ∀c,c∈ord↔0<=c/\c<l.ak.length
 xP:pM l.ak (-1) ord (-1)
 nw:l.cz=hd ord (-1)
 ol:l.dg=jf ord (-1)
 sn:(l.fE.map (·.1)).Nodup
 sl: ∀key c,cW l.fE key=some c↔0<=c/\c<l.ak.length/\(rd l.ak c).key=key
structure zV (l:fS) (ord:List Int):Prop where
 nd:ord.Nodup
 mem: ∀c∈ord,0<=c/\c<l.ak.length
 xP:pM l.ak (-1) ord (-1)
 nw:l.cz=hd ord (-1)
 ol:l.dg=jf ord (-1)
theorem afD {k:Int} (h1:1<=k) (h2:k<=1000000): ∃l,xu.f k=some (some l)/\rk l k []:=by
 unfold xu.f zh.f;rw[ah U];exact⟨_,J,J,⟨h1,h2⟩,by simp;omega,List.nodup_nil,λc=>by simp,trivial,J,J,List.nodup_nil,λkey c=>by simp[cW];omega⟩
theorem aaI {l:fS} {k:Int} {ord:List Int} (h:rk l k ord): ∃l',zi.f l=some l'/\rk l' k []:=
 ⟨_,J,h.k_,h.kb,by have:=h.kb;simp;omega,List.nodup_nil,λc=>by simp,trivial,J,J,List.nodup_nil,λkey c=>by simp[cW];omega⟩
theorem OJ {A B:List Int} {c:Int} (h:(A++c::B).Nodup):c∉A/\c∉B/\(A++B).Nodup:=by
 rw[List.nodup_append] at h⊢;obtain⟨h1,h2,h3⟩:=h;obtain⟨h4,h5⟩:=List.nodup_cons.1 h2;exact⟨λz=>h3 c z c (List.mem_cons_self ..) J,h4,h1,h5,λa ha b hb=>h3 a ha b (List.mem_cons_of_mem _ hb)⟩
theorem Xv {l:fS} {A B:List Int} {c:Int} (h:zV l (A++c::B)): ∃l',sM.f l c=some l'/\l'.k=l.k/\l'.fE=l.fE/\l'.ak.length=l.ak.length/\(∀d:Int,0<=d->(rd l'.ak d).key=(rd l.ak d).key)/\zV l' (A++B):=by
 obtain⟨n1,n2,n3⟩:=OJ h.nd;have hc:=h.mem c bj;obtain⟨g1,g2,g3,g4⟩:=(Pp A (-1) (c::B) (-1)).1 h.xP;simp only[hd] at g1;obtain⟨nA,nB,Vi⟩:=List.nodup_append.1 n3;have hA:A≠[]->0<=jf A (-1)/\jf A (-1)<l.ak.length:=λz=>h.mem _ (List.mem_append_left _ (GP A _ z));have hB:B≠[]->0<=hd B (-1)/\hd B (-1)<l.ak.length/\hd B (-1)∈B:=λz=>by
  cases B with
  |nil=>exact absurd J z
  |cons d r=>have:=h.mem d bj;exact⟨this.1,this.2,List.mem_cons_self ..⟩
 unfold sM.f;rw[af hc];have s1: ∃S N,(if((rd l.ak c).cF==(-1))=true then(some (l.ak,(rd l.ak c).aZ)) else(if(0<=(rd l.ak c).cF/\(rd l.ak c).cF<(List.length l.ak:Int)) then(some ((List.set l.ak (Int.toNat ((rd l.ak c).cF)) (bp.mk ((rd l.ak ((rd l.ak c).cF)).key) ((rd l.ak ((rd l.ak c).cF)).cF) ((rd l.ak c).aZ))),l.cz)) else none))=some (S,N)/\S.length=l.ak.length/\(∀d:Int,0<=d->(rd S d).key=(rd l.ak d).key/\(d∉A->rd S d=rd l.ak d))/\pM S (-1) A (hd B (-1))/\N=hd (A++B) (-1):=by
  rw[g2,g3]
  by_cases z:A=[]
  ·subst z;rw[af (by simp[jf])]
   exact⟨_,_,J,J,λd _=>⟨J,λ_=>rfl⟩,trivial,J⟩
  ·have ha:=hA z;have dS: ∀d:Int,0<=d->rd (List.set l.ak (jf A (-1)).toNat (bp.mk (rd l.ak (jf A (-1))).key (rd l.ak (jf A (-1))).cF (hd B (-1)))) d=if d=jf A (-1) then bp.mk (rd l.ak (jf A (-1))).key (rd l.ak (jf A (-1))).cF (hd B (-1)) else rd l.ak d:=λd d0=>j5 ha.1 ha.2 d0
   rw[ah bk,af ha];refine⟨_,_,J,by simp,λd d0=>?_,WY A (-1) c _ z nA (λd gw=>?_) ?_ g1,?_⟩
   ·rw[dS d d0];refine⟨?_,λgw=>?_⟩
    ·split
     ·rename_i q;rw[q]
     ·rfl
    ·rw[ah];rintro rfl;exact gw (GP A _ z)
   ·have:=h.mem d (List.mem_append_left _ gw);rw[dS d this.1];refine⟨?_,λq=>by rw[ah q]⟩
    split
    ·rename_i q;rw[q]
    ·rfl
   ·rw[dS _ ha.1,af J]
   ·rw[h.nw];cases A with
    |nil=>exact absurd J z
    |cons a A=>rfl
 obtain⟨S,N,e,yP,DR,SH,hN⟩:=s1;rw[e];simp only[aG];have hSB:pM S c B (-1):=EF B c (-1) (λd gw=>by
  have:=h.mem d (List.mem_append_right _ (List.mem_cons_of_mem _ gw));rw[(DR d this.1).2 λq=>Vi d q d gw J];exact⟨J,J⟩) g4
 rw[g2,g3]
 by_cases z:B=[]
 ·subst z;rw[af (by simp[hd])]
  refine⟨_,J,J,J,yP,λd d0=>(DR d d0).1,n3,λd gw=>?_,?_,hN,?_⟩
  ·rw[yP];exact h.mem d (by simp at gw;simp[gw])
  ·rw[List.append_nil];exact SH
  ·rw[List.append_nil]
 ·have hb:=hB z;have dS: ∀d:Int,0<=d->rd (List.set S (hd B (-1)).toNat (bp.mk (rd S (hd B (-1))).key (jf A (-1)) (rd S (hd B (-1))).aZ)) d=if d=hd B (-1) then bp.mk (rd S (hd B (-1))).key (jf A (-1)) (rd S (hd B (-1))).aZ else rd S d:=λd d0=>j5 hb.1 (by rw[yP];exact hb.2.1) d0
  rw[ah bk,af (by rw[yP];exact⟨hb.1,hb.2.1⟩)]
  refine⟨_,J,J,J,by simpa using yP,λd d0=>?_,n3,λd gw=>?_,?_,hN,?_⟩
  ·rw[<-(DR d d0).1];simp only;rw[dS d d0];split
   ·rename_i q;rw[q]
   ·rfl
  ·simp only[List.length_set];rw[yP];refine h.mem d ?_;rcases List.mem_append.1 gw with q |q
   ·exact List.mem_append_left _ q
   ·exact List.mem_append_right _ (List.mem_cons_of_mem _ q)
  ·refine(Pp A (-1) B (-1)).2 ⟨EF A (-1) _ (λd gw=>?_) SH,WX B c (jf A (-1)) (-1) (λd gw=>?_) nB (λ_=>?_) hSB⟩
   ·have:=h.mem d (List.mem_append_left _ gw);rw[dS d this.1,ah (λq=>Vi d gw (hd B (-1)) hb.2.2 q)];exact⟨J,J⟩
   ·have:=h.mem d (List.mem_append_right _ (List.mem_cons_of_mem _ gw));rw[dS d this.1];refine⟨?_,λq=>by rw[ah q]⟩
    split
    ·rename_i q;rw[q]
    ·rfl
   ·rw[dS _ hb.1,af J]
  ·simp only;rw[h.ol,Ov,Ov]
   cases B with
   |nil=>exact absurd J z
   |cons d r=>rfl
theorem On {l:fS} {ord:List Int} {c:Int} (h:zV l ord) (h0:0<=c) (h1:c<l.ak.length) (hc:c∉ord): ∃l',xt.f l c=some l'/\l'.k=l.k/\l'.fE=l.fE/\l'.ak.length=l.ak.length/\(∀d:Int,0<=d->(rd l'.ak d).key=(rd l.ak d).key)/\zV l' (c::ord):=by
 unfold xt.f;generalize yP:List.set l.ak (Int.toNat c) (bp.mk ((rd l.ak c).key) (-1) ((rd l.ak c).aZ))=S1;have yW:S1.length=l.ak.length:=by rw[<-yP];simp
 have r1: ∀d:Int,0<=d->rd S1 d=if d=c then bp.mk ((rd l.ak c).key) (-1) ((rd l.ak c).aZ) else rd l.ak d:=λd d0=>by rw[<-yP];exact j5 h0 h1 d0
 generalize DR:List.set S1 (Int.toNat c) (bp.mk ((rd S1 c).key) ((rd S1 c).cF) l.cz)=S2;have qC:S2.length=l.ak.length:=by rw[<-DR];simpa using yW
 have r2: ∀d:Int,0<=d->rd S2 d=if d=c then bp.mk ((rd l.ak c).key) (-1) l.cz else rd l.ak d:=λd d0=>by
  rw[<-DR,j5 h0 U d0,r1 c h0,af J];split
  ·rfl
  ·rename_i q;rw[r1 d d0,ah q]
 rw[af ⟨h0,h1⟩,af ⟨h0,by omega⟩]
 have Av: ∀d:Int,0<=d->(rd S2 d).key=(rd l.ak d).key:=λd d0=>by
  rw[r2 d d0];split
  ·rename_i q;rw[q]
  ·rfl
 have qD:(c::ord).Nodup:=List.nodup_cons.2 ⟨hc,h.nd⟩
 by_cases z:ord=[]
 ·subst z;have hn:l.cz= -1:=h.nw;rw[af (by simp[hn])]
  refine⟨_,J,J,J,qC,Av,qD,λd gw=>?_,⟨?_,?_,trivial⟩,J,J⟩
  ·simp only[List.mem_cons,List.not_mem_nil,or_false] at gw;subst gw;simp only;omega
  ·simp only;rw[r2 c h0,af J]
  ·simp only;rw[r2 c h0,af J,hn];rfl
 ·obtain⟨a,r,e⟩:=List.exists_cons_of_ne_nil z;have hn:l.cz=a:=by rw[h.nw,e];rfl
  have ha:=h.mem a (by rw[e];exact List.mem_cons_self ..)
  have M5:a≠c:=λq=>hc (by rw[e,<-q];exact List.mem_cons_self ..)
  rw[hn] at r2⊢;rw[ah bk,af (by rw[qC];exact ha)]
  have r3: ∀d:Int,0<=d->rd (List.set S2 a.toNat (bp.mk (rd S2 a).key c (rd S2 a).aZ)) d=if d=a then bp.mk (rd S2 a).key c (rd S2 a).aZ else rd S2 d:=λd d0=>j5 ha.1 (by rw[qC];exact ha.2) d0
  refine⟨_,J,J,J,by simpa using qC,λd d0=>?_,qD,λd gw=>?_,⟨?_,?_,?_⟩,J,?_⟩
  ·rw[<-Av d d0];simp only;rw[r3 d d0];split
   ·rename_i q;rw[q]
   ·rfl
  ·simp only[List.length_set];rw[qC];rcases List.mem_cons.1 gw with rfl |q
   ·exact⟨h0,h1⟩
   ·exact h.mem d q
  ·simp only;rw[r3 c h0,ah M5.symm,r2 c h0,af J]
  ·simp only;rw[r3 c h0,ah M5.symm,r2 c h0,af J,e];rfl
  ·refine WX ord (-1) c (-1) (λd gw=>?_) h.nd (λ_=>?_) h.xP
   ·have:=h.mem d gw;have JP:d≠c:=λq=>hc (q▸gw);rw[r3 d this.1];refine⟨?_,λq=>?_⟩
    ·split
     ·rename_i q;rw[q,r2 a ha.1,ah M5]
     ·rw[r2 d this.1,ah JP]
    ·rw[e] at q;simp only[hd] at q;rw[ah q,r2 d this.1,ah JP]
   ·rw[e];simp only[hd];rw[r3 a ha.1,af J]
  ·simp only;rw[h.ol,e];rfl
theorem rk.U9 {l:fS} {k:Int} {ord:List Int} (h:rk l k ord):zV l ord:=⟨h.nd,λc hc=>(h.mem c).1 hc,h.xP,h.nw,h.ol⟩
theorem ajc {l:fS} {k:Int} {ord:List Int} (h:rk l k ord) (a b:Int):Ok (xq.f l a b) (λr=> ∃A B,rk r.2.2.2 k (r.1::(A++B))/\
 ((r.2.1=true/\r.2.2.1=false/\cW l.fE (a,b)=some r.1/\ord=A++r.1::B/\r.2.2.2.ak.length=l.ak.length/\ ∀d:Int,0<=d->(rd r.2.2.2.ak d).key=(rd l.ak d).key)∨
  (r.2.1=false/\r.2.2.1=false/\cW l.fE (a,b)=none/\ord=A++B/\r.1=l.ak.length/\r.2.2.2.ak.length=l.ak.length+1/\(∀d:Int,0<=d->d<l.ak.length->(rd r.2.2.2.ak d).key=(rd l.ak d).key)/\(rd r.2.2.2.ak r.1).key=(a,b))∨
  (r.2.1=false/\r.2.2.1=true/\cW l.fE (a,b)=none/\ord=A++r.1::B/\B=[]/\(l.ak.length:Int)=k/\r.2.2.2.ak.length=l.ak.length/\(∀d:Int,0<=d->d≠r.1->(rd r.2.2.2.ak d).key=(rd l.ak d).key)/\(rd r.2.2.2.ak r.1).key=(a,b)))):=by
 have JU:=h.kb;have JR:=h.lF;unfold xq.f
 cases hg:cW l.fE (a,b) with
 |some c=>
  have hm:bN l.fE (a,b)=true:=by unfold bN;rw[hg];rfl
  have hv:aP l.fE (a,b)=c:=by unfold aP;rw[hg];rfl
  obtain⟨c0,c1,c2⟩:=(h.sl (a,b) c).1 hg;obtain⟨A,B,Jy⟩:=List.append_of_mem ((h.mem c).2 ⟨c0,c1⟩);obtain⟨l1,e1,k1,HG,n1,Km,uq⟩:=Xv (A:=A) (B:=B) (c:=c) (Jy▸h.U9);rw[hm,hv,af J,e1];simp only[aG];have qD:=h.nd;rw[Jy] at qD;obtain⟨nA,nB,_⟩:=OJ qD;have GL:zV ⟨l1.k,l1.ak,cC l1.fE (a,b) c,l1.cz,l1.dg⟩ (A++B):=⟨uq.nd,uq.mem,uq.xP,uq.nw,uq.ol⟩;obtain⟨l2,e2,k2,wo,n2,pt,rJ⟩:=On (c:=c) GL c0 (by simp only;omega) (by simp[nA,nB])
  rw[e2];simp only at k2 wo n2 pt;have jZ: ∀d:Int,0<=d->(rd l2.ak d).key=(rd l.ak d).key:=λd d0=>(pt d d0).trans (Km d d0);refine Ok.pure ⟨A,B,⟨by simp only;rw[k2,k1];exact h.k_,JU,by simp only;omega,rJ.nd,λd=>?_,rJ.xP,rJ.nw,rJ.ol,?_,λkey d=>?_⟩,.inl ⟨J,J,J,Jy,by simp only;omega,jZ⟩⟩
  ·have:=h.mem d;rw[Jy] at this;simp only[n2,n1,List.mem_cons,List.mem_append] at this⊢;rw[<-this];constructor
   ·rintro(q |q |q)
    ·exact .inr (.inl q)
    ·exact .inl q
    ·exact .inr (.inr q)
   ·rintro(q |q |q)
    ·exact .inr (.inl q)
    ·exact .inl q
    ·exact .inr (.inr q)
  ·simp only;rw[wo,HG];exact Cy h.sn _ _
  ·simp only;rw[wo,HG,AP,n2,n1]
   by_cases q:(a,b)=key
   ·rw[af q,<-q];constructor
    ·intro w;simp only[Option.some.injEq] at w;subst w;exact⟨c0,c1,by rw[jZ c c0];exact c2⟩
    ·rintro⟨w0,w1,w2⟩;rw[jZ d w0] at w2;rw[<-hg];exact(h.sl _ _).2 ⟨w0,w1,w2⟩
   ·rw[ah q,h.sl key d];exact⟨λ⟨w0,w1,w2⟩=>⟨w0,w1,by rw[jZ d w0];exact w2⟩,λ⟨w0,w1,w2⟩=>⟨w0,w1,by rw[jZ d w0] at w2;exact w2⟩⟩
 |none=>
  have hm:bN l.fE (a,b)=false:=by unfold bN;rw[hg];rfl
  have gF: ∀d:Int,0<=d->d<l.ak.length->(rd l.ak d).key≠(a,b):=λd d0 d1 e=>by
   have:=(h.sl (a,b) d).2 ⟨d0,d1,e⟩;rw[hg] at this;simp at this
  rw[hm,ah bj]
  by_cases aQ:(l.ak.length:Int)<l.k
  ·rw[h.k_] at aQ;rw[h.k_,af aQ,af U];simp only[aG];have Gq: ∀d:Int,0<=d->d<l.ak.length->rd (l.ak++[bp.mk (a,b) 0 0]) d=rd l.ak d:=λd d0 d1=>zp d0 d1
   have D8:rd (l.ak++[bp.mk (a,b) 0 0]) (l.ak.length:Int)=bp.mk (a,b) 0 0:=by rw[OY U (Int.le_refl _),af J]
   have GL:zV ⟨k,l.ak++[bp.mk (a,b) 0 0],cC l.fE (a,b) (l.ak.length:Int),l.cz,l.dg⟩ ord:=
    ⟨h.nd,λc hc=>by have:=(h.mem c).1 hc;simp;omega,EF ord _ _ (λc hc=>by have:=(h.mem c).1 hc;simp only;rw[Gq c this.1 this.2];exact⟨J,J⟩) h.xP,h.nw,h.ol⟩
   have kq:(l.ak.length:Int)∉ord:=λz=>by have:=(h.mem _).1 z;omega
   obtain⟨l2,e2,k2,wo,n2,pt,rJ⟩:=On (c:=(l.ak.length:Int)) GL U bk kq;rw[e2];simp only[List.length_append,List.length_cons,List.length_nil] at k2 wo n2 pt;refine Ok.pure ⟨[],ord,⟨k2,JU,by simp only;omega,rJ.nd,λd=>?_,rJ.xP,rJ.nw,rJ.ol,?_,λkey d=>?_⟩,.inr (.inl ⟨J,J,by first |rfl |trivial,J,J,by simp only;omega,λd d0 d1=>?_,?_⟩)⟩
   ·simp only[List.nil_append,List.mem_cons,n2];rw[h.mem d];omega
   ·simp only;rw[wo];exact Cy h.sn _ _
   ·simp only;rw[wo,AP,n2]
    by_cases q:(a,b)=key
    ·rw[af q,<-q];constructor
     ·intro w;simp only[Option.some.injEq] at w;subst w;exact⟨by omega,by omega,by rw[pt _ U,D8]⟩
     ·rintro⟨w0,w1,w2⟩
      by_cases y:d=l.ak.length
      ·rw[y]
      ·rw[pt d w0,Gq d w0 U] at w2;exact absurd w2 (gF d w0 U)
    ·rw[ah q,h.sl key d];constructor
     ·rintro⟨w0,w1,w2⟩;exact⟨w0,by omega,by rw[pt d w0,Gq d w0 w1];exact w2⟩
     ·rintro⟨w0,w1,w2⟩
      by_cases y:d=l.ak.length
      ·rw[y,pt _ U,D8] at w2;exact absurd w2 q
      ·rw[pt d w0,Gq d w0 U] at w2;exact⟨w0,by omega,w2⟩
   ·simp only;rw[pt d d0,Gq d d0 d1]
   ·simp only;rw[pt _ U,D8]
  ·rw[h.k_] at aQ;rw[h.k_,ah aQ];have bM:ord≠[]:=λz=>by have:=(h.mem 0).2 U;rw[z] at this;simp at this
   have hlm:=GP ord (-1) bM;have rH:=(h.mem _).1 hlm;obtain⟨A,hA⟩: ∃A,ord=A++jf ord (-1)::[]:=by
    refine⟨ord.dropLast,?_⟩;have:jf ord (-1)=ord.getLast bM:=by
     have: ∀(L:List Int) (p:Int) (hL:L≠[]),jf L p=L.getLast hL:=by
      intro L
      induction L with
      |nil=>intro p hL;exact absurd J hL
      |cons c r ih=>
       intro p hL
       cases r with
       |nil=>rfl
       |cons d r=>rw[List.getLast_cons bj];exact ih c bj
     exact this ord (-1) bM
    rw[this,List.dropLast_concat_getLast]
   rw[<-h.ol] at hA rH;generalize hc:l.dg=c at*;obtain⟨l1,e1,k1,HG,n1,Km,uq⟩:=Xv (A:=A) (B:=[]) (c:=c) (hA▸h.U9);rw[e1];simp only[aG];rw[af U];simp only[aG];have hck:((rd l1.ak c).key.1,(rd l1.ak c).key.2)=(rd l.ak c).key:=by rw[Km c rH.1]
   rw[hck];have hr: ∀d:Int,0<=d->rd (List.set l1.ak c.toNat (bp.mk (a,b) (rd l1.ak c).cF (rd l1.ak c).aZ)) d=if d=c then bp.mk (a,b) (rd l1.ak c).cF (rd l1.ak c).aZ else rd l1.ak d:=λd d0=>j5 rH.1 U d0
   have qD:=h.nd;rw[hA] at qD;obtain⟨nA,nB,_⟩:=OJ qD;have GL:zV ⟨l1.k,List.set l1.ak c.toNat (bp.mk (a,b) (rd l1.ak c).cF (rd l1.ak c).aZ),cC (dT l1.fE (rd l.ak c).key) (a,b) c,l1.cz,l1.dg⟩ (A++[]):=
    ⟨uq.nd,λd gw=>by simp only[List.length_set];exact uq.mem d gw,EF _ _ _ (λd gw=>by
      have:=uq.mem d gw;simp only;rw[hr d this.1,ah (λq=>nA (by rw[<-q];simpa using gw))];exact⟨J,J⟩) uq.xP,uq.nw,uq.ol⟩
   obtain⟨l2,e2,k2,wo,n2,pt,rJ⟩:=On (c:=c) GL rH.1 bk (by simpa using nA)
   rw[e2];simp only[List.length_set] at k2 wo n2 pt;have jZ: ∀d:Int,0<=d->d≠c->(rd l2.ak d).key=(rd l.ak d).key:=λd d0 JP=>by rw[pt d d0,hr d d0,ah JP,Km d d0]
   have JV:(rd l2.ak c).key=(a,b):=by rw[pt c rH.1,hr c rH.1,af J]
   refine Ok.pure ⟨A,[],⟨by simp only;rw[k2,k1];exact h.k_,JU,by simp only;omega,rJ.nd,λd=>?_,rJ.xP,rJ.nw,rJ.ol,?_,λkey d=>?_⟩,.inr (.inr ⟨J,J,by first |rfl |trivial,hA,J,by omega,by simp only;omega,jZ,JV⟩)⟩
   ·have:=h.mem d;rw[hA] at this;simp only[n2,n1,List.mem_cons,List.mem_append,List.not_mem_nil,or_false] at this⊢;rw[<-this];exact or_comm
   ·simp only;rw[wo,HG];exact Cy (Kt h.sn _) _ _
   ·simp only;rw[wo,HG,AP,Kv h.sn,n2,n1]
    by_cases q:(a,b)=key
    ·rw[af q,<-q];constructor
     ·intro w;simp only[Option.some.injEq] at w;subst w;exact⟨rH.1,rH.2,JV⟩
     ·rintro⟨w0,w1,w2⟩
      by_cases y:d=c
      ·rw[y]
      ·rw[jZ d w0 y] at w2;exact absurd w2 (gF d w0 w1)
    ·rw[ah q]
     by_cases y:(rd l.ak c).key=key
     ·rw[af y];constructor
      ·intro w;simp at w
      ·rintro⟨w0,w1,w2⟩
       by_cases x:d=c
       ·rw[x,JV] at w2;exact absurd w2 q
       ·rw[jZ d w0 x] at w2;have a1:=(h.sl key d).2 ⟨w0,w1,w2⟩;have a2:=(h.sl key c).2 ⟨rH.1,rH.2,y⟩;rw[a1] at a2;simp only[Option.some.injEq] at a2;exact absurd a2 x
     ·rw[ah y,h.sl key d];constructor
      ·rintro⟨w0,w1,w2⟩;have x:d≠c:=λx=>y (by rw[<-x];exact w2)
       exact⟨w0,w1,by rw[jZ d w0 x];exact w2⟩
      ·rintro⟨w0,w1,w2⟩;have x:d≠c:=λx=>q (by rw[x,JV] at w2;exact w2)
       exact⟨w0,w1,by rw[jZ d w0 x] at w2;exact w2⟩
def si (t:aL):Prop:=1<=t.W/\t.W<=16/\1<=t.H/\t.H<=16/\(t.C.length:Int)=t.W*t.H/\0∉t.C
instance (t:aL):Decidable (si t):=by unfold si;infer_instance
theorem oH {t:aL} (h:si t):1<=t.C.length/\t.C.length<=256:=by
 obtain⟨a,b,c,d,e,_⟩:=h;have h1:t.W*t.H<=16*16:=ky U U b d;have h2:1*1<=t.W*t.H:=ky U U a c;omega
theorem K9 (t:aL) (hb:t.C.length<4611686018427387904):tz.f t=some (decide (si t)):=by
 unfold tz.f Bj.f;simp only[aG]
 by_cases hw:1<=t.W/\t.W<=16
 ·by_cases hh:1<=t.H/\t.H<=16
  ·have h1:t.W*t.H<=16*16:=ky U U hw.2 hh.2;have h2:0<=t.W*t.H:=nG U U;rw[af bk,af bk,bm U U,Mp _ _ hb]
   by_cases hl:(t.C.length:Int)=t.W*t.H
   ·rw[af (by simpa using hl)]
    simp only[aG]
    congr 1
    rw[Bool.eq_iff_iff];simp[si,hw,hh,hl]
   ·rw[ah (by simpa using hl),decide_eq_false (λq=>hl q.2.2.2.2.1)];rfl
  ·rw[af bk,ah bk,decide_eq_false (λq=>hh ⟨q.2.2.1,q.2.2.2.1⟩)];rfl
 ·rw[ah bk,decide_eq_false (λq=>hw ⟨q.1,q.2.1⟩)];rfl
def mi (t:aL):Prop:=si t/\ ∀c:Int,0<=c->c<t.C.length->1<=rd t.C c/\rd t.C c<=255
theorem ai0 {t:aL} (h:mi t) (c:Int):Bi.f t c=some (if 0<=c/\c<t.C.length then rd t.C c else 0):=by
 have hl:=oH h.1;unfold Bi.f EM.f;rw[K9 _ U,decide_eq_true h.1]
 by_cases a:0<=c
 ·by_cases b:c<t.C.length
  ·have:=h.2 c a b;rw[af a,af b,af ⟨a,b⟩];simp only[aG,Bool.not_true,Bool.false_eq_true,if_false];rw[af ⟨a,b⟩,wi U U]
  ·simp only[af a,ah b,ah (show ¬(0<=c/\c<t.C.length) from λq=>b q.2)];rfl
 ·simp only[ge_iff_le,ah a,ah (show ¬(0<=c/\c<t.C.length) from λq=>a q.1)];rfl
def fU (w h c side:Int):Int:=if cB w h c side<0∨aW w h (cB w h c side)=aW w h c then-1 else cB w h c side
theorem VF (w h c side:Int):yF.f w h c side=some (fU w h c side):=by
 unfold yF.f fU;rw[HN,aG]
 by_cases h1:cB w h c side<0
 ·rw[af h1,af (Or.inl h1)];rfl
 ·rw[ah h1,rR,aG,rR,aG]
  by_cases h2:aW w h (cB w h c side)=aW w h c
  ·rw[af (Or.inr h2),h2];simp
  ·rw[ah (c:=_∨_) (λq=>q.elim h1 h2)];simp[h2]
theorem agH {w h c side:Int} (hn: ¬(0<=side/\side<=3)):fU w h c side= -1:=by
 unfold fU
 by_cases hc:bV w h c
 ·by_cases h4:side=4
  ·subst h4;rw[aiO hc,af (Or.inr rfl)]
  ·have:cB w h c side= -1:=by unfold cB;rw[ah U]
   rw[this,af (Or.inl U)]
 ·have:cB w h c side= -1:=by unfold cB;rw[ah (λq=>hc q.1)]
  rw[this,af (Or.inl U)]
theorem VE {w h c side:Int} (h0:0<=fU w h c side):bV w h c/\0<=side/\side<=3/\bV w h (fU w h c side)/\fU w h c side=cB w h c side/\aW w h (fU w h c side)≠aW w h c:=by
 have Ch:0<=side/\side<=3:=by
  by_cases hs:0<=side/\side<=3
  ·exact hs
  ·rw[agH hs] at h0;omega
 by_cases hq:cB w h c side<0∨aW w h (cB w h c side)=aW w h c
 ·unfold fU at h0;rw[af hq] at h0;omega
 ·have e:fU w h c side=cB w h c side:=by unfold fU;rw[ah hq]
  have hc:bV w h c:=by
   by_cases hc:bV w h c
   ·exact hc
   ·have:cB w h c side= -1:=by unfold cB;rw[ah (λq=>hc q.1)]
    omega
  rcases K8 hc Ch.1 (by omega:side<=4) with⟨h1,_⟩ |⟨h1,_⟩
  ·omega
  ·exact⟨hc,Ch.1,Ch.2,e▸h1,e,λq=>hq (.inr (e▸q))⟩
theorem MP {w h s l:Int} (hs:bJ w h s) (h0:0<=l) (h1:l<(ax w h s).1*(ax w h s).2):
 bV w h (c_ w h s l)/\c_ w h s l%w=16*(s%(bq w h).1)+l%(ax w h s).1/\c_ w h s l/w=16*(s/(bq w h).1)+l/(ax w h s).1:=by
 obtain⟨a1,a2,a3,a4,a5,a6⟩:=xc hs h0 h1;have hp:=uG hs;have e:c_ w h s l=(16*(s/(bq w h).1)+l/(ax w h s).1)*w+(16*(s%(bq w h).1)+l%(ax w h s).1):=by unfold c_;rw[af ⟨hs,h0,h1⟩]
 have:=sw (h:=h) (x:=16*(s%(bq w h).1)+l%(ax w h s).1) (y:=16*(s/(bq w h).1)+l/(ax w h s).1) U a5 U a6;rw[e];exact⟨⟨tl hs,this⟩,qK U a5⟩
theorem aiq {w h s:Int} (hs:bJ w h s):(ax w h s).1=min 16 (w-16*(s%(bq w h).1))/\(ax w h s).2=min 16 (h-16*(s/(bq w h).1)):=by
 unfold ax;rw[af hs];exact⟨J,J⟩
theorem K0 {w h s l:Int} (hs:bJ w h s) (h0:0<=l) (h1:l<(ax w h s).1*(ax w h s).2):aW w h (c_ w h s l)=s:=by
 obtain⟨hc,e1,e2⟩:=MP hs h0 h1;obtain⟨a1,a2,a3,a4,a5,a6⟩:=xc hs h0 h1;obtain⟨z1,z2,z3,z4⟩:=qf hs;unfold aW;rw[af hc,e1,e2];have q1:(16*(s/(bq w h).1)+l/(ax w h s).1)/16=s/(bq w h).1:=U;have q2:(16*(s%(bq w h).1)+l%(ax w h s).1)/16=s%(bq w h).1:=U;rw[q1,q2];have:=Int.mul_ediv_add_emod s (bq w h).1;rw[Int.mul_comm] at this;exact this
def A9 (w h s side:Int):Prop:=if side=0 then 1<=s/(bq w h).1 else if side=1 then s%(bq w h).1+1<(bq w h).1 else if side=2 then s/(bq w h).1+1<(bq w h).2 else 1<=s%(bq w h).1
def uD (tw th l side:Int):Prop:=if side=0 then l/tw=0 else if side=1 then l%tw=tw-1 else if side=2 then l/tw=th-1 else l%tw=0
instance (w h s side:Int):Decidable (A9 w h s side):=by unfold A9;infer_instance
instance (tw th l side:Int):Decidable (uD tw th l side):=by unfold uD;infer_instance
theorem KJ {w h s l side:Int} (hs:bJ w h s) (h0:0<=l) (h1:l<(ax w h s).1*(ax w h s).2) (s0:0<=side) (s3:side<=3):
 0<=fU w h (c_ w h s l) side↔A9 w h s side/\uD (ax w h s).1 (ax w h s).2 l side:=by
 obtain⟨hc,e1,e2⟩:=MP hs h0 h1;obtain⟨a1,a2,a3,a4,a5,a6⟩:=xc hs h0 h1;obtain⟨z1,z2,z3,z4⟩:=qf hs;obtain⟨y1,y2⟩:=aiq hs;obtain⟨p1,p2,p3,p4⟩:=uG hs;have yZ:=K0 hs h0 h1;have hm:=tl hs;have eS:(bq w h).1=(w+15)/16/\(bq w h).2=(h+15)/16:=by unfold bq;rw[af hm];exact⟨J,J⟩
 have Gv:side=0∨side=1∨side=2∨side=3:=U;rcases K8 hc s0 (by omega:side<=4) with⟨b1,b2⟩ |⟨b1,b2,b3,b4,b5,b6,b7⟩
 ·have:fU w h (c_ w h s l) side= -1:=by unfold fU;rw[b1,af (Or.inl U)]
  rw[this];refine⟨λq=>by omega,λq=>?_⟩
  exfalso;apply b2;rw[e1,e2];obtain⟨q1,q2⟩:=q;unfold A9 at q1;unfold uD at q2;unfold dX dY;rcases Gv with rfl |rfl |rfl |rfl<;>simp at q1 q2⊢ <;>omega
 ·have b8: ¬cB w h (c_ w h s l) side<0:=by have:=b1.2;omega
  have key:aW w h (cB w h (c_ w h s l) side)=s↔(16*(s/(bq w h).1)+l/(ax w h s).1+dY side)/16=s/(bq w h).1/\(16*(s%(bq w h).1)+l%(ax w h s).1+dX side)/16=s%(bq w h).1:=by
   have uh:=EC b1;have yX:=qK (a:=(bq w h).1) (y:=cB w h (c_ w h s l) side/w/16) uh.1 uh.2.1;have e:aW w h (cB w h (c_ w h s l) side)=cB w h (c_ w h s l) side/w/16*(bq w h).1+cB w h (c_ w h s l) side%w/16:=by unfold aW;rw[af b1]
   rw[<-e,b2,b3,e1,e2] at yX;constructor
   ·intro q;rw[q] at yX;exact⟨yX.2.symm,yX.1.symm⟩
   ·rintro⟨q1,q2⟩;rw[e,b2,b3,e1,e2,q1,q2];have:=Int.mul_ediv_add_emod s (bq w h).1;rw[Int.mul_comm] at this;exact this
  rw[e1] at b4 b5;rw[e2] at b6 b7;unfold fU;rw[yZ]
  by_cases hq:aW w h (cB w h (c_ w h s l) side)=s
  ·rw[af (Or.inr hq)];obtain⟨k1,k2⟩:=key.mp hq;refine⟨λq=>by omega,λq=>?_⟩
   exfalso;obtain⟨q1,q2⟩:=q;unfold A9 at q1;unfold uD at q2;unfold dX at k2;unfold dY at k1;rcases Gv with rfl |rfl |rfl |rfl<;>simp at q1 q2 k1 k2<;>omega
  ·rw[ah (c:=_∨_) (λq=>q.elim b8 hq)];refine⟨λ_=>?_,λ_=>by omega⟩
   rw[key] at hq;unfold A9 uD;unfold dX at hq b4 b5;unfold dY at hq b6 b7;rcases Gv with rfl |rfl |rfl |rfl<;>simp at hq b4 b5 b6 b7⊢ <;>omega
instance :DecidableEq a_:=λa b=>decidable_of_iff (a.Cell=b.Cell/\a.cI=b.cI/\a.Key=b.Key) (by obtain⟨a1,a2,a3⟩:=a;obtain⟨b1,b2,b3⟩:=b;simp)
theorem Pn (a b:a_):((a.Cell==b.Cell)&&((a.cI==b.cI)&&((a.Key==b.Key)&&true)))=decide (a=b):=by
 obtain⟨a1,a2,a3⟩:=a;obtain⟨b1,b2,b3⟩:=b;rw[Bool.eq_iff_iff];simp
theorem aaQ {R:a_->a_->Prop} (s:List a_) (hs:s.Pairwise R) (hb:s.length<=1000000) {x2:Int} (h2:1<=x2/\x2<s.length): ∀(n k:Nat) (x:List a_) (x8 x9:Int),(s.length-x2-x9).toNat<=n->n<k->x.length=s.length->
 1<=x8->x8<=x2+x9-1->1<=x9->x2+x9<=s.length->(∀c:Int,x2+x9-1<=c->c<s.length->rd x c=rd s c)->
 (∀i j:Int,0<=i->i<j->j<x8->R (rd x i) (rd x j))->(∀i c:Int,0<=i->i<x8->x2+x9<=c->c<s.length->R (rd x i) (rd s c))->
 (∀i:Int,0<=i->i<x8->rd x i∈s)->(∀c:Int,0<=c->c<x2+x9-> ∃i:Int,0<=i/\i<x8/\rd x i=rd s c)->
 Ok (jA.l1 k s x2 x x8 x9) (λr=>r.length<=s.length/\(∀e,e∈r↔e∈s)/\r.Pairwise R):=by
 intro n
 induction n with
 |zero=>
  intro k x x8 x9 hn hk hx h8 Su h9 hle hc hR FY cn D5;obtain⟨k,rfl⟩:=bl hk;have D9:((aA x x2 (s.length:Int)).length:Int)=s.length-x2:=by rw[iN U];omega
  rw[jA.l1,D9,ah U,af U];have e:(ck x (Int.toNat x8) (List.length (aA x x8 (List.length x:Int))) (List.replicate (List.length (aA x x8 (List.length x:Int))) (default:a_)))=x.take x8.toNat++List.replicate (x.length-x8.toNat) default:=by
   unfold ck;rw[iN U,List.drop_of_length_le U];simp
  rw[e];have e2:aA (x.take x8.toNat++List.replicate (x.length-x8.toNat) (default:a_)) 0 x8=x.take x8.toNat:=by
   unfold aA;simp only[Int.toNat_zero,List.drop_zero,Nat.sub_zero];rw[List.take_append_of_le_length bk,List.take_take];simp
  have hr: ∀i:Int,0<=i->i<x8->rd (x.take x8.toNat) i=rd x i:=λi i0 i1=>by
   rw[jj (xs:=List.take _ _) bk,List.getElem_take,jj U]
  have hl:(x.take x8.toNat).length=x8.toNat:=by simp;omega
  refine Ok.cx bk ?_;rw[e2];refine Ok.pure ⟨by omega,λy=>⟨λhy=>?_,λhy=>?_⟩,?_⟩
  ·obtain⟨i,i0,i1,rfl⟩:=jI hy;rw[hr i i0 U];exact cn i i0 U
  ·obtain⟨c,c0,c1,rfl⟩:=jI hy;obtain⟨i,i0,i1,q⟩:=D5 c c0 U;rw[<-q,<-hr i i0 i1];exact ek i0 U
  ·refine OZ λi j i0 ij j1=>?_
   rw[hr i i0 U,hr j U U];exact hR i j i0 ij U
 |succ n ih=>
  intro k x x8 x9 hn hk hx h8 Su h9 hle hc hR FY cn D5
  by_cases D1:x2+x9=s.length
  ·exact ih k x x8 x9 U U hx h8 Su h9 hle hc hR FY cn D5
  obtain⟨k,rfl⟩:=bl hk;have D9:((aA x x2 (s.length:Int)).length:Int)=s.length-x2:=by rw[iN U];omega
  have D7: ∀i:Int,0<=i->i<s.length-x2->rd (aA x x2 (s.length:Int)) i=rd x (x2+i):=λi i0 i1=>by
   unfold aA;rw[jj (xs:=List.take _ _) bk,List.getElem_take,List.getElem_drop,jj U]
   congr 1;omega
  rw[jA.l1,D9,wi (x:=x9-1) U U];simp only[Pn];rw[D7 x9 U U,D7 (x9-1) U U,hc (x2+x9) U U,hc (x2+(x9-1)) U U,wi (x:=x9+1) U U];refine Ok.pos U (Ok.cx U (Ok.cx U (Ok.ite (λq=>Ok.cx U ?_) λq=>?_)))
  ·rw[wi U U];have dS: ∀c:Int,0<=c->rd (List.set x x8.toNat (rd s (x2+x9))) c=if c=x8 then rd s (x2+x9) else rd x c:=λc c0=>j5 U U c0
   refine ih k _ (x8+1) (x9+1) U U (by simpa using hx) U U U U (λc c0 c1=>?_) (λi j i0 ij j1=>?_) (λi c i0 i1 c0 c1=>?_) (λi i0 i1=>?_) (λc c0 c1=>?_)
   ·rw[dS c U,ah U];exact hc c U c1
   ·rw[dS i i0,dS j U,ah U];split
    ·exact FY i _ i0 U U U
    ·exact hR i j i0 ij U
   ·rw[dS i i0];split
    ·exact uz hs U U c1
    ·exact FY i c i0 U U c1
   ·rw[dS i i0];split
    ·exact ek U U
    ·exact cn i i0 U
   ·by_cases z:c=x2+x9
    ·exact⟨x8,by omega,by omega,by rw[dS _ U,af J,z]⟩
    ·obtain⟨i,i0,i1,y⟩:=D5 c c0 U;exact⟨i,i0,by omega,by rw[dS i i0,ah U];exact y⟩
  ·have q:rd s (x2+x9)=rd s (x2+(x9-1)):=by simpa using q
   refine ih k x x8 (x9+1) U U hx h8 U U U (λc c0 c1=>hc c U c1) hR (λi c i0 i1 c0 c1=>FY i c i0 i1 U c1) cn (λc c0 c1=>?_)
   by_cases z:c=x2+x9
   ·rw[z,q];exact D5 _ U U
   ·exact D5 c c0 U
theorem aaP {R:a_->a_->Prop} (s:List a_) (hs:s.Pairwise R) (hb:s.length<=1000000): ∀(n k:Nat) (i:Int),(s.length-i).toNat<=n->n<k->1<=i->
 Ok (jA.l0 k s i) (λr=>r.length<=s.length/\(∀e,e∈r↔e∈s)/\r.Pairwise R):=by
 intro n
 induction n with
 |zero=>
  intro k i hn hk hi;obtain⟨k,rfl⟩:=bl hk;rw[jA.l0,ah U];exact Ok.pure ⟨Nat.le_refl _,λ_=>Iff.rfl,hs⟩
 |succ n ih=>
  intro k i hn hk hi;obtain⟨k,rfl⟩:=bl hk;rw[jA.l0];refine Ok.ite (λhl=>?_) λ_=>Ok.pure ⟨Nat.le_refl _,λ_=>Iff.rfl,hs⟩
  rw[wi (x:=i-1) U U];simp only[Pn];refine Ok.cx U (Ok.cx U (Ok.ite (λq=>Ok.cx U ?_) λq=>?_))
  ·have q:rd s i=rd s (i-1):=by simpa using q
   refine aaQ s hs hb (x2:=i) U s.length fuel s i 1 U (by rw[cD];omega) J hi U U U (λ_ _ _=>rfl) (λa b a0 ab b1=>uz hs a0 ab U) (λa c a0 a1 c0 c1=>uz hs a0 U c1) (λa a0 a1=>ek a0 U) (λc c0 c1=>?_)
   by_cases z:c=i
   ·exact⟨i-1,by omega,by omega,by rw[z,q]⟩
   ·exact⟨c,c0,by omega,J⟩
  ·rw[wi U U];exact ih k (i+1) U U U
theorem aaO {R:a_->a_->Prop} (s:List a_) (hs:s.Pairwise R) (hb:s.length<=1000000):Ok (jA.f s) (λr=>r.length<=s.length/\(∀e,e∈r↔e∈s)/\r.Pairwise R):=by
 unfold jA.f;exact Ok.ite (λ_=>Ok.pure ⟨Nat.le_refl _,λ_=>Iff.rfl,hs⟩) λ_=>aaP s hs hb s.length fuel 1 U (by rw[cD];omega) U
def Af (x y:Int):Int:=if x<y then-1 else if x>y then 1 else 0
theorem aaL (x y:Int):sx.f x y=some (Af x y):=by
 unfold sx.f cmp_isNaN_int.f Af;simp only[aG,bne_self_eq_false,Bool.false_eq_true,if_false];split
 ·rfl
 ·split<;>rfl
theorem agD (a b c:Int):mH.f [a,b,c]=some (if a≠0 then a else if b≠0 then b else c):=by
 unfold mH.f;obtain⟨k,hk⟩: ∃q,fuel=q+1+1+1+1:=⟨fuel-4,by rw[cD]⟩
 have w1:aa (0+1)=1:=rfl;have w2:aa (1+1)=2:=rfl;have w3:aa (2+1)=3:=rfl;have e0:rd [a,b,c] 0=a:=rfl;have e1:rd [a,b,c] 1=b:=rfl;have e2:rd [a,b,c] 2=c:=rfl;have l3:(List.length [a,b,c]:Int)=3:=rfl;rw[hk];simp only[mH.l0,l3,w1,w2,w3,e0,e1,e2]
 by_cases ha:a=0
 ·by_cases hb:b=0
  ·by_cases hc:c=0<;>simp[ha,hb,hc]
  ·simp[ha,hb]
 ·simp[ha]
def uF (a b:a_):Int:=if Af a.Key b.Key≠0 then Af a.Key b.Key else if Af a.Cell b.Cell≠0 then Af a.Cell b.Cell else Af a.cI b.cI
theorem agE (a b:a_):pG.f a b=some (uF a b):=by
 unfold pG.f;simp only[aaL,agD,aG];rfl
def tc (a b:a_):Prop:=a.Key<b.Key∨a.Key=b.Key/\(a.Cell<b.Cell∨a.Cell=b.Cell/\a.cI<b.cI)
theorem K5 (a b:a_):ltOf uF a b=true↔tc a b:=by
 unfold ltOf uF tc Af;rw[decide_eq_true_iff]
 repeat' split
 all_goals omega
theorem swo:Go.Sort.SWO (ltOf uF):=by
 refine⟨λx=>?_,λx y z h1 h2=>?_,λx y z h1 h2=>?_⟩
 ·rw[<-Bool.not_eq_true,K5];unfold tc;omega
 ·rw[K5] at*;unfold tc at*;omega
 ·rw[<-Bool.not_eq_true,K5] at*;unfold tc at*;omega
theorem Ps (l:List a_) (hb:l.length<=1000000):Ok (mV.f l) (λr=>r.length<=l.length/\(∀e,e∈r↔e∈l)/\r.Pairwise (λa b=> ¬tc b a)):=by
 unfold mV.f rS.f Bb.f;have e:(λa b=>Option.getD (pG.f a b) 0)=uF:=by funext a b;rw[agE];rfl
 have hlen:=HJ swo l;obtain⟨⟨p1,p2,p3⟩,hs⟩:=W6 swo l;have hp: ∀x,x∈pJ uF l↔x∈l:=λx=>by
  have h1:(pJ uF l).toArray.extract 0 l.length=(pJ uF l).toArray:=by rw[<-hlen];simp
  have h2:l.toArray.extract 0 l.length=l.toArray:=by simp
  rw[h1,h2] at p3;exact p3.mem_iff
 have hpw:(pJ uF l).Pairwise (λa b=> ¬tc b a):=OZ λi j i0 ij j1=>by
  have:=hs i.toNat j.toNat U U U;rw[<-K5];have g: ∀c:Int,0<=c->c<(pJ uF l).length->(pJ uF l).toArray[c.toNat]! =rd (pJ uF l) c:=λc c0 c1=>by
   rw[jj U];simp;rw[List.getElem?_eq_getElem U];rfl
  rw[g i i0 U,g j U U] at this;simp[this]
 refine Ok.eq (af bk) ?_;simp only[List.nil_append,e];refine Ok.eq (af U) ((aaO _ hpw U).bind λr hr=>Ok.pure ⟨by omega,λx=>(hr.2.1 x).trans (hp x),hr.2.2⟩)
def Hz (t:aL) (c side:Int):Prop:=side=4∨(0<=side/\side<=3/\uD t.W t.H c side)
def qq (t:aL) (s:a_):Prop:=0<=s.Cell/\s.Cell<t.C.length/\rd t.C s.Cell≠255/\0<=s.Key/\s.Key<=1073741824/\Hz t s.Cell s.cI
theorem agF {t:aL} (h:mi t) {c side:Int} (c0:0<=c) (c1:c<t.C.length):Ok (C7.f t c side) (λb=>b=true↔Hz t c side):=by
 unfold C7.f Hz uD;obtain⟨a,b,d,e,f,_⟩:=h.1;have hl:=oH h.1;have hq:0<=c/t.W/\c/t.W<=c:=⟨Int.ediv_nonneg c0 U,Int.ediv_le_self _ c0⟩;rw[mX c0,qX c0,wi (x:=c/t.W) U U,wi (x:=t.W-1) U U,wi (x:=t.H-1) U U];refine Ok.cx U (Ok.cx U (Ok.ite (λz=>Ok.pure ?_) λz=>Ok.ite (λz=>Ok.pure ?_) λz=>Ok.ite (λz=>Ok.pure ?_) λz=>Ok.ite (λz=>Ok.pure ?_) λz=>Ok.pure ?_))
 all_goals simp only[beq_iff_eq] at*
 ·subst z;simp
 ·subst z;simp
 ·subst z;simp
 ·subst z;simp
 ·constructor
  ·exact .inl
  ·rintro(q |q)
   ·exact q
   ·omega
theorem afL {t:aL} (h:mi t) (s:a_):Ok (C6.f s t) (λb=>b=true↔ ¬qq t s):=by
 unfold C6.f qq;refine(?_:Ok _ (λb:Bool=>b=true↔ ¬qq t s)).bind λr hr=>Ok.pure hr
 unfold qq;refine Ok.ite (λz=>Ok.pure ?_) λz1=>Ok.ite (λz=>Ok.pure ?_) λz2=>Ok.cx U (Ok.ite (λz=>Ok.pure ?_) λz3=>Ok.ite (λz=>Ok.pure ?_) λz4=>Ok.ite (λz=>Ok.pure ?_) λz5=>?_)
 ·simp;omega
 ·simp;omega
 ·have z:rd t.C s.Cell=255:=by simpa using z
  simp[z]
 ·simp;omega
 ·simp;omega
 ·refine(agF h U U).bind λr hr=>Ok.pure ?_
  have z3:rd t.C s.Cell≠255:=by simpa using z3
  cases r
  ·have: ¬Hz t s.Cell s.cI:=λq=>by have:=hr.2 q;simp at this
   simp[this]
  ·have:Hz t s.Cell s.cI:=hr.1 J;simp only[Bool.not_true,Bool.false_eq_true,false_iff,Classical.not_not];exact⟨by omega,by omega,z3,by omega,by omega,this⟩
theorem aeK {t:aL} (h:mi t) (l:List a_) (hb:l.length<=1000000): ∀(n k:Nat) (i:Int),(l.length-i).toNat<=n->n<k->0<=i->(∀j:Int,0<=j->j<i->qq t (rd l j))->
 Ok (qS.l0 k l t i) (λr=>0<=r↔ ¬ ∀s∈l,qq t s):=by
 intro n
 induction n with
 |zero=>
  intro k i hn hk hi ha;obtain⟨k,rfl⟩:=bl hk;rw[qS.l0,ah U];refine Ok.pure ⟨λq=>by omega,λq=>absurd (λs hs=>?_) q⟩
  obtain⟨j,j0,j1,rfl⟩:=jI hs;exact ha j j0 U
 |succ n ih=>
  intro k i hn hk hi ha
  by_cases aQ:i<l.length
  ·obtain⟨k,rfl⟩:=bl hk;rw[qS.l0];refine Ok.pos aQ (Ok.cx ⟨hi,aQ⟩ ((afL h (rd l i)).bind λb ju=>Ok.ite (λq=>Ok.pure ⟨λ_ y=>ju.1 q (y _ (ek hi aQ)),λ_=>hi⟩) λq=>?_));rw[wi U U];refine ih k (i+1) U U U (λj j0 j1=>?_)
   by_cases z:j=i
   ·rw[z];exact Classical.byContradiction λy=>q (ju.2 y)
   ·exact ha j j0 U
  ·exact ih k i U U hi ha
theorem W5 {t:aL} (h:mi t) (l:List a_) (hb:l.length<=1000000):Ok (zB.f t l) (λb=>b=true↔ ∀s∈l,qq t s):=by
 have hl:=oH h.1;unfold zB.f EI.f qS.f;rw[K9 _ U,decide_eq_true h.1];refine Ok.eq J (Ok.neg bj (((aeK h l hb l.length fuel 0 U (by rw[cD];omega) U (λj j0 j1=>by omega)).bind λr hr=>Ok.pure (P:=λb=>b=true↔ ¬ ∀s∈l,qq t s) (by simp only[decide_eq_true_iff];exact hr)).bind λr hr=>Ok.pure ?_))
 cases r
 ·simp only[Bool.not_false,true_iff];exact Classical.byContradiction λy=>by have:=hr.2 y;simp at this
 ·simp only[Bool.not_true,Bool.false_eq_true,false_iff];exact hr.1 J
theorem aie (a b:List a_) (hl:a.length=b.length) (hb:a.length<=1000000): ∀(n k:Nat) (i:Int),(a.length-i).toNat<=n->n<k->0<=i->(∀j:Int,0<=j->j<i->rd a j=rd b j)->
 qR.l0 k a b i=some (decide (a=b)):=by
 intro n
 induction n with
 |zero=>
  intro k i hn hk hi ha;obtain⟨k,rfl⟩:=bl hk;rw[qR.l0,ah U,decide_eq_true (AY hl λj j0 j1=>ha j j0 U)]
 |succ n ih=>
  intro k i hn hk hi ha
  by_cases aQ:i<a.length
  ·obtain⟨k,rfl⟩:=bl hk;rw[qR.l0,af aQ,af ⟨hi,aQ⟩,af U,Pn]
   by_cases q:rd a i=rd b i
   ·rw[ah (by simp[q]),wi U U]
    refine ih k (i+1) U U U (λj j0 j1=>?_)
    by_cases z:j=i
    ·rw[z];exact q
    ·exact ha j j0 U
   ·rw[af (by simp[q]),decide_eq_false (λy=>q (by rw[y]))]
  ·exact ih k i U U hi ha
theorem aiG (a b:List a_) (hb:a.length<=1000000):A'.f a b=some (decide (a=b)):=by
 unfold A'.f qR.f
 by_cases hl:a.length=b.length
 ·rw[ah (by simp[hl]),aie a b hl hb a.length fuel 0 U (by rw[cD];omega) U (λj j0 j1=>by omega)];rfl
 ·rw[af bk,decide_eq_false (λy=>hl (by rw[y]))];rfl
theorem ZZ (l:List a_) (c side:Int) (hb:l.length<=1000000): ∀(n k:Nat) (x:Int) (b:Bool) (i:Int),(l.length-i).toNat<=n->n<k->0<=i->
 ∃r,kC.l0 k l c side x b i=some r:=by
 intro n
 induction n with
 |zero=>
  intro k x b i hn hk hi;obtain⟨k,rfl⟩:=bl hk;exact⟨x,by rw[kC.l0,ah U]⟩
 |succ n ih=>
  intro k x b i hn hk hi
  by_cases aQ:i<l.length
  ·obtain⟨k,rfl⟩:=bl hk;rw[kC.l0,af aQ,af ⟨hi,aQ⟩,wi U U];have: ∃q,(if((rd l i).Cell==c)=true then(if((rd l i).cI==side)=true then(if(!b)=true then(some true) else(some (decide ((rd l i).Key<x)))) else(some false)) else(some false))=some q:=by
    repeat' split
    all_goals exact⟨_,J⟩
   obtain⟨q,hq⟩:=this;rw[hq,aG];split
   ·exact ih k _ _ (i+1) U U U
   ·exact ih k _ _ (i+1) U U U
  ·exact ih k x b i U U hi
theorem ZY (l:List a_) (c side:Int) (hb:l.length<=1000000): ∃r,kC.f l c side=some r:=
 ZZ l c side hb l.length fuel _ _ 0 U (by rw[cD];omega) U
def kB (b:jM):List Int:=b.items.drop b.gone.toNat
def jS:List jM->Int
 |[]=>0
 |b::l=>(kB b).length+jS l
theorem PH: ∀l,0<=jS l
 |[]=>Int.le_refl _
 |b::l=>by have:=PH l;unfold jS;omega
theorem Xt: ∀(l:List jM) (j:Nat) (b:jM),j<l.length->jS (l.set j b)=jS l-(kB (rd l (j:Int))).length+(kB b).length
 |[],j,b,h=>by simp at h
 |a::l,0,b,_=>by simp[jS,rd];omega
 |a::l,j+1,b,h=>by
  have:=Xt l j b (by simpa using h)
  have e:rd (a::l) ((j+1:Nat):Int)=rd l (j:Int):=by unfold rd;simp
  simp only[List.set_cons_succ,jS];rw[this,e];omega
theorem Xq: ∀(l:List jM) (j:Nat),j<l.length->((kB (rd l (j:Int))).length:Int)<=jS l
 |a::l,0,_=>by have:=PH l;simp[jS,rd];omega
 |a::l,j+1,h=>by
  have:=Xq l j (by simpa using h)
  have e:rd (a::l) ((j+1:Nat):Int)=rd l (j:Int):=by unfold rd;simp
  simp only[jS];rw[e];omega
theorem Xs: ∀(l:List jM),0<jS l-> ∃j:Nat,j<l.length/\kB (rd l (j:Int))≠[]
 |[],h=>by simp[jS] at h
 |a::l,h=>by
  by_cases z:kB a=[]
  ·obtain⟨j,h1,h2⟩:=Xs l (by simp[jS,z] at h;exact h)
   exact⟨j+1,by simpa using h1,by have e:rd (a::l) ((j+1:Nat):Int)=rd l (j:Int):=by unfold rd;simp
                                  rw[e];exact h2⟩
  ·exact⟨0,by simp,by simpa[rd] using z⟩
theorem Xr {n:Nat}: ∀(l:List jM),(∀b∈l,b.items.length<=n)->jS l<=l.length*n
 |[],_=>by simp[jS]
 |b::l,h=>by
  have:=Xr l (λb hb=>h b (List.mem_cons_of_mem _ hb));have hb:=h b (List.mem_cons_self ..);have:(kB b).length<=b.items.length:=by unfold kB;simp
  rw[jS,List.length_cons,Int.natCast_add,Int.add_mul,Int.natCast_one,Int.one_mul];omega
structure iD (r:eF) (n:Nat):Prop where
 len_:r.buckets.length=256
 at_:0<=r.ba/\r.ba<=8796093022208
 gone: ∀b∈r.buckets,0<=b.gone/\b.gone<=b.items.length/\b.items.length<=n
 Bk:r.len=jS r.buckets
 n_:n<=1000000000
def Has (r:eF) (k i:Int):Prop:=r.ba<=k/\k<r.ba+256/\i∈kB (rd r.buckets (k%256))
variable {r : eF} {n : Nat}
theorem iD.Ct (h:iD r n):0<=r.len/\r.len<=256000000000:=by
 have h1:=PH r.buckets;have h2:=Xr r.buckets (λb hb=>(h.gone b hb).2.2);have:=h.n_;rw[h.len_] at h2;rw[h.Bk];omega
theorem iD.none (h:iD r n) (h0:r.len=0) (k i:Int): ¬Has r k i:=by
 rintro⟨h1,h2,h3⟩;have:=Xq r.buckets (k%256).toNat (by rw[h.len_];omega)
 rw[<-h.Bk,h0,show(((k%256).toNat:Nat):Int)=k%256 by omega] at this
 have:=List.length_pos_iff.2 (List.ne_nil_of_mem h3);omega
theorem iD.some (h:iD r n) (h0:r.len≠0): ∃k i,Has r k i:=by
 have:=h.Ct;obtain⟨j,j1,j2⟩:=Xs r.buckets (by rw[<-h.Bk];omega)
 obtain⟨i,hi⟩:=List.exists_mem_of_ne_nil _ j2;rw[h.len_] at j1;have ha:=h.at_;refine⟨r.ba+(j-r.ba%256)%256,i,by omega,by omega,?_⟩
 rw[show(r.ba+(j-r.ba%256)%256)%256=(j:Int) by omega];exact hi
theorem ahz: ∃r,v_.f 0=some (some r)/\r.ba=0/\iD r 0/\ ∀k i,¬Has r k i:=by
 refine⟨_,J,J,⟨List.length_replicate ..,⟨Int.le_refl _,by decide⟩,λb hb=>?_,?_,by omega⟩,λk i=>?_⟩
 ·rw[List.mem_replicate] at hb;rw[hb.2];exact⟨Int.le_refl _,Int.le_refl _,Nat.le_refl _⟩
 ·have: ∀n,jS (List.replicate n (default:jM))=0:=λn=>by
   induction n with
   |zero=>rfl
   |succ n ih=>rw[List.replicate_succ,jS,ih];rfl
  rw[this]
 ·rintro⟨_,_,h3⟩;rw[uB U U] at h3;have:kB (default:jM)=[]:=rfl;rw[this] at h3;simp at h3
theorem WG {b:jM} {j:Int} {l:Int} (h:iD r n) {n':Nat} (hn:n<=n') (Ce:n'<=1000000000) (j0:0<=j) (j1:j<256) (hb:0<=b.gone/\b.gone<=b.items.length/\b.items.length<=n') {a:Int} (ha:0<=a/\a<=8796093022208)
 (hl:l=r.len-(kB (rd r.buckets j)).length+(kB b).length):iD ⟨a,l,List.set r.buckets j.toNat b⟩ n':=by
 refine⟨by simp[h.len_],ha,λc hc=>?_,?_,Ce⟩
 ·rcases List.mem_or_eq_of_mem_set hc with z |rfl
  ·have:=h.gone c z;omega
  ·exact hb
 ·simp only;rw[Xt _ _ _ (by rw[h.len_];omega),hl,h.Bk,show((j.toNat:Nat):Int)=j by omega]
theorem WH (h:iD r n) (hn:n<1000000000) {key:Int} (k1:key<=8796093022208) (k0:0<=key) (i:Int):
 Ok (sX.f r key i) (λx=>x.2.ba=r.ba/\iD x.2 (n+1)/\((x.1=true/\r.ba<=key/\key<r.ba+256/\x.2.len=r.len+1/\ ∀k j,Has x.2 k j↔Has r k j∨(k=key/\j=i))∨(x.1=false/\(key<r.ba∨r.ba+256<=key)/\x.2=r))):=by
 have ha:=h.at_;have hl:=h.Ct;unfold sX.f;have e:(if key<r.ba then some true else some (decide (aa (key-r.ba)≥256)))=some (decide (key<r.ba∨r.ba+256<=key)):=by
  rw[wi U U]
  by_cases z:key<r.ba
  ·simp[z]
  ·simp only[z,if_false,false_or];congr 2;rw[eq_iff_iff];constructor<;>intro<;>omega
 have hs:iD r (n+1):=⟨h.len_,h.at_,λb hb=>by have:=h.gone b hb;omega,h.Bk,by omega⟩
 refine Ok.eq e (Ok.ite (λz=>Ok.pure ⟨J,hs,.inr ⟨J,of_decide_eq_true z,J⟩⟩) λz=>?_);have z: ¬(key<r.ba∨r.ba+256<=key):=by simpa using z
 rw[mX k0];have hb:=h.gone (rd r.buckets (key%256)) (ek U (by rw[h.len_];omega))
 refine Ok.cx (by rw[h.len_];omega) ?_
 unfold zt.f;rw[af U];have hp:kB ⟨(rd r.buckets (key%256)).items++[i],(rd r.buckets (key%256)).gone⟩=kB (rd r.buckets (key%256))++[i]:=by
  unfold kB;simp only;rw[List.drop_append_of_le_length U]
 refine Ok.pure ⟨J,WG (b:=⟨(rd r.buckets (key%256)).items++[i],(rd r.buckets (key%256)).gone⟩) h (Nat.le_succ n) U U U ⟨hb.1,by simp;omega,by simp;omega⟩ ha ?_,.inl ⟨J,by omega,by omega,?_,λk j=>?_⟩⟩
 ·rw[wi U U,hp];simp;omega
 ·simp only;rw[wi U U]
 ·unfold Has;simp only;rw[j5 U (by rw[h.len_];omega) U]
  by_cases y:k%256=key%256
  ·rw[af y,hp,y];constructor
   ·rintro⟨a,b,c⟩;rcases List.mem_append.1 c with c |c
    ·exact .inl ⟨a,b,c⟩
    ·exact .inr ⟨by omega,by simpa using c⟩
   ·rintro(⟨a,b,c⟩ |⟨rfl,rfl⟩)
    ·exact⟨a,b,List.mem_append_left _ c⟩
    ·exact⟨by omega,by omega,by simp⟩
  ·rw[ah y];constructor
   ·exact .inl
   ·rintro(q |⟨rfl,_⟩)
    ·exact q
    ·exact absurd J y
theorem agO: ∀(m k:Nat) (r:eF) (x y:Int),(x-r.ba).toNat<=m->m<k->iD r n->x<=8796093022208->Has r x y->
 Ok (oE.l0 k r) (λq=>iD q n/\q.buckets=r.buckets/\q.len=r.len/\r.ba<=q.ba/\kB (rd q.buckets (q.ba%256))≠[]/\ ∀a b,Has q a b↔Has r a b):=by
 intro m
 induction m with
 |zero=>
  intro k r x y hm hk h hx hy;obtain⟨k,rfl⟩:=bl hk;have ha:=h.at_;have pZ:x=r.ba:=by have:=hy.1;omega
  subst pZ;rw[oE.l0,mX ha.1];unfold xL.f;have bM:=List.ne_nil_of_mem hy.2.2;refine Ok.cx (by rw[h.len_];omega) (Ok.neg ?_ (Ok.pure ⟨h,J,J,by omega,bM,λ_ _=>Iff.rfl⟩))
  intro z;have z:(rd r.buckets (r.ba%256)).gone=(rd r.buckets (r.ba%256)).items.length:=by simpa using z
  exact bM (by unfold kB;rw[z];simp)
 |succ m ih=>
  intro k r x y hm hk h hx hy;obtain⟨k,rfl⟩:=bl hk;have ha:=h.at_;rw[oE.l0,mX ha.1];unfold xL.f;have ue:=h.gone (rd r.buckets (r.ba%256)) (ek U (by rw[h.len_];omega))
  refine Ok.cx (by rw[h.len_];omega) (Ok.ite (λz=>?_) λz=>Ok.pure ⟨h,J,J,by omega,λq=>?_,λ_ _=>Iff.rfl⟩)
  ·have z:(rd r.buckets (r.ba%256)).gone=(rd r.buckets (r.ba%256)).items.length:=by simpa using z
   have hp:kB (rd r.buckets (r.ba%256))=[]:=by unfold kB;rw[z];simp
   have bM:x≠r.ba:=by rintro rfl;have:=hy.2.2;rw[hp] at this;simp at this
   have:=hy.1;rw[wi U U];have hh: ∀a b,Has ⟨r.ba+1,r.len,r.buckets⟩ a b↔Has r a b:=λa b=>by
    unfold Has;simp only;constructor
    ·rintro⟨q1,q2,q3⟩;refine⟨by omega,?_,q3⟩
     apply Classical.byContradiction;intro q;have:a%256=r.ba%256:=U;rw[this,hp] at q3;simp at q3
    ·rintro⟨q1,q2,q3⟩;refine⟨?_,by omega,q3⟩
     apply Classical.byContradiction;intro q;have:a=r.ba:=U;rw[this,hp] at q3;simp at q3
   refine(ih k ⟨r.ba+1,r.len,r.buckets⟩ x y (by simp only;omega) U ⟨h.len_,by simp only;omega,h.gone,h.Bk,h.n_⟩ hx ((hh x y).2 hy)).mono λq hq=>⟨hq.1,hq.2.1,hq.2.2.1,by have:=hq.2.2.2.1;simp only at this;omega,hq.2.2.2.2.1,λa b=>(hq.2.2.2.2.2 a b).trans (hh a b)⟩
  ·unfold kB at q;rw[List.drop_eq_nil_iff] at q;exact z bk
theorem ahF (h:iD r n) {x y:Int} (hx:x<=8796093022208) (hy:Has r x y):
 Ok (oE.f r) (λq=>q.2.2.1=true/\iD q.2.2.2 n/\q.2.2.2.ba=q.1/\q.2.2.2.len=r.len-1/\Has r q.1 q.2.1/\(∀a b,Has r a b->q.1<=a)/\(∀a b,Has q.2.2.2 a b->Has r a b)/\ ∀a b,Has r a b->(a=q.1/\b=q.2.1)∨Has q.2.2.2 a b):=by
 unfold oE.f wa.f;have hl:=h.Ct;have Ay:r.len≠0:=λz=>h.none z x y hy
 refine Ok.eq J (Ok.neg (by simpa using Ay) ((agO (x-r.ba).toNat fuel r x y U (by rw[cD];have:=h.at_;omega) h hx hy).bind λq hq=>?_))
 obtain⟨h1,h2,h3,h4,h5,h6⟩:=hq;have ha:=h1.at_;rw[mX ha.1];have hb:=h1.gone (rd q.buckets (q.ba%256)) (ek U (by rw[h1.len_];omega))
 refine Ok.cx (by rw[h1.len_];omega) ?_
 generalize hB:rd q.buckets (q.ba%256)=B at hb h5;have hg:B.gone<B.items.length:=by
  apply Classical.byContradiction;intro z;exact h5 (by unfold kB;rw[List.drop_eq_nil_iff];omega)
 have J1:kB B=rd B.items B.gone::B.items.drop (B.gone+1).toNat:=by unfold kB;rw[BV hb.1 hg]
 have hn:=h1.n_;have aeC: ∃B',rN.f B=some (rd B.items B.gone,B')/\kB B'=B.items.drop (B.gone+1).toNat/\0<=B'.gone/\B'.gone<=B'.items.length/\B'.items.length<=n:=by
  unfold rN.f xL.f;rw[af ⟨hb.1,hg⟩,wi U U];simp only[aG]
  by_cases z:B.gone+1=B.items.length
  ·rw[af (by simpa using z),af U]
   exact⟨_,J,by unfold kB aA;simp;omega,Int.le_refl _,by simp,by simp[aA]⟩
  ·rw[ah (by simpa using z)]
   exact⟨_,J,J,by simp only;omega,by simp only;omega,hb.2.2⟩
 obtain⟨B',e1,e2,e3⟩:=aeC;have hR:iD ⟨q.ba,aa (q.len-1),List.set q.buckets (Int.toNat (q.ba%256)) B'⟩ n:=by
  refine WG h1 (Nat.le_refl _) hn U U e3 ha ?_;rw[wi U U,hB,J1,e2];simp;omega
 have ab8:Has r q.ba (rd B.items B.gone):=(h6 _ _).1 ⟨by omega,by omega,by rw[hB,J1];simp⟩
 have dS: ∀a:Int,rd (List.set q.buckets (Int.toNat (q.ba%256)) B') (a%256)=if a%256=q.ba%256 then B' else rd q.buckets (a%256):=λa=>j5 U (by rw[h1.len_];omega) U
 refine Ok.eq e1 (Ok.pure ⟨J,hR,J,by simp only;rw[wi U U,h3],ab8,λa b yR=>((h6 a b).2 yR).1,λa b yR=>?_,λa b yR=>?_⟩)
 ·obtain⟨q1,q2,q3⟩:=yR;simp only at q1 q2 q3;rw[dS] at q3;refine(h6 a b).1 ⟨q1,q2,?_⟩;split at q3
  ·rename_i z;rw[z,hB,J1];rw[e2] at q3;exact List.mem_cons_of_mem _ q3
  ·exact q3
 ·obtain⟨q1,q2,q3⟩:=(h6 a b).2 yR
  by_cases z:a%256=q.ba%256
  ·have:a=q.ba:=U;subst this;rw[hB,J1] at q3;rcases List.mem_cons.1 q3 with y |y
   ·exact .inl ⟨J,y⟩
   ·exact .inr ⟨q1,q2,by simp only;rw[dS,af J,e2];exact y⟩
  ·exact .inr ⟨q1,q2,by simp only;rw[dS,ah z];exact q3⟩
theorem ae5 (h:iD r n) {key:Int} (k0:0<=key) (k1:key<=1099511627776) (h0:r.len=0):
 Ok (xK.f r key) (λx=>iD x.2 n/\x.2.len=0/\x.2.ba=if key<r.ba then r.ba else key):=by
 unfold xK.f;rw[ah U];refine Ok.eq J (Ok.ite (λz=>Ok.pure ⟨h,h0,?_⟩) λz=>Ok.pure ⟨⟨h.len_,by simp only;omega,h.gone,h.Bk,h.n_⟩,h0,?_⟩)
 ·simp at z;rw[af U]
 ·simp at z;rw[ah U]
theorem LR {n:Int} (h0:0<=n) (h1:n<4294967296):((BitVec.toNat (BitVec.ofInt (IntKind.bits .u64) n&&&BitVec.ofInt (IntKind.bits .u64) 4294967295):Nat):Int)=n:=by
 obtain⟨k,rfl⟩: ∃k:Nat,n=(k:Int):=⟨n.toNat,by omega⟩
 have e1:(BitVec.ofInt (IntKind.bits .u64) (k:Int)).toNat=k:=by
  show(BitVec.ofInt 64 (k:Int)).toNat=k
  rw[BitVec.toNat_ofInt];omega
 have e2:(BitVec.ofInt (IntKind.bits .u64) 4294967295).toNat=2^32-1:=by rfl
 rw[BitVec.toNat_and,e1,e2,Nat.and_two_pow_sub_one_eq_mod];omega
theorem q_ {x:Int} (h1:0<=x) (h2:x<=18446744073709551615):dU x=x:=by
 unfold dU IntKind.wrap IntKind.signed IntKind.bits;simp;omega
theorem af5 {n:Int} (h0:0<=n) (h1:n<4294967296):sN.f 1 n=some (0,n):=by
 unfold sN.f Cw.f;have a1:Int.fdiv 1 (2^32)=0:=by rfl
 have a2:Int.fdiv n (2^32)=0:=by rw[Int.fdiv_eq_ediv_of_nonneg _ U];omega
 have a3:((BitVec.toNat (BitVec.ofInt (IntKind.bits .u64) 1&&&BitVec.ofInt (IntKind.bits .u64) 4294967295):Nat):Int)=1:=LR U U;have a4:=LR h0 h1;have w0:dU 0=0:=q_ U U;have w1:dU 1=1:=q_ U U;have wn:dU n=n:=q_ h0 U;have a5:((BitVec.toNat (BitVec.ofInt (IntKind.bits .u64) 0&&&BitVec.ofInt (IntKind.bits .u64) 4294967295):Nat):Int)=0:=LR U U;have f0:Int.fdiv 0 (2^32)=0:=by rfl
 simp only[a1,a2,a3,a4,Int.zero_mul,Int.mul_zero,Int.one_mul,w0,w1,wn,Int.zero_add,a2,a5,f0,aG]
theorem ahu {v:Int}: ∀(n k:Nat) (x:List Int) (i:Int),i+n≥x.length->1<=i->(x.length:Int)<=1000000000->n<k->(∀j:Int,0<=j->j<i->j<x.length->rd x j=v)->
 j_.l0 k x i=some (List.replicate x.length v):=by
 intro n
 induction n with
 |zero=>
  intro k x i hi h1 hb hk hx;obtain⟨k,rfl⟩:=bl hk;rw[j_.l0,ah U]
  congr 1
  apply AY bj;intro j j0 j1;rw[hx j j0 U j1,uB j0 U]
 |succ n ih=>
  intro k x i hi h1 hb hk hx;obtain⟨k,rfl⟩:=bl hk
  by_cases hq:i<x.length
  ·have s1:(aA x 0 i).length=i.toNat:=by rw[iN U];omega
   have s2:(aA x i (x.length:Int)).length=(x.length-i.toNat):=by rw[iN U];omega
   rw[j_.l0,af hq,af U,af U,s1,s2];have hlen:(ck x i.toNat (min i.toNat (x.length-i.toNat)) (aA x 0 i)).length=x.length:=Ah U (by rw[s1];omega)
   rw[bm U U];have:=ih k (ck x i.toNat (min i.toNat (x.length-i.toNat)) (aA x 0 i)) (i+((min i.toNat (x.length-i.toNat):Nat):Int)) (by rw[hlen];omega) U (by rw[hlen];omega) U (λj j0 j1 j2=>?_)
   ·rw[this,hlen]
   ·rw[hlen] at j2;unfold ck
    by_cases vA:j<i
    ·rw[zp j0 (by rw[List.length_take];omega)]
     have:rd (x.take i.toNat) j=rd x j:=by
      unfold rd;simp[List.getD,List.getElem?_take,show j.toNat<i.toNat by omega]
     rw[this];exact hx j j0 vA U
    ·rw[mT (by rw[List.length_take];omega),List.length_take,show((min i.toNat x.length:Nat):Int)=i by omega]
     rw[zp U (by rw[List.length_take,s1];omega)]
     have:rd ((aA x 0 i).take (min i.toNat (x.length-i.toNat))) (j-i)=rd x (j-i):=by
      unfold rd aA;simp[List.getD,List.getElem?_take,show(j-i).toNat<i.toNat by omega,show(j-i).toNat<x.length-i.toNat by omega]
      rw[af U]
     rw[this];exact hx (j-i) U U U
  ·rw[j_.l0,ah hq]
   congr 1
   apply AY bj;intro j j0 j1;rw[hx j j0 U j1,uB j0 U]
theorem WE {v:Int} {n:Nat} (h0:1<=n) (h1:n<=1000000000):j_.f [v] (n:Int)=some (List.replicate n v):=by
 unfold j_.f;have e1:dU (([v]:List Int).length:Int)=1:=by rw[show(([v]:List Int).length:Int)=1 from rfl];exact q_ U U
 rw[ah U,e1,q_ (x:=(n:Int)) U U,af5 U U,aG];simp only;rw[ah bk,bm U U,af U,Int.toNat_natCast];have e2:min ([v]:List Int).length (List.replicate n (0:Int)).length=1:=by rw[List.length_replicate];simp;omega
 rw[e2];have e3:ck (List.replicate n (0:Int)) 0 1 [v]=v::List.replicate (n-1) 0:=by
  unfold ck;simp
 have hl:(v::List.replicate (n-1) (0:Int)).length=n:=by simp;omega
 rw[e3,ahu (v:=v) n fuel _ ((1:Nat):Int) U U U (by rw[cD];omega) (λj j0 j1 _=>by
  rw[show j=0 by omega];rfl),hl]
 rfl
theorem aht: ∀(k:Nat) (x:List Int) (i:Int),pI.l0 k x i=j_.l0 k x i:=by
 intro k
 induction k with
 |zero=>intros;rfl
 |succ k ih=>intro x i;rw[pI.l0,j_.l0];simp only[ih]
theorem ahw {v:Int} {n:Nat} (h0:1<=n) (h1:n<=1000000000):pI.f [v] (n:Int)=some (List.replicate n v):=by
 rw[<-WE h0 h1];unfold pI.f j_.f;simp only[aht]
def zZ (w h c:Int):Nat->Int->Bool
 |0,_=>false
 |n+1,j=>decide (0<=fU w h c j)||zZ w h c n (j+1)
def C2 (w h s l:Int):Bool:=zZ w h (c_ w h s l) 4 0
def we (w h s:Int) (n:Nat):List Int:=((List.range n).filter (λl:Nat=>C2 w h s (l:Int))).map (λl:Nat=>c_ w h s (l:Int))
def qQ (w h s:Int):List Int:=we w h s ((ax w h s).1*(ax w h s).2).toNat
theorem aaB (w h s:Int) (n:Nat):we w h s (n+1)=if C2 w h s (n:Int)=true then we w h s n++[c_ w h s (n:Int)] else we w h s n:=by
 unfold we;rw[List.range_succ,List.filter_append,List.map_append]
 by_cases h:C2 w h s (n:Int)=true
 ·rw[af h];simp[h]
 ·rw[ah h];simp[h]
theorem Rb (w h s:Int) (n:Nat):(we w h s n).length<=n:=by
 unfold we;rw[List.length_map];have:=List.length_filter_le (λl:Nat=>C2 w h s (l:Int)) (List.range n);simpa using this
theorem zC (w h s:Int):0<=(ax w h s).1*(ax w h s).2/\(ax w h s).1*(ax w h s).2<=256:=by
 have hz:=size_le w h s;have:(ax w h s).1*(ax w h s).2<=16*16:=ky hz.1 hz.2.2.1 hz.2.1 hz.2.2.2;exact⟨nG hz.1 hz.2.2.1,by omega⟩
theorem Pr {w h s l:Int} (h0:0<=l) (h1:l<(ax w h s).1*(ax w h s).2):bJ w h s:=by
 by_cases hs:bJ w h s
 ·exact hs
 ·have:ax w h s=(0,0):=by unfold ax;rw[ah hs]
  rw[this] at h1;simp at h1;omega
def wh (tw th side i:Int):Int:=if side=2 then(th-1)*tw+i else if side=0 then i else if side=1 then tw-1+i*tw else i*tw
def qa (tw th side:Int):Int:=if side=2∨side=0 then tw else if side=1∨side=3 then th else 0
def p_ (tw th side:Int) (n:Nat):List Int:=(List.range n).map (λi:Nat=>wh tw th side (i:Int))
def rP (tw th side:Int):List Int:=p_ tw th side (qa tw th side).toNat
theorem IL (tw th side:Int) (n:Nat):p_ tw th side (n+1)=p_ tw th side n++[wh tw th side (n:Int)]:=by
 unfold p_;rw[List.range_succ,List.map_append];rfl
theorem Fk (tw th side:Int) (n:Nat):(p_ tw th side n).length=n:=by simp[p_]
theorem YA {tw th:Int} (side:Int) (t0:0<=tw) (t1:tw<=16) (u0:0<=th) (u1:th<=16):fh.f tw th side=some (rP tw th side):=by
 unfold fh.f rP;have hb: ∀i:Int,0<=i->i<=16->0<=i*tw/\i*tw<=256:=λi i0 i1=>⟨nG i0 t0,by have:=ky i0 t0 i1 t1;omega⟩
 by_cases h2:side=2
 ·subst h2;rw[af (by rfl)]
  have F8: -16<=(th-1)*tw/\(th-1)*tw<=256:=by
   have:=hb th u0 u1;rw[Int.sub_mul,Int.one_mul];omega
  have key: ∀(n k:Nat) (i:Int),i+n=tw->0<=i->n<k->fh.l0 k tw th (p_ tw th 2 i.toNat) i=some (p_ tw th 2 tw.toNat):=by
   intro n
   induction n with
   |zero=>
    intro k i hi h0 hk;obtain⟨k,rfl⟩:=bl hk;rw[fh.l0,ah U];rw[show i=tw by omega]
   |succ n ih=>
    intro k i hi h0 hk;obtain⟨k,rfl⟩:=bl hk;rw[fh.l0,af U,af (by rw[Fk];omega),bm (x:=th-1) U U,bm (x:=(th-1)*tw) U U,bm U U,bm U U]
    have:=ih k (i+1) U U U;rw[show(i+1).toNat=i.toNat+1 by omega,IL,show((i.toNat:Nat):Int)=i by omega] at this
    exact this
  exact key tw.toNat fuel 0 U U (by rw[cD];omega)
 rw[ah (by simpa using h2)]
 by_cases h0:side=0
 ·subst h0;rw[af (by rfl)]
  have key: ∀(n k:Nat) (i:Int),i+n=tw->0<=i->n<k->fh.l1 k tw (p_ tw th 0 i.toNat) i=some (p_ tw th 0 tw.toNat):=by
   intro n
   induction n with
   |zero=>
    intro k i hi h0 hk;obtain⟨k,rfl⟩:=bl hk;rw[fh.l1,ah U];rw[show i=tw by omega]
   |succ n ih=>
    intro k i hi h0 hk;obtain⟨k,rfl⟩:=bl hk;rw[fh.l1,af U,af (by rw[Fk];omega),bm U U,bm U U,Int.zero_add]
    have:=ih k (i+1) U U U;rw[show(i+1).toNat=i.toNat+1 by omega,IL,show((i.toNat:Nat):Int)=i by omega] at this
    exact this
  exact key tw.toNat fuel 0 U U (by rw[cD];omega)
 rw[ah (by simpa using h0)]
 by_cases h1:side=1
 ·subst h1;rw[af (by rfl)]
  have key: ∀(n k:Nat) (i:Int),i+n=th->0<=i->n<k->fh.l2 k tw th (p_ tw th 1 i.toNat) i=some (p_ tw th 1 th.toNat):=by
   intro n
   induction n with
   |zero=>
    intro k i hi h0 hk;obtain⟨k,rfl⟩:=bl hk;rw[fh.l2,ah U];rw[show i=th by omega]
   |succ n ih=>
    intro k i hi h0 hk;obtain⟨k,rfl⟩:=bl hk;have:=hb i U U;rw[fh.l2,af U,af (by rw[Fk];omega),bm (x:=tw-1) U U,bm (x:=i*tw) U U,bm U U,bm U U]
    have:=ih k (i+1) U U U;rw[show(i+1).toNat=i.toNat+1 by omega,IL,show((i.toNat:Nat):Int)=i by omega] at this
    exact this
  exact key th.toNat fuel 0 U U (by rw[cD];omega)
 rw[ah (by simpa using h1)]
 by_cases h3:side=3
 ·subst h3;rw[af (by rfl)]
  have key: ∀(n k:Nat) (i:Int),i+n=th->0<=i->n<k->fh.l3 k tw th (p_ tw th 3 i.toNat) i=some (p_ tw th 3 th.toNat):=by
   intro n
   induction n with
   |zero=>
    intro k i hi h0 hk;obtain⟨k,rfl⟩:=bl hk;rw[fh.l3,ah U];rw[show i=th by omega]
   |succ n ih=>
    intro k i hi h0 hk;obtain⟨k,rfl⟩:=bl hk;have:=hb i U U;rw[fh.l3,af U,af (by rw[Fk];omega),bm (x:=i*tw) U U,Int.zero_add,bm U U,bm U U]
    have:=ih k (i+1) U U U;rw[show(i+1).toNat=i.toNat+1 by omega,IL,show((i.toNat:Nat):Int)=i by omega] at this
    exact this
  exact key th.toNat fuel 0 U U (by rw[cD];omega)
 rw[ah (by simpa using h3)]
 have:qa tw th side=0:=by unfold qa;rw[ah U,ah U]
 rw[this];rfl
theorem agP {tw th side i:Int} (t0:1<=tw) (u0:1<=th) (i0:0<=i) (i1:i<qa tw th side):0<=wh tw th side i/\wh tw th side i<tw*th/\uD tw th (wh tw th side i) side:=by
 have hb: ∀j:Int,0<=j->j<=th-1->0<=j*tw/\j*tw+tw<=tw*th:=λj j0 j1=>⟨nG j0 U,by
  have:=Int.mul_le_mul_of_nonneg_right j1 (by omega:0<=tw)
  rw[Int.sub_mul,Int.one_mul,Int.mul_comm th] at this;omega⟩
 unfold qa at i1;unfold wh uD
 by_cases h2:side=2
 ·subst h2;rw[af (Or.inl J)] at i1;simp only[if_true];have:=hb (th-1) U U;have q:=qK (y:=th-1) i0 i1;simp only[show ¬((2:Int)=0) by omega,show ¬((2:Int)=1) by omega,if_false]
  exact⟨by omega,by omega,q.2⟩
 by_cases h0:side=0
 ·subst h0;rw[af (Or.inr J)] at i1;have:=hb 0 U U;simp only[if_true,show ¬((0:Int)=2) by omega,if_false]
  exact⟨i0,by omega,Int.ediv_eq_zero_of_lt i0 i1⟩
 by_cases h1:side=1
 ·subst h1;rw[ah U,af (Or.inl J)] at i1;simp only[show ¬((1:Int)=2) by omega,show ¬((1:Int)=0) by omega,if_false,if_true]
  have:=hb i U U;have q:=qK (a:=tw) (x:=tw-1) (y:=i) U U;rw[Int.add_comm];exact⟨by omega,by omega,q.1⟩
 ·rw[ah U] at i1
  by_cases h3:side=3
  ·subst h3;rw[af (Or.inr J)] at i1;have:=hb i U U;simp only[show ¬((3:Int)=2) by omega,show ¬((3:Int)=0) by omega,show ¬((3:Int)=1) by omega,if_false]
   exact⟨by omega,by omega,Int.mul_emod_left _ _⟩
  ·rw[ah U] at i1;omega
theorem afP {tw th side l:Int} (t0:1<=tw) (u0:1<=th) (s0:0<=side) (s3:side<=3):l∈rP tw th side↔0<=l/\l<tw*th/\uD tw th l side:=by
 constructor
 ·intro hm;unfold rP p_ at hm;obtain⟨i,hi,rfl⟩:=List.mem_map.mp hm;have rF:=List.mem_range.mp hi;exact agP t0 u0 U U
 ·rintro⟨l0,l1,yY⟩;have a1:0<=l%tw:=Int.emod_nonneg _ U;have a2:l%tw<tw:=Int.emod_lt_of_pos _ U;have a3:0<=l/tw:=Int.ediv_nonneg l0 U;have a4:l/tw<th:=Int.ediv_lt_of_lt_mul U (by rw[Int.mul_comm];exact l1)
  have a5:=Int.mul_ediv_add_emod l tw;rw[Int.mul_comm] at a5;have hc:side=0∨side=1∨side=2∨side=3:=U;have go: ∀i:Int,0<=i->i<qa tw th side->wh tw th side i=l->l∈rP tw th side:=λi i0 i1 e=>by
   unfold rP p_;exact List.mem_map.mpr ⟨i.toNat,List.mem_range.mpr U,by rw[show((i.toNat:Nat):Int)=i by omega];exact e⟩
  unfold uD at yY;rcases hc with rfl |rfl |rfl |rfl
  ·simp only[if_true] at yY;exact go (l%tw) a1 a2 (by unfold wh;rw[yY] at a5;simp;omega)
  ·simp at yY;exact go (l/tw) a3 a4 (by unfold wh;rw[yY] at a5;simp;omega)
  ·simp at yY;exact go (l%tw) a1 a2 (by unfold wh;rw[yY] at a5;simp;omega)
  ·simp at yY;exact go (l/tw) a3 a4 (by unfold wh;rw[yY] at a5;simp;omega)
theorem aaF (v:List Int) (hv:v.length<=1000) (N:Int) (cn: ∀y∈v,0<=y/\y<N): ∀(n k:Nat) (i:Int) (x:List Bool),i+n=v.length->0<=i->n<k->(x.length:Int)=N->
 ∃x',gD.l1 k v x i=some x'/\(x'.length:Int)=N/\ ∀l:Int,0<=l->l<N->rd x' l=(rd x l||decide (l∈v.drop i.toNat)):=by
 intro n
 induction n with
 |zero=>
  intro k i x hi h0 hk hx;obtain⟨k,rfl⟩:=bl hk;refine⟨x,by rw[gD.l1,ah U],hx,λl l0 l1=>?_⟩
  rw[List.drop_of_length_le U];simp
 |succ n ih=>
  intro k i x hi h0 hk hx;obtain⟨k,rfl⟩:=bl hk;have hy:=cn _ (ek h0 (by omega:i<(v.length:Int)))
  obtain⟨x',e,hl,hr⟩:=ih k (i+1) (List.set x (Int.toNat (rd v i)) true) U U U (by simpa using hx)
  refine⟨x',by rw[gD.l1,af U,af U,af U,bm U U];exact e,hl,λl l0 l1=>?_⟩
  rw[hr l l0 l1,j5 hy.1 U l0,BV h0 U]
  by_cases hq:l=rd v i
  ·rw[af hq,hq];simp
  ·rw[ah hq];simp[hq]
theorem aaG (w h s:Int) (x:List Bool) (hx:(x.length:Int)=(ax w h s).1*(ax w h s).2) (hr: ∀l:Int,0<=l->l<x.length->rd x l=C2 w h s l): ∀(n k:Nat) (i:Int),i+n=x.length->0<=i->n<k->
 gD.l2 k w h s x (we w h s i.toNat) i=some (qQ w h s):=by
 have hz:=zC w h s;intro n
 induction n with
 |zero=>
  intro k i hi h0 hk;obtain⟨k,rfl⟩:=bl hk;rw[gD.l2,ah U];unfold qQ;rw[show i=(ax w h s).1*(ax w h s).2 by omega]
 |succ n ih=>
  intro k i hi h0 hk;obtain⟨k,rfl⟩:=bl hk;have hle:=Rb w h s i.toNat;have:=ih k (i+1) U U U;rw[show(i+1).toNat=i.toNat+1 by omega,aaB,show((i.toNat:Nat):Int)=i by omega] at this
  rw[gD.l2,af U,af U,hr i h0 U,bm U U]
  by_cases hb:C2 w h s i=true
  ·rw[af hb] at this;rw[af hb,Jq,aG,af U];exact this
  ·rw[ah hb] at this;rw[ah hb];exact this
theorem W0 {j:Int} (h0:0<=j) (h3:j<=3):rd ([rd ([0,1,2,3]:List Int) 0,rd ([0,1,2,3]:List Int) 1,rd ([0,1,2,3]:List Int) 2,rd ([0,1,2,3]:List Int) 3]:List Int) j=j:=by
 have:j=0∨j=1∨j=2∨j=3:=U;rcases this with rfl |rfl |rfl |rfl<;>rfl
theorem Qo (w h c:Int): ∀(n:Nat) (j:Int),zZ w h c (n+1) j=(zZ w h c n j||decide (0<=fU w h c (j+n))):=by
 intro n
 induction n with
 |zero=>intro j;simp[zZ]
 |succ n ih=>
  intro j;rw[zZ,ih (j+1),zZ,Bool.or_assoc];rw[show j+1+(n:Int)=j+((n+1:Nat):Int) by omega]
theorem aaE (w h s:Int): ∀(n k:Nat) (j:Int) (x:List Bool),j+n=4->0<=j->n<k->(x.length:Int)=(ax w h s).1*(ax w h s).2->
 (∀l:Int,0<=l->l<x.length->rd x l=zZ w h (c_ w h s l) j.toNat 0)->
 gD.l0 k w h s (ax w h s) [0,1,2,3] x j=some (qQ w h s):=by
 have hz:=zC w h s;have AF:=size_le w h s;intro n
 induction n with
 |zero=>
  intro k j x hj h0 hk hx hr;obtain⟨k,rfl⟩:=bl hk;rw[gD.l0,ah U];have e:j.toNat=4:=U;rw[e] at hr;exact aaG w h s x hx hr x.length fuel 0 U U (by rw[cD];omega)
 |succ n ih=>
  intro k j x hj h0 hk hx hr;obtain⟨k,rfl⟩:=bl hk;rw[gD.l0,af U,W0 h0 U,YA j AF.1 AF.2.1 AF.2.2.1 AF.2.2.2,af bk,bm U U];rw[aG]
  by_cases hs:bJ w h s
  ·have J_:=qf hs;have hlen:((rP (ax w h s).1 (ax w h s).2 j).length:Int)=qa (ax w h s).1 (ax w h s).2 j:=by
    unfold rP;rw[Fk];unfold qa;split
    ·omega
    ·split<;>omega
   have hlp:1<=qa (ax w h s).1 (ax w h s).2 j/\qa (ax w h s).1 (ax w h s).2 j<=16:=by
    unfold qa;split
    ·omega
    ·rw[af U];omega
   have je:=λl=>afP (l:=l) J_.1 J_.2.2.1 h0 (by omega:j<=3)
   have h0m:=ek (a:=rP (ax w h s).1 (ax w h s).2 j) (i:=0) U U;obtain⟨f0,f1,f2⟩:=(je _).mp h0m;rw[ah (by rw[beq_iff_eq];omega),af U,Jq,aG,VF,aG,aG]
   have vC:=KJ hs f0 f1 h0 (by omega:j<=3)
   by_cases hn:fU w h (c_ w h s (rd (rP (ax w h s).1 (ax w h s).2 j) 0)) j<0
   ·have bM: ¬A9 w h s j:=λq=>by have:=vC.mpr ⟨q,f2⟩;omega
    rw[af (by simpa using hn),aG]
    refine ih k (j+1) x U U U hx (λl l0 l1=>?_);rw[hr l l0 l1,show(j+1).toNat=j.toNat+1 by omega,Qo,Int.zero_add,show((j.toNat:Nat):Int)=j by omega]
    rw[decide_eq_false (λq=>bM ((KJ hs l0 U h0 (by omega:j<=3)).mp q).1)];simp
   ·have hed:A9 w h s j:=(vC.mp U).1;obtain⟨x',e,hl,hq⟩:=aaF (rP (ax w h s).1 (ax w h s).2 j) U _ (λy hy=>⟨((je y).mp hy).1,((je y).mp hy).2.1⟩) (rP (ax w h s).1 (ax w h s).2 j).length fuel 0 x U U (by rw[cD];omega) hx
    rw[ah (by simpa using hn),e,aG]
    refine ih k (j+1) x' U U U hl (λl l0 l1=>?_);rw[hq l l0 U,hr l l0 U,show(j+1).toNat=j.toNat+1 by omega,Qo,Int.zero_add,show((j.toNat:Nat):Int)=j by omega]
    congr 1
    simp only[Int.toNat_zero,List.drop_zero,decide_eq_decide];rw[je,KJ hs l0 U h0 (by omega:j<=3)]
    exact⟨λq=>⟨hed,q.2.2⟩,λq=>⟨l0,by omega,q.2⟩⟩
  ·have e0:ax w h s=(0,0):=by unfold ax;rw[ah hs]
   have e1:rP (ax w h s).1 (ax w h s).2 j=[]:=by
    unfold rP;rw[e0];have:qa (0,0).1 (0,0).2 j=0:=by unfold qa;split<;>simp
    rw[this];rfl
   rw[e1,af bj,aG,af J,aG];refine ih k (j+1) x U U U hx (λl l0 l1=>?_);rw[e0] at hx;simp at hx;subst hx;simp at l1;omega
theorem aaC (w h s:Int):gD.f w h s=some (qQ w h s):=by
 unfold gD.f;have hz:=zC w h s;have e:yG.f=some [0,1,2,3]:=rfl;rw[HF,aG,bm (x:=_*_) U U,af U,e,aG];refine aaE w h s 4 fuel 0 _ U U (by rw[cD];omega) bk (λl l0 l1=>?_)
 rw[uB l0 (by simpa using l1)];rfl
abbrev tK (m:aL):Prop:=iA m.W m.H/\(m.C.length:Int)=m.W*m.H/\0∉m.C
theorem QI (m:aL) (hb:m.C.length<4611686018427387904):yB.f m=some (decide (tK m)):=by
 unfold yB.f;rw[AM]
 by_cases hm:iA m.W m.H
 ·have hp:=xv hm;rw[bm (x:=m.W*m.H) U U,Mp _ _ hb]
  by_cases hl:(m.C.length:Int)=m.W*m.H
  ·simp[hm,hl]
  ·simp[hl]
 ·simp[hm]
theorem Yz {x:List Int} {v:Int} (h: ∀c:Int,0<=c->c<x.length->rd x c=v):x=List.replicate x.length v:=by
 rw[List.eq_replicate_iff];refine⟨J,λb hb=>?_⟩
 obtain⟨i,hi,rfl⟩:=List.getElem_of_mem hb;have:=h i U U;rw[jj (by simpa using hi)] at this
 simpa using this
theorem agf (m:aL) (e:Int) (v2:List Int) (v3:Int×Int) (he:0<=e/\e<=4611686018427387904) (N:Nat) (hN:(List.replicate (Int.toNat (aa (v3.1*v3.2))) (0:Int)).length=N) (hb:N<=1000000):
 ∀(n k:Nat) (x:List Int) (i:Int),x.length=N->i+n=N->0<=i->n<k->(∀c:Int,0<=c->c<i->rd x c=e+1)->
 lX.l0 k m e v2 v3 x i=some (some (bA.mk (aL.mk m.W m.H v2) (e+1) (List.replicate N (e+1)))):=by
 intro n
 induction n with
 |zero=>
  intro k x i hx hi h0 hk ha;obtain⟨k,rfl⟩: ∃q,k=q+1:=⟨k-1,by omega⟩
  rw[lX.l0,hN,ah U,bm U U];have:=Yz (x:=x) (v:=e+1) (λc c0 c1=>ha c c0 U);rw[hx] at this;rw[this]
 |succ n ih=>
  intro k x i hx hi h0 hk ha;obtain⟨k,rfl⟩: ∃q,k=q+1:=⟨k-1,by omega⟩
  rw[lX.l0,hN,af U,af U,bm (x:=e+1) U U,bm (x:=i+1) U U];refine ih k _ (i+1) (by simpa using hx) U U U (λc c0 c1=>?_)
  rw[Hf h0 U c0]
  by_cases hc:c=i
  ·rw[af hc]
  ·rw[ah hc];exact ha c c0 U
def Jl (m:aL) (e:Int):Option bA:=if tK m/\0<=e/\e<=4611686018427387904 then some (bA.mk m (e+1) (List.replicate (dO m.W m.H).toNat (e+1))) else none
theorem ab3 (m:aL) (e:Int) (hb:m.C.length<=1099511627776):lX.f m e=some (Jl m e):=by
 unfold lX.f Jl;rw[QI m U]
 by_cases h:tK m/\0<=e/\e<=4611686018427387904
 ·have hc:=oq m.W m.H;have hs:aa ((bq m.W m.H).1*(bq m.W m.H).2)=dO m.W m.H:=bm (by unfold dO at hc;omega) (by unfold dO at hc;omega)
  simp only[aG,decide_eq_true h.1,Bool.not_true,Bool.false_or];rw[ah bk,af h,Re _ hb,EE];simp only[aG];rw[hs,af U];exact agf m e m.C _ h.2 (dO m.W m.H).toNat (by rw[hs];simp) U (dO m.W m.H).toNat fuel _ 0 bj U U (by rw[tZ];omega) (λc c0 c1=>by omega)
 ·rw[ah h]
  by_cases h1:tK m
  ·have: ¬(0<=e/\e<=4611686018427387904):=λq=>h ⟨h1,q⟩
   simp only[aG,decide_eq_true h1,Bool.not_true,Bool.false_or];rw[af bk]
  ·simp only[aG,decide_eq_false h1,Bool.not_false,Bool.true_or,if_true]
structure dD (g:bA) (more:Int):Prop where
 ok:tK g.m
 su: ∀c:Int,0<=c->c<g.m.W*g.m.H->1<=rd g.m.C c/\rd g.m.C c<=255
 vs:(g.pK.length:Int)=dO g.m.W g.m.H
 ep:1<=g.bL/\g.bL+more<=4611686018427387905+1000/\0<=more
def cL (m:aL) (c:Int):Prop:=0<=c/\c<m.W*m.H
instance (m:aL) (c:Int):Decidable (cL m c):=by unfold cL;infer_instance
def fK (g:bA) (c:Int):Int:=if cL g.m c then rd g.m.C c else 0
def fA (g:bA) (s:Int):Int:=if 0<=s/\s<dO g.m.W g.m.H then rd g.pK s else 0
def mM (g:bA) (c v:Int):bA:=bA.mk (aL.mk g.m.W g.m.H (List.set g.m.C c.toNat v)) (g.bL+1) (List.set g.pK (aW g.m.W g.m.H c).toNat (g.bL+1))
def Jk (g:bA) (c v:Int):Int×bA:=if ¬cL g.m c then(7,g) else if v<1∨255<v then(8,g) else(0,mM g c v)
variable {g : bA} {more : Int}
theorem VA (h:dD g more) (c:Int):(if c<0 then(some true) else(some (decide (c≥(List.length g.m.C:Int)))))=some (decide (¬cL g.m c)):=by
 have hl:=h.ok.2.1;unfold cL
 by_cases h0:c<0
 ·rw[af h0,decide_eq_true U]
 ·rw[ah h0,hl];congr 1;rw[Bool.eq_iff_iff];simp;omega
theorem vc (h:dD g more) (c:Int):jc.f g c=some (fK g c):=by
 unfold jc.f fK;rw[VA h];have hl:=h.ok.2.1
 by_cases hc:cL g.m c
 ·obtain⟨c0,c1⟩:=hc;have hb:=h.su c c0 c1;have hc:cL g.m c:=⟨c0,c1⟩;rw[aG,ah (by simpa using hc),af U,af hc,bm U U]
 ·rw[aG,af (by simpa using hc),ah hc]
theorem abo (h:dD g more) (c v:Int):xd.f g c v=some (Jk g c v):=by
 unfold xd.f Jk;rw[VA h];have hl:=h.ok.2.1;have hv:=h.vs
 by_cases hc:cL g.m c
 ·obtain⟨c0,c1⟩:=hc;have hc:cL g.m c:=⟨c0,c1⟩;rw[aG,ah (by simpa using hc),ah (c:= ¬cL g.m c) (λq=>q hc)]
  by_cases hq:v<1∨255<v
  ·rw[af bk,af hq]
  ·have eB:bV g.m.W g.m.H c:=⟨h.ok.1,c0,c1⟩;have yZ:bJ g.m.W g.m.H (aW g.m.W g.m.H c):=by unfold aW;rw[af eB];exact ED eB
   have NL:=h.ep;rw[ah bk,ah hq,af U,rR,aG,af (by rw[hv];exact⟨yZ.1,yZ.2⟩),ET U U,bm U U]
   rfl
 ·rw[aG,af (by simpa using hc),af (c:= ¬cL g.m c) hc]
theorem afu (h:dD g more) (h1:1<=more) {c v:Int} (hc:cL g.m c) (v0:1<=v) (v1:v<=255):dD (mM g c v) (more-1):=by
 obtain⟨c0,c1⟩:=hc;have hl:=h.ok.2.1;have NL:=h.ep;have iI: ∀d:Int,0<=d->d<g.m.W*g.m.H->1<=rd (List.set g.m.C c.toNat v) d/\rd (List.set g.m.C c.toNat v) d<=255:=λd d0 d1=>by
  rw[Hf c0 U d0];split
  ·exact⟨v0,v1⟩
  ·exact h.su d d0 d1
 refine⟨⟨h.ok.1,by simp[mM,hl],λhm=>?_⟩,iI,by simp[mM,h.vs],⟨by simp[mM];omega,by simp[mM];omega,by omega⟩⟩
 obtain⟨i,hi,he⟩:=List.getElem_of_mem hm;have rF:i<(List.set g.m.C c.toNat v).length:=hi;rw[List.length_set] at rF;have:=iI i U U;rw[jj (show(i:Int).toNat<(List.set g.m.C c.toNat v).length by rw[List.length_set];omega)] at this
 have he:(List.set g.m.C c.toNat v)[i]=0:=he;simp only[Int.toNat_natCast] at this;omega
def l_ (m:aL) (c:Int):Bool:=decide (cL m c)&&decide (rd m.C c≠255)
theorem Bf {m:aL} {c:Int}:l_ m c=true↔cL m c/\rd m.C c≠255:=by simp[l_]
theorem ON {g:bA} {more:Int} (h:dD g more) (c:Int):tS.f g c=some (l_ g.m c):=by
 unfold tS.f;rw[vc h,aG];unfold fK l_
 by_cases hc:cL g.m c
 ·have:=h.su c hc.1 hc.2;rw[af hc,decide_eq_true hc]
  congr 1
  rw[Bool.eq_iff_iff];simp;omega
 ·rw[ah hc,decide_eq_false hc];simp
theorem aiv (m:aL) {c:Int} (hc:c<0):l_ m c=false:=by
 unfold l_;rw[decide_eq_false (λq=>by have:=q.1;omega)];rfl
def bK (m:aL) (s:Int):List Int:=(qQ m.W m.H s).filter (l_ m)
theorem Rc (w h s:Int):(qQ w h s).length<=256:=by
 have:=zC w h s;have:=Rb w h s ((ax w h s).1*(ax w h s).2).toNat;unfold qQ;omega
theorem ags {g:bA} {more:Int} (h:dD g more) (v:List Int) (hv:v.length<=1000): ∀(n k:Nat) (i:Int) (x:List Int),i+n=v.length->0<=i->n<k->x.length<=i.toNat->
 jY.l0 k g v x i=some (x++(v.drop i.toNat).filter (l_ g.m)):=by
 intro n
 induction n with
 |zero=>
  intro k i x hi h0 hk hx;obtain⟨k,rfl⟩:=bl hk;rw[jY.l0,ah U,List.drop_of_length_le U];simp
 |succ n ih=>
  intro k i x hi h0 hk hx;obtain⟨k,rfl⟩:=bl hk;rw[jY.l0,af U,af U,ON h,aG,bm U U,BV h0 U]
  by_cases ho:l_ g.m (rd v i)=true
  ·rw[af ho,af U,ih k (i+1) _ U U U bk,List.filter_cons_of_pos ho];simp
  ·rw[ah ho,ih k (i+1) _ U U U U,List.filter_cons_of_neg ho]
theorem Vp {g:bA} {more:Int} (h:dD g more) (s:Int):jY.f g s=some (bK g.m s):=by
 unfold jY.f;have e0:iH.f g=some (g.m.W,g.m.H):=rfl;have hl:=Rc g.m.W g.m.H s;rw[e0,aG,aaC,aG];have:=ags h (qQ g.m.W g.m.H s) U (qQ g.m.W g.m.H s).length fuel 0 [] U U (by rw[cD];omega) bj
 exact this
def xO (m:aL) (c:Int) (n:Nat):List dZ:=((List.range n).filter (λj:Nat=>l_ m (fU m.W m.H c (j:Int)))).map (λj:Nat=>dZ.mk (fU m.W m.H c (j:Int)) (rd m.C (fU m.W m.H c (j:Int))))
def wg (m:aL) (c:Int):List dZ:=if l_ m c=true then xO m c 4 else[]
theorem aaY (m:aL) (c:Int) (n:Nat):xO m c (n+1)=if l_ m (fU m.W m.H c (n:Int))=true then xO m c n++[dZ.mk (fU m.W m.H c (n:Int)) (rd m.C (fU m.W m.H c (n:Int)))] else xO m c n:=by
 unfold xO;rw[List.range_succ,List.filter_append,List.map_append]
 by_cases h:l_ m (fU m.W m.H c (n:Int))=true
 ·rw[af h];simp[h]
 ·rw[ah h];simp[h]
theorem Ro (m:aL) (c:Int) (n:Nat):(xO m c n).length<=n:=by
 unfold xO;rw[List.length_map];have:=List.length_filter_le (λj:Nat=>l_ m (fU m.W m.H c (j:Int))) (List.range n);simpa using this
theorem aaZ {g:bA} {more:Int} (h:dD g more) (c:Int):ni.f g c=some (wg g.m c):=by
 unfold ni.f wg;have e0:iH.f g=some (g.m.W,g.m.H):=rfl;have e:yG.f=some [0,1,2,3]:=rfl;rw[e0,aG,ON h,aG]
 by_cases ho:l_ g.m c=true
 ·rw[ah (by rw[ho];simp),e,aG,af ho]
  have key: ∀(n k:Nat) (j:Int),j+n=4->0<=j->n<k->ni.l0 k g c (g.m.W,g.m.H) [0,1,2,3] (xO g.m c j.toNat) j=some (xO g.m c 4):=by
   intro n
   induction n with
   |zero=>
    intro k j hj h0 hk;obtain⟨k,rfl⟩:=bl hk;rw[ni.l0,ah U];rw[show j.toNat=4 by omega]
   |succ n ih=>
    intro k j hj h0 hk;obtain⟨k,rfl⟩:=bl hk;have hle:=Ro g.m c j.toNat;have:=ih k (j+1) U U U;rw[show(j+1).toNat=j.toNat+1 by omega,aaY,show((j.toNat:Nat):Int)=j by omega] at this
    rw[ni.l0,af U,W0 h0 U,VF,af bk,aG,bm U U];have e2:(if fU g.m.W g.m.H c j≥0 then((tS.f g (fU g.m.W g.m.H c j)).bind λv12=>some v12) else(some false))=some (l_ g.m (fU g.m.W g.m.H c j)):=by
     by_cases hn:fU g.m.W g.m.H c j≥0
     ·rw[af hn,ON h];rfl
     ·rw[ah hn,aiv _ U]
    rw[e2,aG]
    by_cases hq:l_ g.m (fU g.m.W g.m.H c j)=true
    ·rw[af hq] at this;have DW:fK g (fU g.m.W g.m.H c j)=rd g.m.C (fU g.m.W g.m.H c j):=by unfold fK;rw[af (Bf.mp hq).1]
     rw[af hq,vc h,aG,af U,DW];exact this
    ·rw[ah hq] at this;rw[ah hq];exact this
  exact key 4 fuel 0 U U (by rw[cD];omega)
 ·rw[af (by simpa using ho),ah ho]
theorem Ct {tw th side:Int} (t0:0<=tw) (t1:tw<=16) (u0:0<=th) (u1:th<=16):0<=qa tw th side/\qa tw th side<=16:=by
 unfold qa;split
 ·omega
 ·split<;>omega
theorem Rq (m:aL) (c:Int):(wg m c).length<=4:=by
 unfold wg;split
 ·exact Ro m c 4
 ·simp
def eA (p:Int->Bool):Nat->Nat
 |0=>0
 |n+1=>eA p n+if p n then 1 else 0
theorem FF (p:Int->Bool): ∀n,eA p n<=n
 |0=>Nat.le_refl _
 |n+1=>by have:=FF p n;unfold eA;split<;>omega
theorem Rh {p q:Int->Bool}: ∀{n:Nat},(∀i:Int,0<=i->i<n->p i=q i)->eA p n=eA q n
 |0,_=>rfl
 |n+1,h=>by unfold eA;rw[Rh (λi a b=>h i a U),h n U U]
theorem Mm {p q:Int->Bool} {c:Int}: ∀{n:Nat},0<=c->c<n->p c=true->q c=false->(∀i:Int,0<=i->i<n->i≠c->q i=p i)->eA p n=eA q n+1
 |0,h0,h1,_,_,_=>by omega
 |n+1,h0,h1,hp,hq,he=>by
  unfold eA
  by_cases z:c=n
  ·subst z;rw[hp,hq,Rh (p:=p) (q:=q) (λi a b=>(he i a U U).symm)];simp
  ·rw[Mm h0 U hp hq (λi a b=>he i a U),he n U U (λy=>z y.symm)];omega
theorem nC {m:aL} (hm:tK m) {c:Int} (h:cL m c):bV m.W m.H c:=⟨hm.1,h.1,h.2⟩
theorem aiP {m:aL} {c s:Int} (h0: ¬cB m.W m.H c s<0):cL m (cB m.W m.H c s):=by
 unfold cB at h0⊢;split at h0
 ·rename_i h;rw[af h];unfold pD at h0⊢;split at h0
  ·rename_i q;rw[af q];exact sw q.2.1 q.2.2.1 q.2.2.2.1 q.2.2.2.2
  ·omega
 ·omega
theorem C8 (g:bA):iH.f g=some (g.m.W,g.m.H):=rfl
theorem FL (g:bA):pg.f g=some g.bL:=rfl
end Go.Proofs.YthodkonhneebbaaGreatDoor
