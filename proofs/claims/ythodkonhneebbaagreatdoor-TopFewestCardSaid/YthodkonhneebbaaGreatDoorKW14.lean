/- What the functions do, in plain Lean, on the objects that are kept in order. -/
import Derived.Test.YthodkonhneebbaaGreatDoorKW5
import Derived.Test.YthodkonhneebbaaGreatDoorKW6
import Derived.Test.YthodkonhneebbaaGreatDoorKW11
import Derived.Test.YthodkonhneebbaaGreatDoorKW7
import Derived.Test.YthodkonhneebbaaGreatDoorKW10
import Derived.Test.YthodkonhneebbaaGreatDoorKW8
namespace Go.Proofs.YthodkonhneebbaaGreatDoor
open Go.Hx
set_option linter.unusedVariables false
set_option linter.unusedSimpArgs false
theorem bo {x:Int} (h1: -9223372036854775808<=x) (h2:x<=9223372036854775807):aa x=x:=by
 unfold aa IntKind.wrap IntKind.signed IntKind.bits;simp;omega
theorem qZ {a b:Int} (h:0<=a):Int.tdiv a b=a/b:=Int.tdiv_eq_ediv_of_nonneg h
theorem nh {a b:Int} (h:0<=a):Int.tmod a b=a%b:=Int.tmod_eq_emod_of_nonneg h
abbrev iE (w h:Int):Prop:=1<=w/\w<=1024/\1<=h/\h<=1024
abbrev bV (w h c:Int):Prop:=iE w h/\0<=c/\c<w*h
theorem kJ {a b m n:Int} (ha:0<=a) (hb:0<=b) (h1:a<=m) (h2:b<=n):a*b<=m*n:=
 Int.mul_le_mul h1 h2 hb U
theorem nQ {a b:Int} (ha:0<=a) (hb:0<=b):0<=a*b:=Int.mul_nonneg ha hb
theorem xt {w h:Int} (hm:iE w h):1<=w*h/\w*h<=1048576:=by
 obtain⟨a,b,c,d⟩:=hm;have h1:w*h<=1024*1024:=kJ U U b d;have h2:1*1<=w*h:=Int.mul_le_mul a c U U;omega
theorem AW (w h:Int):oc.f w h=some (decide (iE w h)):=by
 unfold oc.f
 congr 1
 simp only[iE];rw[Bool.eq_iff_iff];simp;omega
theorem Ob (n lo hi:Int):sZ.f n lo hi=some (decide (lo<=n/\n<=hi)):=by
 unfold sZ.f
 congr 1
 rw[Bool.eq_iff_iff];simp
theorem ahJ (w h:Int):CZ.f w h=some (decide (iE w h)):=by
 unfold CZ.f;simp only[Ob,aK,iE]
 by_cases h1:1<=w/\w<=1024
 ·simp[h1]
 ·simp[h1];omega
def bt (w h:Int):Int×Int:=if iE w h then((w+15)/16,(h+15)/16) else(0,0)
theorem EM (w h:Int):qu.f w h=some (bt w h):=by
 unfold qu.f bt;simp only[AW,aK]
 by_cases hm:iE w h
 ·rw[decide_eq_true hm,af hm,ah bh];obtain⟨a,b,c,d⟩:=hm;simp only[bo (x:=w+16) U U,bo (x:=h+16) U U,bo (x:=w+16-1) U U,bo (x:=h+16-1) U U,
   qZ (a:=w+16-1) U,qZ (a:=h+16-1) U,bo (x:=(w+16-1)/16) U U,bo (x:=(h+16-1)/16) U U]
  congr 2<;>omega
 ·simp[hm]
theorem Pa (w h:Int):vT.f w h=some (bt w h):=by
 rw[<-EM];unfold vT.f qu.f;rw[ahJ,AW]
theorem C9 {w h:Int} (hm:iE w h):1<=(bt w h).1/\(bt w h).1<=64/\1<=(bt w h).2/\(bt w h).2<=64:=by
 unfold bt;rw[af hm];obtain⟨a,b,c,d⟩:=hm;simp only;omega
theorem aih (w h:Int):0<=(bt w h).1/\(bt w h).1<=64/\0<=(bt w h).2/\(bt w h).2<=64:=by
 by_cases hm:iE w h
 ·have:=C9 hm;omega
 ·unfold bt;rw[ah hm];simp
def d_ (w h:Int):Int:=(bt w h).1*(bt w h).2
theorem pg (w h:Int):0<=d_ w h/\d_ w h<=4096:=by
 obtain⟨a,b,c,d⟩:=aih w h;have h1:d_ w h<=64*64:=kJ a c b d;have h2:0<=d_ w h:=nQ a c;omega
theorem aaR {w h:Int} (hm:iE w h):1<=d_ w h:=by
 obtain⟨a,b,c,d⟩:=C9 hm;have h2:1*1<=d_ w h:=Int.mul_le_mul a c U U;omega
theorem OW (w h:Int):zt.f w h=some (d_ w h):=by
 unfold zt.f;have:=pg w h;simp only[Pa,aK,d_];unfold d_ at this;rw[bo U U]
abbrev bK (w h s:Int):Prop:=0<=s/\s<d_ w h
def HF (w h s:Int):Int×Int×Bool:=if bK w h s then(16*(s%(bt w h).1),16*(s/(bt w h).1),true) else(0,0,false)
theorem tq {w h s:Int} (hs:bK w h s):iE w h:=by
 by_cases hm:iE w h
 ·exact hm
 ·have:d_ w h=0:=by unfold d_ bt;rw[ah hm];simp
  obtain⟨a,b⟩:=hs;omega
theorem uz {w h s:Int} (hs:bK w h s):0<=s%(bt w h).1/\s%(bt w h).1<(bt w h).1/\0<=s/(bt w h).1/\s/(bt w h).1<(bt w h).2:=by
 obtain⟨a,b,c,d⟩:=C9 (tq hs);obtain⟨h0,h1⟩:=hs;refine⟨Int.emod_nonneg _ U,Int.emod_lt_of_pos _ U,Int.ediv_nonneg h0 U,?_⟩;unfold d_ at h1;exact Int.ediv_lt_of_lt_mul U (by rw[Int.mul_comm];exact h1)
theorem Ri (w h s:Int):zN.f w h s=some (HF w h s):=by
 unfold zN.f HF;simp only[EM,aK];have hc:=pg w h;have hw:aa ((bt w h).1*(bt w h).2)=d_ w h:=by unfold d_ at hc⊢;exact bo U U
 rw[hw]
 by_cases hs:bK w h s
 ·have hb:((decide (s<0))||(decide (s≥d_ w h)))=false:=by
   obtain⟨h0,h1⟩:=hs;simp;omega
  rw[hb];obtain⟨p1,p2,p3,p4⟩:=uz hs;obtain⟨a,b,c,d⟩:=C9 (tq hs);have bI: ¬(bt w h).1=0:=U;rw[ah bh,af bI,af bI,af hs,nh hs.1,qZ hs.1];rw[bo (x:=s/(bt w h).1) U U,bo U U,bo U U];rw[Int.mul_comm 16,Int.mul_comm 16]
 ·have hb:((decide (s<0))||(decide (s≥d_ w h)))=true:=by
   simp only[bK] at hs;simp;omega
  rw[hb,ah hs];rfl
def ax (w h s:Int):Int×Int:=if bK w h s then(min 16 (w-16*(s%(bt w h).1)),min 16 (h-16*(s/(bt w h).1))) else(0,0)
theorem Pn {w h s:Int} (hs:bK w h s):16*(s%(bt w h).1)<w/\16*(s/(bt w h).1)<h:=by
 have hm:=tq hs;obtain⟨p1,p2,p3,p4⟩:=uz hs;have e1:(bt w h).1=(w+15)/16:=by unfold bt;rw[af hm]
 have e2:(bt w h).2=(h+15)/16:=by unfold bt;rw[af hm]
 generalize s%(bt w h).1=x at*;generalize s/(bt w h).1=y at*;omega
theorem Kr (x:Int):(if x<16 then x else 16)=min 16 x:=by
 rw[Int.min_def];split<;>split<;>omega
theorem HN (w h s:Int):rf.f w h s=some (ax w h s):=by
 unfold rf.f ax;simp only[Ri,aK];unfold HF
 by_cases hs:bK w h s
 ·rw[af hs,af hs];obtain⟨r1,r2⟩:=Pn hs;obtain⟨p1,p2,p3,p4⟩:=uz hs;obtain⟨a,b,c,d⟩:=tq hs;rw[ah bh];simp only;rw[bo (x:=w-_) U U,bo (x:=h-_) U U,Kr,Kr]
 ·rw[ah hs,ah hs];rfl
theorem WI (w h s:Int):zu.f w h s=some (ax w h s):=by
 unfold zu.f ax;have hc:=pg w h;simp only[OW,aK,Ob,Pa];rw[bo (x:=d_ w h-1) U U]
 by_cases hs:bK w h s
 ·have hb:decide (0<=s/\s<=d_ w h-1)=true:=by obtain⟨h0,h1⟩:=hs;simp;omega
  rw[hb,af hs];obtain⟨r1,r2⟩:=Pn hs;obtain⟨p1,p2,p3,p4⟩:=uz hs;obtain⟨a,b,c,d⟩:=C9 (tq hs);obtain⟨m1,m2,m3,m4⟩:=tq hs;have bI: ¬(bt w h).1=0:=U;rw[ah bh,af bI,af bI,nh hs.1,qZ hs.1];rw[bo (x:=s/(bt w h).1) U U,bo (x:=16*(s%_)) U U,bo (x:=16*(s/_)) U U,
   bo (x:=w-_) U U,bo (x:=h-_) U U,Kr,Kr]
 ·have hb:decide (0<=s/\s<=d_ w h-1)=false:=by simp only[bK] at hs;simp;omega
  rw[hb,ah hs];rfl
theorem qn {w h s:Int} (hs:bK w h s):1<=(ax w h s).1/\(ax w h s).1<=16/\1<=(ax w h s).2/\(ax w h s).2<=16:=by
 obtain⟨r1,r2⟩:=Pn hs;unfold ax;rw[af hs];simp only;omega
theorem size_le (w h s:Int):0<=(ax w h s).1/\(ax w h s).1<=16/\0<=(ax w h s).2/\(ax w h s).2<=16:=by
 by_cases hs:bK w h s
 ·have:=qn hs;omega
 ·unfold ax;rw[ah hs];simp
def pI (w h x y:Int):Int:=if iE w h/\0<=x/\x<w/\0<=y/\y<h then y*w+x else-1
theorem sB {w h x y:Int} (hx:0<=x) (vD:x<w) (hy:0<=y) (Uz:y<h):0<=y*w+x/\y*w+x<w*h:=by
 have h1:(y+1)*w<=h*w:=Int.mul_le_mul_of_nonneg_right U U;have h2:(y+1)*w=y*w+w:=by rw[Int.add_mul];omega
 have h3:0<=y*w:=nQ hy U;have h4:h*w=w*h:=Int.mul_comm _ _;omega
theorem Q6 (w h x y:Int):zM.f w h x y=some (pI w h x y):=by
 unfold zM.f pI;simp only[AW,aK]
 by_cases hc:iE w h/\0<=x/\x<w/\0<=y/\y<h
 ·obtain⟨hm,h1,h2,h3,h4⟩:=hc;have hb:(((((!decide (iE w h))||(decide (x<0)))||(decide (x≥w)))||(decide (y<0)))||(decide (y≥h)))=false:=by
   simp[hm];omega
  rw[hb,ah bh,af ⟨hm,h1,h2,h3,h4⟩];have:=sB h1 h2 h3 h4;have hp:=xt hm;have h5:0<=y*w:=nQ h3 U;rw[bo (x:=y*w) U U,bo U U]
 ·have hb:(((((!decide (iE w h))||(decide (x<0)))||(decide (x≥w)))||(decide (y<0)))||(decide (y≥h)))=true:=by
   by_cases hm:iE w h
   ·have ie: ¬(0<=x/\x<w/\0<=y/\y<h):=λh=>hc ⟨hm,h⟩
    simp[hm];omega
   ·simp[hm]
  rw[hb,ah hc];rfl
theorem UH (w h c:Int):wy.f w h c=some (decide (bV w h c)):=by
 unfold wy.f;simp only[AW,aK]
 by_cases hm:iE w h
 ·have hp:=xt hm;rw[bo U U];simp[hm]
 ·simp[hm]
def Ba (w h c:Int):Int×Int:=if bV w h c then(c%w,c/w) else(-1,-1)
theorem vP {w h c:Int} (hc:bV w h c):0<=c%w/\c%w<w/\0<=c/w/\c/w<h:=by
 obtain⟨⟨a,b,d,e⟩,h0,h1⟩:=hc;exact⟨Int.emod_nonneg _ U,Int.emod_lt_of_pos _ U,Int.ediv_nonneg h0 U,Int.ediv_lt_of_lt_mul U (by rw[Int.mul_comm];exact h1)⟩
theorem OQ (w h c:Int):wx.f w h c=some (Ba w h c):=by
 unfold wx.f Ba;simp only[UH,aK]
 by_cases hc:bV w h c
 ·have hp:=vP hc;have hm:=hc.1;have bI: ¬w=0:=by obtain⟨a,_⟩:=hm;omega
  rw[ah (by simp[hc]),af bI,af bI,af hc,nh hc.2.1,qZ hc.2.1]
  obtain⟨a,b,d,e⟩:=hm;rw[bo U U]
 ·simp[hc]
theorem Ex {w h c:Int}:(Ba w h c).1<0↔ ¬bV w h c:=by
 unfold Ba
 by_cases hc:bV w h c
 ·have:=vP hc;rw[af hc];exact⟨λh=>by simp only at h;omega,λh=>absurd hc h⟩
 ·rw[ah hc];simp[hc]
def aX (w h c:Int):Int:=if bV w h c then c/w/16*(bt w h).1+c%w/16 else-1
theorem EK {w h c:Int} (hc:bV w h c):0<=c%w/16/\c%w/16<(bt w h).1/\0<=c/w/16/\c/w/16<(bt w h).2:=by
 have hp:=vP hc;have e1:(bt w h).1=(w+15)/16:=by unfold bt;rw[af hc.1]
 have e2:(bt w h).2=(h+15)/16:=by unfold bt;rw[af hc.1]
 rw[e1,e2];generalize c%w=x at*;generalize c/w=y at*;omega
theorem EL {w h c:Int} (hc:bV w h c):bK w h (c/w/16*(bt w h).1+c%w/16):=by
 obtain⟨a,b,d,e⟩:=EK hc;have:=sB a b d e;unfold bK d_;exact this
theorem tr (w h c:Int):gN.f w h c=some (aX w h c):=by
 unfold gN.f aX;simp only[OQ,aK]
 by_cases hc:bV w h c
 ·rw[ah (by rw[Ex];simp[hc]),EM]
  simp only[aK,Ba];rw[af hc,af hc];have hp:=vP hc;obtain⟨a,b,d,e⟩:=EK hc;obtain⟨m1,m2,m3,m4⟩:=C9 hc.1;have hs:=EL hc;have hk:=pg w h;obtain⟨s1,s2⟩:=hs;have h5:0<=c/w/16*(bt w h).1:=nQ d U;simp only;rw[qZ hp.2.2.1,qZ hp.1,bo (x:=c/w/16) U U,bo (x:=c%w/16) U U,bo (x:=_*_) U U,bo U U]
 ·rw[af (by rw[Ex];exact hc),ah hc]
theorem qM {a x y:Int} (h0:0<=x) (h1:x<a):(y*a+x)%a=x/\(y*a+x)/a=y:=by
 have ha:a≠0:=U;constructor
 ·rw[Int.add_comm,Int.add_mul_emod_self_right];exact Int.emod_eq_of_lt h0 h1
 ·rw[Int.add_comm,Int.add_mul_ediv_right _ _ ha,Int.ediv_eq_zero_of_lt h0 h1];omega
def dB (w h c:Int):Int:=if bV w h c then c/w%16*(ax w h (aX w h c)).1+c%w%16 else-1
theorem Oq {w h c:Int} (hc:bV w h c):c%w%16<(ax w h (aX w h c)).1/\c/w%16<(ax w h (aX w h c)).2:=by
 have hs:=EL hc;obtain⟨a,b,d,e⟩:=EK hc;have hn:=qM (a:=(bt w h).1) (x:=c%w/16) (y:=c/w/16) a b;have hp:=vP hc;unfold aX;rw[af hc];unfold ax;rw[af hs,hn.1,hn.2];simp only;generalize c%w=x at*;generalize c/w=y at*;omega
theorem zF {w h c:Int}:aX w h c<0↔ ¬bV w h c:=by
 unfold aX
 by_cases hc:bV w h c
 ·have:=EL hc;rw[af hc];exact⟨λh=>by unfold bK at this;omega,λh=>absurd hc h⟩
 ·rw[ah hc];simp[hc]
def db (w h s l:Int):Int:=
 if bK w h s/\0<=l/\l<(ax w h s).1*(ax w h s).2 then(16*(s/(bt w h).1)+l/(ax w h s).1)*w+(16*(s%(bt w h).1)+l%(ax w h s).1) else-1
theorem w6 {w h s l:Int} (hs:bK w h s) (h0:0<=l) (h1:l<(ax w h s).1*(ax w h s).2):
 0<=l%(ax w h s).1/\l%(ax w h s).1<(ax w h s).1/\0<=l/(ax w h s).1/\l/(ax w h s).1<(ax w h s).2/\
 16*(s%(bt w h).1)+l%(ax w h s).1<w/\16*(s/(bt w h).1)+l/(ax w h s).1<h:=by
 obtain⟨z1,z2,z3,z4⟩:=qn hs;have a1:0<=l%(ax w h s).1:=Int.emod_nonneg _ U;have a2:l%(ax w h s).1<(ax w h s).1:=Int.emod_lt_of_pos _ U;have a3:0<=l/(ax w h s).1:=Int.ediv_nonneg h0 U;have a4:l/(ax w h s).1<(ax w h s).2:=Int.ediv_lt_of_lt_mul U (by rw[Int.mul_comm];exact h1)
 refine⟨a1,a2,a3,a4,?_,?_⟩
 ·have:(ax w h s).1<=w-16*(s%(bt w h).1):=by unfold ax;rw[af hs];simp only;omega
  omega
 ·have:(ax w h s).2<=h-16*(s/(bt w h).1):=by unfold ax;rw[af hs];simp only;omega
  omega
theorem Jo (w h s l:Int):tJ.f w h s l=some (db w h s l):=by
 unfold tJ.f db;simp only[Ri,aK,HN,Q6];have hz:=size_le w h s;have J7:(ax w h s).1*(ax w h s).2<=16*16:=kJ hz.1 hz.2.2.1 hz.2.1 hz.2.2.2;have hz2:0<=(ax w h s).1*(ax w h s).2:=nQ hz.1 hz.2.2.1;rw[bo (x:=_*(ax w h s).2) U U]
 by_cases hs:bK w h s
 ·unfold HF;rw[af hs]
  by_cases hl:0<=l/\l<(ax w h s).1*(ax w h s).2
  ·obtain⟨a1,a2,a3,a4,a5,a6⟩:=w6 hs hl.1 hl.2;obtain⟨z1,z2,z3,z4⟩:=qn hs;obtain⟨m1,m2,m3,m4⟩:=tq hs;obtain⟨p1,p2,p3,p4⟩:=uz hs;have bI: ¬(ax w h s).1=0:=U;rw[ah bp,af bI,af bI,af (c:=bK w h s/\_) ⟨hs,hl⟩];simp only;rw[nh hl.1,qZ hl.1,bo (x:=l/_) U U,bo (x:=_+l%_) U U,bo (x:=_+l/_) U U];unfold pI;rw[af ⟨⟨m1,m2,m3,m4⟩,by omega,a5,by omega,a6⟩]
  ·rw[af bp,ah (λh=>hl h.2)]
 ·unfold HF;rw[ah hs,af bh,ah (c:=bK w h s/\_) (λh=>hs h.1)]
theorem ahH (w h s l:Int):CY.f w h s l=some (db w h s l):=by
 unfold CY.f db;simp only[WI,aK,Ob,Pa];have hz:=size_le w h s;have J7:(ax w h s).1*(ax w h s).2<=16*16:=kJ hz.1 hz.2.2.1 hz.2.1 hz.2.2.2;have hz2:0<=(ax w h s).1*(ax w h s).2:=nQ hz.1 hz.2.2.1;rw[bo (x:=_*(ax w h s).2) U U,bo (x:=_*(ax w h s).2-1) U U]
 by_cases hs:bK w h s
 ·by_cases hl:0<=l/\l<(ax w h s).1*(ax w h s).2
  ·obtain⟨a1,a2,a3,a4,a5,a6⟩:=w6 hs hl.1 hl.2;obtain⟨z1,z2,z3,z4⟩:=qn hs;obtain⟨m1,m2,m3,m4⟩:=tq hs;obtain⟨p1,p2,p3,p4⟩:=uz hs;obtain⟨s1,s2,s3,s4⟩:=C9 (tq hs);have bI: ¬(ax w h s).1=0:=U;have Ug: ¬(bt w h).1=0:=U;rw[ah bp,af (c:=bK w h s/\_) ⟨hs,hl⟩,af Ug,af bI,af Ug,af bI,nh hl.1,qZ hl.1,nh hs.1,qZ hs.1];have hg:=sB (w:=w) (h:=h) (x:=16*(s%(bt w h).1)+l%(ax w h s).1) (y:=16*(s/(bt w h).1)+l/(ax w h s).1) U a5 U a6;have hq:0<=(16*(s/(bt w h).1)+l/(ax w h s).1)*w:=nQ U U;have hp:=xt (tq hs);rw[bo (x:=l/_) U U,bo (x:=s/_) U U,bo (x:=16*(s/_)) U U,bo (x:=16*(s/_)+_) U U,
    bo (x:=_*w) U U,bo (x:=16*(s%_)) U U,bo (x:=_*w+_) U U,bo U U]
   congr 1;omega
  ·rw[af bp,ah (λh=>hl h.2)]
 ·have h1:(ax w h s).1=0:=by unfold ax;rw[ah hs]
  rw[af (by simp[h1];omega),ah (λh=>hs h.1)]
theorem PS {n lo hi:Int} (l_: -4611686018427387904<=lo) (vv:hi<=4611686018427387904) (hle:lo<=hi) (hn:hi-lo<=4611686018427387904):fE.f n lo hi=some (lo+n%(hi-lo+1)):=by
 unfold fE.f;rw[bo (x:=hi-lo) U U,bo (x:=hi-lo+1) U U,af U];generalize hm:hi-lo+1=m;have Ci:0<m:=U;have h1:0<=n%m:=Int.emod_nonneg _ U;have h2:n%m<m:=Int.emod_lt_of_pos _ Ci
 by_cases Gq:0<=n
 ·rw[nh Gq,ah U,bo U U]
 ·have ha:Int.tmod n m=if n%m=0 then 0 else n%m-m:=by
   rw[Int.tmod_eq_emod];have hd:(m∣n)↔n%m=0:=⟨Int.emod_eq_zero_of_dvd,Int.dvd_of_emod_eq_zero⟩
   by_cases h0:n%m=0
   ·simp[h0,hd]
   ·simp[h0,hd,Gq];omega
  rw[ha]
  by_cases h0:n%m=0
  ·rw[af h0,ah U,bo U U,h0]
  ·rw[ah h0,af U,bo (x:=_+hi) U U,bo (x:=_-lo) U U,bo (x:=_+1) U U,bo U U]
   congr 1;omega
theorem PT {n lo hi:Int} (hle:lo<=hi):lo<=lo+n%(hi-lo+1)/\lo+n%(hi-lo+1)<=hi:=by
 have h1:0<=n%(hi-lo+1):=Int.emod_nonneg _ U;have h2:n%(hi-lo+1)<hi-lo+1:=Int.emod_lt_of_pos _ U;omega
theorem E3 {x:Int} (h1:0<=x) (h2:x<=255):bP x=x:=by
 unfold bP IntKind.wrap IntKind.signed IntKind.bits;simp;omega
theorem tX:fuel=18446744073709551616:=by unfold fuel;rfl
theorem Ht {α:Type} [Inhabited α] {L:List α} {i c:Int} {v:α} (h0:0<=i) (h1:i<L.length) (c0:0<=c):rd (List.set L i.toNat v) c=if c=i then v else rd L c:=by
 unfold rd
 by_cases hc:c=i
 ·subst hc;rw[af rfl];simp[List.getD,show c.toNat<L.length by omega]
 ·rw[ah hc];have:i.toNat≠c.toNat:=U;simp[List.getD,this]
theorem abi {α:Type} [Inhabited α] {a:List α} {i:Int} (h0:0<=i) (h1:i<a.length):a.drop i.toNat=rd a i::a.drop (i+1).toNat:=by
 have aR:i.toNat<a.length:=U;rw[jq aR,show(i+1).toNat=i.toNat+1 by omega]
 exact List.drop_eq_getElem_cons aR
theorem uw {α:Type} [Inhabited α] {a:List α} {i:Int} (h0:0<=i) (h1:i<a.length):rd a i∈a:=by
 rw[jq U];exact List.getElem_mem _
theorem Ra (s:List Int) (h:s.length<=1099511627776):nX.f s=some s:=by
 unfold nX.f;rw[af (by simpa using h)];simp
theorem aeV (s:List Int) (v:Int) (hb:s.length<=4611686018427387904): ∀(n k:Nat) (i:Int),i+n=s.length->0<=i->n<k->
 ∃r,qW.l0 k s v i=some r/\(0<=r↔v∈s.drop i.toNat):=by
 intro n
 induction n with
 |zero=>
  intro k i hi h0 hk;obtain⟨k,rfl⟩: ∃q,k=q+1:=⟨k-1,by omega⟩
  rw[qW.l0,ah U,List.drop_of_length_le U];exact⟨_,J,by simp⟩
 |succ n ih=>
  intro k i hi h0 hk;obtain⟨k,rfl⟩: ∃q,k=q+1:=⟨k-1,by omega⟩
  rw[qW.l0,af U,af U,abi h0 U]
  by_cases he:v=rd s i
  ·rw[af (by simpa using he)]
   exact⟨_,J,by simp[he,h0]⟩
  ·rw[ah (by simpa using he),bo U U]
   obtain⟨r,h1,h2⟩:=ih k (i+1) U U U;exact⟨r,h1,by rw[h2];simp[he]⟩
theorem Mj (s:List Int) (v:Int) (hb:s.length<4611686018427387904):wh.f s v=some (decide (v∈s)):=by
 unfold wh.f qW.f;obtain⟨r,h1,h2⟩:=aeV s v U s.length fuel 0 U U (by rw[tX];omega)
 rw[h1,aK]
 congr 1
 rw[Bool.eq_iff_iff];simpa using h2
def dX (side:Int):Int:=if side=1 then 1 else if side=3 then-1 else 0
def dY (side:Int):Int:=if side=0 then-1 else if side=2 then 1 else 0
def cC (w h c side:Int):Int:=
 if bV w h c/\0<=side/\side<=4 then pI w h (c%w+dX side) (c/w+dY side) else-1
theorem HU (w h c side:Int):mh.f w h c side=some (cC w h c side):=by
 unfold mh.f cC;simp only[OQ,aK]
 by_cases hc:bV w h c
 ·rw[ah (by rw[Ex];simp[hc])]
  have hp:=vP hc;obtain⟨q1,q2,q3,q4⟩:=hc.1;have e:Ba w h c=(c%w,c/w):=by unfold Ba;rw[af hc]
  simp only[e,Q6,aK];have e1:aa (c/w+ -1)=c/w+ -1:=bo U U;have e2:aa (c/w+1)=c/w+1:=bo U U;have e3:aa (c%w+ -1)=c%w+ -1:=bo U U;have e4:aa (c%w+1)=c%w+1:=bo U U
  by_cases h0:side=0
  ·subst h0;simp[e1,dX,dY,hc]
  by_cases h2:side=2
  ·subst h2;simp[e2,dX,dY,hc]
  by_cases h3:side=3
  ·subst h3;simp[e3,dX,dY,hc]
  by_cases h1:side=1
  ·subst h1;simp[e4,dX,dY,hc]
  by_cases h4:side=4
  ·subst h4;simp[dX,dY,hc]
  ·rw[ah (c:=bV w h c/\_) U];simp[h0,h1,h2,h3,h4]
 ·rw[af (by rw[Ex];exact hc),ah (λh=>hc h.1)]
def EP (w h a b:Int):Nat->Int->Int
 |0,_=>5
 |n+1,s=>if cC w h a s=b then s else EP w h a b n (s+1)
def C7 (w h a b:Int):Int:=if bV w h a/\bV w h b then EP w h a b 5 0 else 5
theorem aiz (w h a b:Int): ∀(n k:Nat) (s:Int),s+n=5->0<=s->n<k->qv.l0 k w h a b s=some (EP w h a b n s):=by
 intro n
 induction n with
 |zero=>
  intro k s hs h0 hk;obtain⟨k,rfl⟩: ∃m,k=m+1:=⟨k-1,by omega⟩
  rw[qv.l0,ah U];rfl
 |succ n ih=>
  intro k s hs h0 hk;obtain⟨k,rfl⟩: ∃m,k=m+1:=⟨k-1,by omega⟩
  rw[qv.l0,af U,HU];simp only[aK,EP]
  by_cases he:cC w h a s=b
  ·simp[he]
  ·rw[ah (by simpa using he),ah he,bo U U]
   exact ih k (s+1) U U U
theorem aiy (w h a b:Int):qv.f w h a b=some (C7 w h a b):=by
 unfold qv.f C7;simp only[UH,aK]
 by_cases ha:bV w h a
 ·by_cases hb:bV w h b
  ·rw[af (c:=bV w h a/\_) ⟨ha,hb⟩];simp only[decide_eq_true ha,decide_eq_true hb,Bool.not_true,Bool.false_eq_true,if_false,aK];exact aiz w h a b 5 fuel 0 U U (by rw[cO];omega)
  ·rw[ah (c:=bV w h a/\_) (λh=>hb h.2)];simp[ha,hb]
 ·rw[ah (c:=bV w h a/\_) (λh=>ha h.1)];simp[ha]
theorem Q8 {w h c:Int} (hc:bV w h c):pI w h (c%w) (c/w)=c:=by
 have hp:=vP hc;unfold pI;rw[af ⟨hc.1,hp⟩];have h1:=Int.mul_ediv_add_emod c w;rw[Int.mul_comm] at h1;omega
theorem ah5 {w h x y:Int} (hm:iE w h) (h1:0<=x) (h2:x<w) (h3:0<=y) (h4:y<h):bV w h (pI w h x y)/\pI w h x y%w=x/\pI w h x y/w=y:=by
 unfold pI;rw[af ⟨hm,h1,h2,h3,h4⟩];have:=sB h1 h2 h3 h4;exact⟨⟨hm,this⟩,qM h1 h2⟩
theorem K4 {w h c side:Int} (hc:bV w h c) (h0:0<=side) (h4:side<=4):
 (cC w h c side= -1/\ ¬(0<=c%w+dX side/\c%w+dX side<w/\0<=c/w+dY side/\c/w+dY side<h))∨
 (bV w h (cC w h c side)/\cC w h c side%w=c%w+dX side/\cC w h c side/w=c/w+dY side/\
   0<=c%w+dX side/\c%w+dX side<w/\0<=c/w+dY side/\c/w+dY side<h):=by
 have e:cC w h c side=pI w h (c%w+dX side) (c/w+dY side):=by unfold cC;rw[af ⟨hc,h0,h4⟩]
 rw[e]
 by_cases hx:0<=c%w+dX side/\c%w+dX side<w/\0<=c/w+dY side/\c/w+dY side<h
 ·obtain⟨a,b,d,f⟩:=hx;have:=ah5 hc.1 a b d f;exact .inr ⟨this.1,this.2.1,this.2.2,a,b,d,f⟩
 ·refine .inl ⟨?_,hx⟩;unfold pI;rw[ah (λh=>hx h.2)]
theorem aix (w h a b:Int): ∀(n:Nat) (s t:Int),s+n=5->s<=t->t<5->cC w h a t=b->(∀u,s<=u->u<t->cC w h a u≠b)->EP w h a b n s=t:=by
 intro n
 induction n with
 |zero=>intro s t h1 h2 h3;omega
 |succ n ih=>
  intro s t h1 h2 h3 h4 h5;simp only[EP]
  by_cases he:s=t
  ·subst he;rw[af h4]
  ·rw[ah (h5 s U U)];exact ih (s+1) t U U h3 h4 (λu hu=>h5 u U)
theorem aiZ {w h c s t:Int} (hc:bV w h c) (s0:0<=s) (s4:s<=4) (t0:0<=t) (t4:t<=4) (hs:bV w h (cC w h c s)) (he:cC w h c t=cC w h c s):s=t:=by
 have GB:s=0∨s=1∨s=2∨s=3∨s=4:=U;have ma:t=0∨t=1∨t=2∨t=3∨t=4:=U;rcases K4 hc s0 s4 with⟨h1,_⟩ |⟨_,b1,b2,_⟩
 ·rw[h1] at hs;obtain⟨_,h2,_⟩:=hs;omega
 ·rcases K4 hc t0 t4 with⟨h1,_⟩ |⟨_,d1,d2,_⟩
  ·rw[he] at h1;rw[h1] at hs;obtain⟨_,h2,_⟩:=hs;omega
  ·rw[he,b1] at d1;rw[he,b2] at d2;unfold dX at d1;unfold dY at d2;rcases GB with rfl |rfl |rfl |rfl |rfl<;>rcases ma with rfl |rfl |rfl |rfl |rfl<;>simp at d1 d2⊢ <;>omega
theorem WZ {w h c s:Int} (hc:bV w h c) (s0:0<=s) (s4:s<=4) (hs:bV w h (cC w h c s)):C7 w h c (cC w h c s)=s:=by
 unfold C7;rw[af ⟨hc,hs⟩];exact aix w h c _ 5 0 s U s0 U J (λu h1 h2 he=>by
  have:=aiZ hc s0 s4 h1 U hs he;omega)
theorem aiX {w h c:Int} (hc:bV w h c):cC w h c 4=c:=by
 unfold cC;rw[af ⟨hc,by omega,by omega⟩]
 simpa[dX,dY] using Q8 hc
def Ok {α:Type} (o:Option α) (P:α->Prop):Prop:= ∃r,o=some r/\P r
section
variable {α β : Type} {o : Option α} {f : α -> Option β} {P : α -> Prop} {Q : β -> Prop} {a b : Option α} {c : Prop} [Decidable c]
theorem Ok.bind (h:Ok o P) (k: ∀r,P r->Ok (f r) Q):Ok (o.bind f) Q:=by
 obtain⟨r,rfl,hr⟩:=h;exact k r hr
theorem Ok.bind' {γ:Type} {g:α->γ} {k:γ->Option β} (h:Ok o P) (q: ∀r,P r->Ok (k (g r)) Q):Ok ((o.bind λr=>some (g r)).bind k) Q:=by
 obtain⟨r,rfl,hr⟩:=h;exact q r hr
theorem Ok.eq {v:α} (e:o=some v) (k:Ok (f v) Q):Ok (o.bind f) Q:=by subst e;exact k
theorem Ok.opt {x:α} {d:Option β} (h:Ok (f x) Q):Ok (du (some x) d f) Q:=h
theorem Ok.pure {r:α} (h:P r):Ok (some r) P:=⟨r,J,h⟩
theorem Ok.ite (h1:c->Ok a P) (h2: ¬c->Ok b P):Ok (if c then a else b) P:=by
 split
 ·exact h1 ‹_›
 ·exact h2 ‹_›
theorem Ok.ct (hc:c) (h:Ok a P):Ok (if c then a else none) P:=by rw[af hc];exact h
theorem Ok.pos (hc:c) (h:Ok a P):Ok (if c then a else b) P:=by rw[af hc];exact h
theorem Ok.neg (hc: ¬c) (h:Ok b P):Ok (if c then a else b) P:=by rw[ah hc];exact h
theorem Ok.mono {P':α->Prop} (h:Ok o P) (k: ∀r,P r->P' r):Ok o P':=by
 obtain⟨r,e,hr⟩:=h;exact⟨r,e,k r hr⟩
theorem Ok.of {r:α} (e:o=some r) (h:P r):Ok o P:=⟨r,e,h⟩
end
theorem wi {x:Int} (h1: -9223372036854775808<=x) (h2:x<=9223372036854775807):aa x=x:=bo h1 h2
theorem Ko {α:Type} [Inhabited α] {l:List α} {e:α}:e∈l↔ ∃c:Int,0<=c/\c<l.length/\rd l c=e:=by
 constructor
 ·intro h;obtain⟨i,hi,rfl⟩:=List.getElem_of_mem h;exact⟨i,by omega,by omega,by rw[jq (by simpa using hi)];simp⟩
 ·rintro⟨c,h0,h1,rfl⟩;exact uw h0 h1
theorem PB {α:Type} [Inhabited α] {l:List α} {i j:Int} (i0:0<=i) (i1:i<l.length) (j0:0<=j) (j1:j<l.length) (e:α):
 e∈List.set (List.set l i.toNat (rd l j)) j.toNat (rd l i)↔e∈l:=by
 rw[Ko,Ko];have h: ∀c:Int,0<=c->rd (List.set (List.set l i.toNat (rd l j)) j.toNat (rd l i)) c=if c=j then rd l i else if c=i then rd l j else rd l c:=by
  intro c c0;rw[Ht j0 (by simpa using j1) c0,Ht i0 i1 c0]
 simp only[List.length_set];constructor
 ·rintro⟨c,c0,c1,rfl⟩;rw[h c c0];split
  ·exact⟨i,i0,i1,J⟩
  ·split
   ·exact⟨j,j0,j1,J⟩
   ·exact⟨c,c0,c1,J⟩
 ·rintro⟨c,c0,c1,rfl⟩
  by_cases a:c=i
  ·exact⟨j,j0,j1,by rw[h j j0,af J,a]⟩
  ·by_cases b:c=j
   ·refine⟨i,i0,i1,?_⟩;rw[h i i0];subst b;rw[ah U,af J]
   ·exact⟨c,c0,c1,by rw[h c c0,ah b,ah a]⟩
def hd (l:List Int) (q:Int):Int:=match l with |[]=>q |c::_=>c
def jl (l:List Int) (p:Int):Int:=match l with |[]=>p |c::r=>jl r c
def oq (s:List br) (p:Int) (l:List Int) (q:Int):Prop:=match l with
 |[]=>True
 |c::r=>(rd s c).cJ=p/\(rd s c).a_=hd r q/\oq s c r q
theorem Pq {s:List br}: ∀(A:List Int) (p:Int) (B:List Int) (q:Int),oq s p (A++B) q↔oq s p A (hd B q)/\oq s (jl A p) B q
 |[],p,B,q=>by simp[oq,jl]
 |c::r,p,B,q=>by
  have e:hd (r++B) q=hd r (hd B q):=by cases r<;>rfl
  simp only[List.cons_append,oq,jl,Pq r c B q,e];exact⟨λ⟨a,b,c,d⟩=>⟨⟨a,b,c⟩,d⟩,λ⟨⟨a,b,c⟩,d⟩=>⟨a,b,c,d⟩⟩
theorem EN {s s':List br}: ∀(A:List Int) (p q:Int),(∀c∈A,(rd s' c).cJ=(rd s c).cJ/\(rd s' c).a_=(rd s c).a_)->oq s p A q->oq s' p A q
 |[],_,_,_,_=>trivial
 |c::r,p,q,h,hs=>by
  have:=h c (List.mem_cons_self ..);exact⟨this.1.trans hs.1,this.2.trans hs.2.1,EN r c q (λd hd=>h d (List.mem_cons_of_mem _ hd)) hs.2.2⟩
theorem GW: ∀(A:List Int) (p:Int),A≠[]->jl A p∈A
 |[],_,h=>absurd J h
 |[c],_,_=>List.mem_cons_self ..
 |c::d::r,p,_=>List.mem_cons_of_mem _ (GW (d::r) c bh)
theorem Ou: ∀(A:List Int) (p:Int) (B:List Int),jl (A++B) p=jl B (jl A p)
 |[],_,_=>rfl
 |c::r,p,B=>by simp only[List.cons_append,jl];exact Ou r c B
theorem WV {s s':List br}: ∀(A:List Int) (p q q':Int),A≠[]->A.Nodup->(∀c∈A,(rd s' c).cJ=(rd s c).cJ/\(c≠jl A p->(rd s' c).a_=(rd s c).a_))->(rd s' (jl A p)).a_=q'->oq s p A q->oq s' p A q'
 |[],_,_,_,h,_,_,_,_=>absurd J h
 |[c],p,q,q',_,_,h,e,hs=>⟨(h c (List.mem_cons_self ..)).1.trans hs.1,e,trivial⟩
 |c::d::r,p,q,q',_,hn,h,e,hs=>by
  have jI:c≠jl (d::r) c:=λz=>(List.nodup_cons.1 hn).1 (z▸GW (d::r) c bh);have:=h c (List.mem_cons_self ..);exact⟨this.1.trans hs.1,(this.2 jI).trans hs.2.1,WV (d::r) c q q' bh (List.nodup_cons.1 hn).2 (λx hx=>h x (List.mem_cons_of_mem _ hx)) e hs.2.2⟩
theorem WU {s s':List br}: ∀(A:List Int) (p p' q:Int),(∀c∈A,(rd s' c).a_=(rd s c).a_/\(c≠hd A q->(rd s' c).cJ=(rd s c).cJ))->A.Nodup->(A≠[]->(rd s' (hd A q)).cJ=p')->oq s p A q->oq s' p' A q
 |[],_,_,_,_,_,_,_=>trivial
 |c::r,p,p',q,h,hn,e,hs=>by
  refine⟨e bh,(h c (List.mem_cons_self ..)).1.trans hs.2.1,EN r c q (λd fp=>?_) hs.2.2⟩;have:=h d (List.mem_cons_of_mem _ fp);exact⟨this.2 λz=>(List.nodup_cons.1 hn).1 (by have z:d=c:=z;rw[<-z];exact fp),this.1⟩
structure pR (l:fT) (k:Int) (ord:List Int):Prop where
 k_:l.k=k
 kb:1<=k/\k<=1000000
 kD:l.ak.length<=k
 nd:ord.Nodup
 mem: ∀c,c∈ord↔0<=c/\c<l.ak.length
 uA:oq l.ak (-1) ord (-1)
 nw:l.cA=hd ord (-1)
 ol:l.di=jl ord (-1)
 sn:(l.eP.map (·.1)).Nodup
 sl: ∀key c,cI l.eP key=some c↔0<=c/\c<l.ak.length/\(rd l.ak c).key=key
structure zY (l:fT) (ord:List Int):Prop where
 nd:ord.Nodup
 mem: ∀c∈ord,0<=c/\c<l.ak.length
 uA:oq l.ak (-1) ord (-1)
 nw:l.cA=hd ord (-1)
 ol:l.di=jl ord (-1)
theorem afI {k:Int} (h1:1<=k) (h2:k<=1000000): ∃l,xp.f k=some (some l)/\pR l k []:=by
 unfold xp.f zg.f;rw[ah U];exact⟨_,J,J,⟨h1,h2⟩,by simp;omega,List.nodup_nil,λc=>by simp,trivial,J,J,List.nodup_nil,λkey c=>by simp[cI];omega⟩
theorem aaF {l:fT} {k:Int} {ord:List Int} (h:pR l k ord): ∃l',zh.f l=some l'/\pR l' k []:=
 ⟨_,J,h.k_,h.kb,by have:=h.kb;simp;omega,List.nodup_nil,λc=>by simp,trivial,J,J,List.nodup_nil,λkey c=>by simp[cI];omega⟩
theorem OJ {A B:List Int} {c:Int} (h:(A++c::B).Nodup):c∉A/\c∉B/\(A++B).Nodup:=by
 rw[List.nodup_append] at h⊢;obtain⟨h1,h2,h3⟩:=h;obtain⟨h4,h5⟩:=List.nodup_cons.1 h2;exact⟨λz=>h3 c z c (List.mem_cons_self ..) J,h4,h1,h5,λa ha b hb=>h3 a ha b (List.mem_cons_of_mem _ hb)⟩
theorem Xt {l:fT} {A B:List Int} {c:Int} (h:zY l (A++c::B)): ∃l',sO.f l c=some l'/\l'.k=l.k/\l'.eP=l.eP/\l'.ak.length=l.ak.length/\(∀d:Int,0<=d->(rd l'.ak d).key=(rd l.ak d).key)/\zY l' (A++B):=by
 obtain⟨n1,n2,n3⟩:=OJ h.nd;have hc:=h.mem c bh;obtain⟨g1,g2,g3,g4⟩:=(Pq A (-1) (c::B) (-1)).1 h.uA;simp only[hd] at g1;obtain⟨nA,nB,Vf⟩:=List.nodup_append.1 n3;have hA:A≠[]->0<=jl A (-1)/\jl A (-1)<l.ak.length:=λz=>h.mem _ (List.mem_append_left _ (GW A _ z));have hB:B≠[]->0<=hd B (-1)/\hd B (-1)<l.ak.length/\hd B (-1)∈B:=λz=>by
  cases B with
  |nil=>exact absurd J z
  |cons d r=>have:=h.mem d bh;exact⟨this.1,this.2,List.mem_cons_self ..⟩
 unfold sO.f;rw[af hc];have s1: ∃S N,(if((rd l.ak c).cJ==(-1))=true then(some (l.ak,(rd l.ak c).a_)) else(if(0<=(rd l.ak c).cJ/\(rd l.ak c).cJ<(List.length l.ak:Int)) then(some ((List.set l.ak (Int.toNat ((rd l.ak c).cJ)) (br.mk ((rd l.ak ((rd l.ak c).cJ)).key) ((rd l.ak ((rd l.ak c).cJ)).cJ) ((rd l.ak c).a_))),l.cA)) else none))=some (S,N)/\S.length=l.ak.length/\(∀d:Int,0<=d->(rd S d).key=(rd l.ak d).key/\(d∉A->rd S d=rd l.ak d))/\oq S (-1) A (hd B (-1))/\N=hd (A++B) (-1):=by
  rw[g2,g3]
  by_cases z:A=[]
  ·subst z;rw[af (by simp[jl])]
   exact⟨_,_,J,J,λd _=>⟨J,λ_=>rfl⟩,trivial,J⟩
  ·have ha:=hA z;have dT: ∀d:Int,0<=d->rd (List.set l.ak (jl A (-1)).toNat (br.mk (rd l.ak (jl A (-1))).key (rd l.ak (jl A (-1))).cJ (hd B (-1)))) d=if d=jl A (-1) then br.mk (rd l.ak (jl A (-1))).key (rd l.ak (jl A (-1))).cJ (hd B (-1)) else rd l.ak d:=λd d0=>ln ha.1 ha.2 d0
   rw[ah bp,af ha];refine⟨_,_,J,by simp,λd d0=>?_,WV A (-1) c _ z nA (λd fp=>?_) ?_ g1,?_⟩
   ·rw[dT d d0];refine⟨?_,λfp=>?_⟩
    ·split
     ·rename_i q;rw[q]
     ·rfl
    ·rw[ah];rintro rfl;exact fp (GW A _ z)
   ·have:=h.mem d (List.mem_append_left _ fp);rw[dT d this.1];refine⟨?_,λq=>by rw[ah q]⟩
    split
    ·rename_i q;rw[q]
    ·rfl
   ·rw[dT _ ha.1,af J]
   ·rw[h.nw];cases A with
    |nil=>exact absurd J z
    |cons a A=>rfl
 obtain⟨S,N,e,yK,DX,Sz,hN⟩:=s1;rw[e];simp only[aK];have hSB:oq S c B (-1):=EN B c (-1) (λd fp=>by
  have:=h.mem d (List.mem_append_right _ (List.mem_cons_of_mem _ fp));rw[(DX d this.1).2 λq=>Vf d q d fp J];exact⟨J,J⟩) g4
 rw[g2,g3]
 by_cases z:B=[]
 ·subst z;rw[af (by simp[hd])]
  refine⟨_,J,J,J,yK,λd d0=>(DX d d0).1,n3,λd fp=>?_,?_,hN,?_⟩
  ·rw[yK];exact h.mem d (by simp at fp;simp[fp])
  ·rw[List.append_nil];exact Sz
  ·rw[List.append_nil]
 ·have hb:=hB z;have dT: ∀d:Int,0<=d->rd (List.set S (hd B (-1)).toNat (br.mk (rd S (hd B (-1))).key (jl A (-1)) (rd S (hd B (-1))).a_)) d=if d=hd B (-1) then br.mk (rd S (hd B (-1))).key (jl A (-1)) (rd S (hd B (-1))).a_ else rd S d:=λd d0=>ln hb.1 (by rw[yK];exact hb.2.1) d0
  rw[ah bp,af (by rw[yK];exact⟨hb.1,hb.2.1⟩)]
  refine⟨_,J,J,J,by simpa using yK,λd d0=>?_,n3,λd fp=>?_,?_,hN,?_⟩
  ·rw[<-(DX d d0).1];simp only;rw[dT d d0];split
   ·rename_i q;rw[q]
   ·rfl
  ·simp only[List.length_set];rw[yK];refine h.mem d ?_;rcases List.mem_append.1 fp with q |q
   ·exact List.mem_append_left _ q
   ·exact List.mem_append_right _ (List.mem_cons_of_mem _ q)
  ·refine(Pq A (-1) B (-1)).2 ⟨EN A (-1) _ (λd fp=>?_) Sz,WU B c (jl A (-1)) (-1) (λd fp=>?_) nB (λ_=>?_) hSB⟩
   ·have:=h.mem d (List.mem_append_left _ fp);rw[dT d this.1,ah (λq=>Vf d fp (hd B (-1)) hb.2.2 q)];exact⟨J,J⟩
   ·have:=h.mem d (List.mem_append_right _ (List.mem_cons_of_mem _ fp));rw[dT d this.1];refine⟨?_,λq=>by rw[ah q]⟩
    split
    ·rename_i q;rw[q]
    ·rfl
   ·rw[dT _ hb.1,af J]
  ·simp only;rw[h.ol,Ou,Ou]
   cases B with
   |nil=>exact absurd J z
   |cons d r=>rfl
theorem Om {l:fT} {ord:List Int} {c:Int} (h:zY l ord) (h0:0<=c) (h1:c<l.ak.length) (hc:c∉ord): ∃l',xo.f l c=some l'/\l'.k=l.k/\l'.eP=l.eP/\l'.ak.length=l.ak.length/\(∀d:Int,0<=d->(rd l'.ak d).key=(rd l.ak d).key)/\zY l' (c::ord):=by
 unfold xo.f;generalize yK:List.set l.ak (Int.toNat c) (br.mk ((rd l.ak c).key) (-1) ((rd l.ak c).a_))=S1;have yS:S1.length=l.ak.length:=by rw[<-yK];simp
 have r1: ∀d:Int,0<=d->rd S1 d=if d=c then br.mk ((rd l.ak c).key) (-1) ((rd l.ak c).a_) else rd l.ak d:=λd d0=>by rw[<-yK];exact ln h0 h1 d0
 generalize DX:List.set S1 (Int.toNat c) (br.mk ((rd S1 c).key) ((rd S1 c).cJ) l.cA)=S2;have qF:S2.length=l.ak.length:=by rw[<-DX];simpa using yS
 have r2: ∀d:Int,0<=d->rd S2 d=if d=c then br.mk ((rd l.ak c).key) (-1) l.cA else rd l.ak d:=λd d0=>by
  rw[<-DX,ln h0 U d0,r1 c h0,af J];split
  ·rfl
  ·rename_i q;rw[r1 d d0,ah q]
 rw[af ⟨h0,h1⟩,af ⟨h0,by omega⟩]
 have AE: ∀d:Int,0<=d->(rd S2 d).key=(rd l.ak d).key:=λd d0=>by
  rw[r2 d d0];split
  ·rename_i q;rw[q]
  ·rfl
 have pw:(c::ord).Nodup:=List.nodup_cons.2 ⟨hc,h.nd⟩
 by_cases z:ord=[]
 ·subst z;have hn:l.cA= -1:=h.nw;rw[af (by simp[hn])]
  refine⟨_,J,J,J,qF,AE,pw,λd fp=>?_,⟨?_,?_,trivial⟩,J,J⟩
  ·simp only[List.mem_cons,List.not_mem_nil,or_false] at fp;subst fp;simp only;omega
  ·simp only;rw[r2 c h0,af J]
  ·simp only;rw[r2 c h0,af J,hn];rfl
 ·obtain⟨a,r,e⟩:=List.exists_cons_of_ne_nil z;have hn:l.cA=a:=by rw[h.nw,e];rfl
  have ha:=h.mem a (by rw[e];exact List.mem_cons_self ..)
  have M3:a≠c:=λq=>hc (by rw[e,<-q];exact List.mem_cons_self ..)
  rw[hn] at r2⊢;rw[ah bp,af (by rw[qF];exact ha)]
  have r3: ∀d:Int,0<=d->rd (List.set S2 a.toNat (br.mk (rd S2 a).key c (rd S2 a).a_)) d=if d=a then br.mk (rd S2 a).key c (rd S2 a).a_ else rd S2 d:=λd d0=>ln ha.1 (by rw[qF];exact ha.2) d0
  refine⟨_,J,J,J,by simpa using qF,λd d0=>?_,pw,λd fp=>?_,⟨?_,?_,?_⟩,J,?_⟩
  ·rw[<-AE d d0];simp only;rw[r3 d d0];split
   ·rename_i q;rw[q]
   ·rfl
  ·simp only[List.length_set];rw[qF];rcases List.mem_cons.1 fp with rfl |q
   ·exact⟨h0,h1⟩
   ·exact h.mem d q
  ·simp only;rw[r3 c h0,ah M3.symm,r2 c h0,af J]
  ·simp only;rw[r3 c h0,ah M3.symm,r2 c h0,af J,e];rfl
  ·refine WU ord (-1) c (-1) (λd fp=>?_) h.nd (λ_=>?_) h.uA
   ·have:=h.mem d fp;have JN:d≠c:=λq=>hc (q▸fp);rw[r3 d this.1];refine⟨?_,λq=>?_⟩
    ·split
     ·rename_i q;rw[q,r2 a ha.1,ah M3]
     ·rw[r2 d this.1,ah JN]
    ·rw[e] at q;simp only[hd] at q;rw[ah q,r2 d this.1,ah JN]
   ·rw[e];simp only[hd];rw[r3 a ha.1,af J]
  ·simp only;rw[h.ol,e];rfl
theorem pR.U8 {l:fT} {k:Int} {ord:List Int} (h:pR l k ord):zY l ord:=⟨h.nd,λc hc=>(h.mem c).1 hc,h.uA,h.nw,h.ol⟩
theorem ajl {l:fT} {k:Int} {ord:List Int} (h:pR l k ord) (a b:Int):Ok (xn.f l a b) (λr=> ∃A B,pR r.2.2.2 k (r.1::(A++B))/\
 ((r.2.1=true/\r.2.2.1=false/\cI l.eP (a,b)=some r.1/\ord=A++r.1::B/\r.2.2.2.ak.length=l.ak.length/\ ∀d:Int,0<=d->(rd r.2.2.2.ak d).key=(rd l.ak d).key)∨
  (r.2.1=false/\r.2.2.1=false/\cI l.eP (a,b)=none/\ord=A++B/\r.1=l.ak.length/\r.2.2.2.ak.length=l.ak.length+1/\(∀d:Int,0<=d->d<l.ak.length->(rd r.2.2.2.ak d).key=(rd l.ak d).key)/\(rd r.2.2.2.ak r.1).key=(a,b))∨
  (r.2.1=false/\r.2.2.1=true/\cI l.eP (a,b)=none/\ord=A++r.1::B/\B=[]/\(l.ak.length:Int)=k/\r.2.2.2.ak.length=l.ak.length/\(∀d:Int,0<=d->d≠r.1->(rd r.2.2.2.ak d).key=(rd l.ak d).key)/\(rd r.2.2.2.ak r.1).key=(a,b)))):=by
 have JQ:=h.kb;have Cc:=h.kD;unfold xn.f
 cases hg:cI l.eP (a,b) with
 |some c=>
  have hm:bO l.eP (a,b)=true:=by unfold bO;rw[hg];rfl
  have hv:aQ l.eP (a,b)=c:=by unfold aQ;rw[hg];rfl
  obtain⟨c0,c1,c2⟩:=(h.sl (a,b) c).1 hg;obtain⟨A,B,Jw⟩:=List.append_of_mem ((h.mem c).2 ⟨c0,c1⟩);obtain⟨l1,e1,k1,HO,n1,Kj,uj⟩:=Xt (A:=A) (B:=B) (c:=c) (Jw▸h.U8);rw[hm,hv,af J,e1];simp only[aK];have pw:=h.nd;rw[Jw] at pw;obtain⟨nA,nB,_⟩:=OJ pw;have GR:zY ⟨l1.k,l1.ak,cE l1.eP (a,b) c,l1.cA,l1.di⟩ (A++B):=⟨uj.nd,uj.mem,uj.uA,uj.nw,uj.ol⟩;obtain⟨l2,e2,k2,wg,n2,pA,rN⟩:=Om (c:=c) GR c0 (by simp only;omega) (by simp[nA,nB])
  rw[e2];simp only at k2 wg n2 pA;have j_: ∀d:Int,0<=d->(rd l2.ak d).key=(rd l.ak d).key:=λd d0=>(pA d d0).trans (Kj d d0);refine Ok.pure ⟨A,B,⟨by simp only;rw[k2,k1];exact h.k_,JQ,by simp only;omega,rN.nd,λd=>?_,rN.uA,rN.nw,rN.ol,?_,λkey d=>?_⟩,.inl ⟨J,J,J,Jw,by simp only;omega,j_⟩⟩
  ·have:=h.mem d;rw[Jw] at this;simp only[n2,n1,List.mem_cons,List.mem_append] at this⊢;rw[<-this];constructor
   ·rintro(q |q |q)
    ·exact .inr (.inl q)
    ·exact .inl q
    ·exact .inr (.inr q)
   ·rintro(q |q |q)
    ·exact .inr (.inl q)
    ·exact .inl q
    ·exact .inr (.inr q)
  ·simp only;rw[wg,HO];exact CC h.sn _ _
  ·simp only;rw[wg,HO,AX,n2,n1]
   by_cases q:(a,b)=key
   ·rw[af q,<-q];constructor
    ·intro w;simp only[Option.some.injEq] at w;subst w;exact⟨c0,c1,by rw[j_ c c0];exact c2⟩
    ·rintro⟨w0,w1,w2⟩;rw[j_ d w0] at w2;rw[<-hg];exact(h.sl _ _).2 ⟨w0,w1,w2⟩
   ·rw[ah q,h.sl key d];exact⟨λ⟨w0,w1,w2⟩=>⟨w0,w1,by rw[j_ d w0];exact w2⟩,λ⟨w0,w1,w2⟩=>⟨w0,w1,by rw[j_ d w0] at w2;exact w2⟩⟩
 |none=>
  have hm:bO l.eP (a,b)=false:=by unfold bO;rw[hg];rfl
  have gL: ∀d:Int,0<=d->d<l.ak.length->(rd l.ak d).key≠(a,b):=λd d0 d1 e=>by
   have:=(h.sl (a,b) d).2 ⟨d0,d1,e⟩;rw[hg] at this;simp at this
  rw[hm,ah bh]
  by_cases aR:(l.ak.length:Int)<l.k
  ·rw[h.k_] at aR;rw[h.k_,af aR,af U];simp only[aK];have Gw: ∀d:Int,0<=d->d<l.ak.length->rd (l.ak++[br.mk (a,b) 0 0]) d=rd l.ak d:=λd d0 d1=>zq d0 d1
   have Eg:rd (l.ak++[br.mk (a,b) 0 0]) (l.ak.length:Int)=br.mk (a,b) 0 0:=by rw[OZ U (Int.le_refl _),af J]
   have GR:zY ⟨k,l.ak++[br.mk (a,b) 0 0],cE l.eP (a,b) (l.ak.length:Int),l.cA,l.di⟩ ord:=
    ⟨h.nd,λc hc=>by have:=(h.mem c).1 hc;simp;omega,EN ord _ _ (λc hc=>by have:=(h.mem c).1 hc;simp only;rw[Gw c this.1 this.2];exact⟨J,J⟩) h.uA,h.nw,h.ol⟩
   have jI:(l.ak.length:Int)∉ord:=λz=>by have:=(h.mem _).1 z;omega
   obtain⟨l2,e2,k2,wg,n2,pA,rN⟩:=Om (c:=(l.ak.length:Int)) GR U bp jI;rw[e2];simp only[List.length_append,List.length_cons,List.length_nil] at k2 wg n2 pA;refine Ok.pure ⟨[],ord,⟨k2,JQ,by simp only;omega,rN.nd,λd=>?_,rN.uA,rN.nw,rN.ol,?_,λkey d=>?_⟩,.inr (.inl ⟨J,J,by first |rfl |trivial,J,J,by simp only;omega,λd d0 d1=>?_,?_⟩)⟩
   ·simp only[List.nil_append,List.mem_cons,n2];rw[h.mem d];omega
   ·simp only;rw[wg];exact CC h.sn _ _
   ·simp only;rw[wg,AX,n2]
    by_cases q:(a,b)=key
    ·rw[af q,<-q];constructor
     ·intro w;simp only[Option.some.injEq] at w;subst w;exact⟨by omega,by omega,by rw[pA _ U,Eg]⟩
     ·rintro⟨w0,w1,w2⟩
      by_cases y:d=l.ak.length
      ·rw[y]
      ·rw[pA d w0,Gw d w0 U] at w2;exact absurd w2 (gL d w0 U)
    ·rw[ah q,h.sl key d];constructor
     ·rintro⟨w0,w1,w2⟩;exact⟨w0,by omega,by rw[pA d w0,Gw d w0 w1];exact w2⟩
     ·rintro⟨w0,w1,w2⟩
      by_cases y:d=l.ak.length
      ·rw[y,pA _ U,Eg] at w2;exact absurd w2 q
      ·rw[pA d w0,Gw d w0 U] at w2;exact⟨w0,by omega,w2⟩
   ·simp only;rw[pA d d0,Gw d d0 d1]
   ·simp only;rw[pA _ U,Eg]
  ·rw[h.k_] at aR;rw[h.k_,ah aR];have bI:ord≠[]:=λz=>by have:=(h.mem 0).2 U;rw[z] at this;simp at this
   have hlm:=GW ord (-1) bI;have rL:=(h.mem _).1 hlm;obtain⟨A,hA⟩: ∃A,ord=A++jl ord (-1)::[]:=by
    refine⟨ord.dropLast,?_⟩;have:jl ord (-1)=ord.getLast bI:=by
     have: ∀(L:List Int) (p:Int) (hL:L≠[]),jl L p=L.getLast hL:=by
      intro L
      induction L with
      |nil=>intro p hL;exact absurd J hL
      |cons c r ih=>
       intro p hL
       cases r with
       |nil=>rfl
       |cons d r=>rw[List.getLast_cons bh];exact ih c bh
     exact this ord (-1) bI
    rw[this,List.dropLast_concat_getLast]
   rw[<-h.ol] at hA rL;generalize hc:l.di=c at*;obtain⟨l1,e1,k1,HO,n1,Kj,uj⟩:=Xt (A:=A) (B:=[]) (c:=c) (hA▸h.U8);rw[e1];simp only[aK];rw[af U];simp only[aK];have hck:((rd l1.ak c).key.1,(rd l1.ak c).key.2)=(rd l.ak c).key:=by rw[Kj c rL.1]
   rw[hck];have hr: ∀d:Int,0<=d->rd (List.set l1.ak c.toNat (br.mk (a,b) (rd l1.ak c).cJ (rd l1.ak c).a_)) d=if d=c then br.mk (a,b) (rd l1.ak c).cJ (rd l1.ak c).a_ else rd l1.ak d:=λd d0=>ln rL.1 U d0
   have pw:=h.nd;rw[hA] at pw;obtain⟨nA,nB,_⟩:=OJ pw;have GR:zY ⟨l1.k,List.set l1.ak c.toNat (br.mk (a,b) (rd l1.ak c).cJ (rd l1.ak c).a_),cE (dU l1.eP (rd l.ak c).key) (a,b) c,l1.cA,l1.di⟩ (A++[]):=
    ⟨uj.nd,λd fp=>by simp only[List.length_set];exact uj.mem d fp,EN _ _ _ (λd fp=>by
      have:=uj.mem d fp;simp only;rw[hr d this.1,ah (λq=>nA (by rw[<-q];simpa using fp))];exact⟨J,J⟩) uj.uA,uj.nw,uj.ol⟩
   obtain⟨l2,e2,k2,wg,n2,pA,rN⟩:=Om (c:=c) GR rL.1 bp (by simpa using nA)
   rw[e2];simp only[List.length_set] at k2 wg n2 pA;have j_: ∀d:Int,0<=d->d≠c->(rd l2.ak d).key=(rd l.ak d).key:=λd d0 JN=>by rw[pA d d0,hr d d0,ah JN,Kj d d0]
   have JR:(rd l2.ak c).key=(a,b):=by rw[pA c rL.1,hr c rL.1,af J]
   refine Ok.pure ⟨A,[],⟨by simp only;rw[k2,k1];exact h.k_,JQ,by simp only;omega,rN.nd,λd=>?_,rN.uA,rN.nw,rN.ol,?_,λkey d=>?_⟩,.inr (.inr ⟨J,J,by first |rfl |trivial,hA,J,by omega,by simp only;omega,j_,JR⟩)⟩
   ·have:=h.mem d;rw[hA] at this;simp only[n2,n1,List.mem_cons,List.mem_append,List.not_mem_nil,or_false] at this⊢;rw[<-this];exact or_comm
   ·simp only;rw[wg,HO];exact CC (Kn h.sn _) _ _
   ·simp only;rw[wg,HO,AX,Kq h.sn,n2,n1]
    by_cases q:(a,b)=key
    ·rw[af q,<-q];constructor
     ·intro w;simp only[Option.some.injEq] at w;subst w;exact⟨rL.1,rL.2,JR⟩
     ·rintro⟨w0,w1,w2⟩
      by_cases y:d=c
      ·rw[y]
      ·rw[j_ d w0 y] at w2;exact absurd w2 (gL d w0 w1)
    ·rw[ah q]
     by_cases y:(rd l.ak c).key=key
     ·rw[af y];constructor
      ·intro w;simp at w
      ·rintro⟨w0,w1,w2⟩
       by_cases x:d=c
       ·rw[x,JR] at w2;exact absurd w2 q
       ·rw[j_ d w0 x] at w2;have a1:=(h.sl key d).2 ⟨w0,w1,w2⟩;have a2:=(h.sl key c).2 ⟨rL.1,rL.2,y⟩;rw[a1] at a2;simp only[Option.some.injEq] at a2;exact absurd a2 x
     ·rw[ah y,h.sl key d];constructor
      ·rintro⟨w0,w1,w2⟩;have x:d≠c:=λx=>y (by rw[<-x];exact w2)
       exact⟨w0,w1,by rw[j_ d w0 x];exact w2⟩
      ·rintro⟨w0,w1,w2⟩;have x:d≠c:=λx=>q (by rw[x,JR] at w2;exact w2)
       exact⟨w0,w1,by rw[j_ d w0 x] at w2;exact w2⟩
theorem agK {n:Nat} {ord:List Int} (hn:ord.Nodup) (hm: ∀c,c∈ord↔0<=c/\c<n):ord.length=n:=by
 have hp:ord.Perm ((List.range n).map Int.ofNat):=by
  refine(List.perm_ext_iff_of_nodup hn ?_).2 λc=>?_
  ·exact(List.nodup_range).map _ λa b vk e=>vk (Int.ofNat.inj e)
  ·rw[hm c];simp only[List.mem_map,List.mem_range];exact⟨λ⟨a,b⟩=>⟨c.toNat,by omega,by simp;omega⟩,λ⟨a,b,e⟩=>by subst e;simp;omega⟩
 have:=hp.length_eq;simpa using this
def sm (t:aM):Prop:=1<=t.W/\t.W<=16/\1<=t.H/\t.H<=16/\(t.C.length:Int)=t.W*t.H/\0∉t.C
instance (t:aM):Decidable (sm t):=by unfold sm;infer_instance
theorem oK {t:aM} (h:sm t):1<=t.C.length/\t.C.length<=256:=by
 obtain⟨a,b,c,d,e,_⟩:=h;have h1:t.W*t.H<=16*16:=kJ U U b d;have h2:1*1<=t.W*t.H:=kJ U U a c;omega
theorem K5 (t:aM) (hb:t.C.length<4611686018427387904):tF.f t=some (decide (sm t)):=by
 unfold tF.f Bl.f;simp only[aK]
 by_cases hw:1<=t.W/\t.W<=16
 ·by_cases hh:1<=t.H/\t.H<=16
  ·have h1:t.W*t.H<=16*16:=kJ U U hw.2 hh.2;have h2:0<=t.W*t.H:=nQ U U;rw[af bp,af bp,bo U U,Mj _ _ hb]
   by_cases hl:(t.C.length:Int)=t.W*t.H
   ·rw[af (by simpa using hl)]
    simp only[aK]
    congr 1
    rw[Bool.eq_iff_iff];simp[sm,hw,hh,hl]
   ·rw[ah (by simpa using hl),decide_eq_false (λq=>hl q.2.2.2.2.1)];rfl
  ·rw[af bp,ah bp,decide_eq_false (λq=>hh ⟨q.2.2.1,q.2.2.2.1⟩)];rfl
 ·rw[ah bp,decide_eq_false (λq=>hw ⟨q.1,q.2.1⟩)];rfl
def lW (t:aM):Prop:=sm t/\ ∀c:Int,0<=c->c<t.C.length->1<=rd t.C c/\rd t.C c<=255
theorem ai9 {t:aM} (h:lW t) (c:Int):Bk.f t c=some (if 0<=c/\c<t.C.length then rd t.C c else 0):=by
 have hl:=oK h.1;unfold Bk.f EV.f;rw[K5 _ U,decide_eq_true h.1]
 by_cases a:0<=c
 ·by_cases b:c<t.C.length
  ·have:=h.2 c a b;rw[af a,af b,af ⟨a,b⟩];simp only[aK,Bool.not_true,Bool.false_eq_true,if_false];rw[af ⟨a,b⟩,wi U U]
  ·simp only[af a,ah b,ah (show ¬(0<=c/\c<t.C.length) from λq=>b q.2)];rfl
 ·simp only[ge_iff_le,ah a,ah (show ¬(0<=c/\c<t.C.length) from λq=>a q.1)];rfl
def gf (w h c side:Int):Int:=if cC w h c side<0∨aX w h (cC w h c side)=aX w h c then-1 else cC w h c side
theorem VC (w h c side:Int):yA.f w h c side=some (gf w h c side):=by
 unfold yA.f gf;rw[HU,aK]
 by_cases h1:cC w h c side<0
 ·rw[af h1,af (Or.inl h1)];rfl
 ·rw[ah h1,tr,aK,tr,aK]
  by_cases h2:aX w h (cC w h c side)=aX w h c
  ·rw[af (Or.inr h2),h2];simp
  ·rw[ah (c:=_∨_) (λq=>q.elim h1 h2)];simp[h2]
theorem agO {w h c side:Int} (hn: ¬(0<=side/\side<=3)):gf w h c side= -1:=by
 unfold gf
 by_cases hc:bV w h c
 ·by_cases h4:side=4
  ·subst h4;rw[aiX hc,af (Or.inr rfl)]
  ·have:cC w h c side= -1:=by unfold cC;rw[ah U]
   rw[this,af (Or.inl U)]
 ·have:cC w h c side= -1:=by unfold cC;rw[ah (λq=>hc q.1)]
  rw[this,af (Or.inl U)]
theorem VB {w h c side:Int} (h0:0<=gf w h c side):bV w h c/\0<=side/\side<=3/\bV w h (gf w h c side)/\gf w h c side=cC w h c side/\aX w h (gf w h c side)≠aX w h c:=by
 have Ck:0<=side/\side<=3:=by
  by_cases hs:0<=side/\side<=3
  ·exact hs
  ·rw[agO hs] at h0;omega
 by_cases hq:cC w h c side<0∨aX w h (cC w h c side)=aX w h c
 ·unfold gf at h0;rw[af hq] at h0;omega
 ·have e:gf w h c side=cC w h c side:=by unfold gf;rw[ah hq]
  have hc:bV w h c:=by
   by_cases hc:bV w h c
   ·exact hc
   ·have:cC w h c side= -1:=by unfold cC;rw[ah (λq=>hc q.1)]
    omega
  rcases K4 hc Ck.1 (by omega:side<=4) with⟨h1,_⟩ |⟨h1,_⟩
  ·omega
  ·exact⟨hc,Ck.1,Ck.2,e▸h1,e,λq=>hq (.inr (e▸q))⟩
theorem MM {w h s l:Int} (hs:bK w h s) (h0:0<=l) (h1:l<(ax w h s).1*(ax w h s).2):
 bV w h (db w h s l)/\db w h s l%w=16*(s%(bt w h).1)+l%(ax w h s).1/\db w h s l/w=16*(s/(bt w h).1)+l/(ax w h s).1:=by
 obtain⟨a1,a2,a3,a4,a5,a6⟩:=w6 hs h0 h1;have hp:=uz hs;have e:db w h s l=(16*(s/(bt w h).1)+l/(ax w h s).1)*w+(16*(s%(bt w h).1)+l%(ax w h s).1):=by unfold db;rw[af ⟨hs,h0,h1⟩]
 have:=sB (h:=h) (x:=16*(s%(bt w h).1)+l%(ax w h s).1) (y:=16*(s/(bt w h).1)+l/(ax w h s).1) U a5 U a6;rw[e];exact⟨⟨tq hs,this⟩,qM U a5⟩
theorem aiA {w h s:Int} (hs:bK w h s):(ax w h s).1=min 16 (w-16*(s%(bt w h).1))/\(ax w h s).2=min 16 (h-16*(s/(bt w h).1)):=by
 unfold ax;rw[af hs];exact⟨J,J⟩
theorem KW {w h s l:Int} (hs:bK w h s) (h0:0<=l) (h1:l<(ax w h s).1*(ax w h s).2):aX w h (db w h s l)=s:=by
 obtain⟨hc,e1,e2⟩:=MM hs h0 h1;obtain⟨a1,a2,a3,a4,a5,a6⟩:=w6 hs h0 h1;obtain⟨z1,z2,z3,z4⟩:=qn hs;unfold aX;rw[af hc,e1,e2];have q1:(16*(s/(bt w h).1)+l/(ax w h s).1)/16=s/(bt w h).1:=U;have q2:(16*(s%(bt w h).1)+l%(ax w h s).1)/16=s%(bt w h).1:=U;rw[q1,q2];have:=Int.mul_ediv_add_emod s (bt w h).1;rw[Int.mul_comm] at this;exact this
def A' (w h s side:Int):Prop:=if side=0 then 1<=s/(bt w h).1 else if side=1 then s%(bt w h).1+1<(bt w h).1 else if side=2 then s/(bt w h).1+1<(bt w h).2 else 1<=s%(bt w h).1
def ux (tw th l side:Int):Prop:=if side=0 then l/tw=0 else if side=1 then l%tw=tw-1 else if side=2 then l/tw=th-1 else l%tw=0
instance (w h s side:Int):Decidable (A' w h s side):=by unfold A';infer_instance
instance (tw th l side:Int):Decidable (ux tw th l side):=by unfold ux;infer_instance
theorem KD {w h s l side:Int} (hs:bK w h s) (h0:0<=l) (h1:l<(ax w h s).1*(ax w h s).2) (s0:0<=side) (s3:side<=3):
 0<=gf w h (db w h s l) side↔A' w h s side/\ux (ax w h s).1 (ax w h s).2 l side:=by
 obtain⟨hc,e1,e2⟩:=MM hs h0 h1;obtain⟨a1,a2,a3,a4,a5,a6⟩:=w6 hs h0 h1;obtain⟨z1,z2,z3,z4⟩:=qn hs;obtain⟨y1,y2⟩:=aiA hs;obtain⟨p1,p2,p3,p4⟩:=uz hs;have yV:=KW hs h0 h1;have hm:=tq hs;have eS:(bt w h).1=(w+15)/16/\(bt w h).2=(h+15)/16:=by unfold bt;rw[af hm];exact⟨J,J⟩
 have GB:side=0∨side=1∨side=2∨side=3:=U;rcases K4 hc s0 (by omega:side<=4) with⟨b1,b2⟩ |⟨b1,b2,b3,b4,b5,b6,b7⟩
 ·have:gf w h (db w h s l) side= -1:=by unfold gf;rw[b1,af (Or.inl U)]
  rw[this];refine⟨λq=>by omega,λq=>?_⟩
  exfalso;apply b2;rw[e1,e2];obtain⟨q1,q2⟩:=q;unfold A' at q1;unfold ux at q2;unfold dX dY;rcases GB with rfl |rfl |rfl |rfl<;>simp at q1 q2⊢ <;>omega
 ·have b8: ¬cC w h (db w h s l) side<0:=by have:=b1.2;omega
  have key:aX w h (cC w h (db w h s l) side)=s↔(16*(s/(bt w h).1)+l/(ax w h s).1+dY side)/16=s/(bt w h).1/\(16*(s%(bt w h).1)+l%(ax w h s).1+dX side)/16=s%(bt w h).1:=by
   have ue:=EK b1;have yT:=qM (a:=(bt w h).1) (y:=cC w h (db w h s l) side/w/16) ue.1 ue.2.1;have e:aX w h (cC w h (db w h s l) side)=cC w h (db w h s l) side/w/16*(bt w h).1+cC w h (db w h s l) side%w/16:=by unfold aX;rw[af b1]
   rw[<-e,b2,b3,e1,e2] at yT;constructor
   ·intro q;rw[q] at yT;exact⟨yT.2.symm,yT.1.symm⟩
   ·rintro⟨q1,q2⟩;rw[e,b2,b3,e1,e2,q1,q2];have:=Int.mul_ediv_add_emod s (bt w h).1;rw[Int.mul_comm] at this;exact this
  rw[e1] at b4 b5;rw[e2] at b6 b7;unfold gf;rw[yV]
  by_cases hq:aX w h (cC w h (db w h s l) side)=s
  ·rw[af (Or.inr hq)];obtain⟨k1,k2⟩:=key.mp hq;refine⟨λq=>by omega,λq=>?_⟩
   exfalso;obtain⟨q1,q2⟩:=q;unfold A' at q1;unfold ux at q2;unfold dX at k2;unfold dY at k1;rcases GB with rfl |rfl |rfl |rfl<;>simp at q1 q2 k1 k2<;>omega
  ·rw[ah (c:=_∨_) (λq=>q.elim b8 hq)];refine⟨λ_=>?_,λ_=>by omega⟩
   rw[key] at hq;unfold A' ux;unfold dX at hq b4 b5;unfold dY at hq b6 b7;rcases GB with rfl |rfl |rfl |rfl<;>simp at hq b4 b5 b6 b7⊢ <;>omega
instance :DecidableEq ba:=λa b=>decidable_of_iff (a.Cell=b.Cell/\a.cL=b.cL/\a.Key=b.Key) (by obtain⟨a1,a2,a3⟩:=a;obtain⟨b1,b2,b3⟩:=b;simp)
theorem Po (a b:ba):((a.Cell==b.Cell)&&((a.cL==b.cL)&&((a.Key==b.Key)&&true)))=decide (a=b):=by
 obtain⟨a1,a2,a3⟩:=a;obtain⟨b1,b2,b3⟩:=b;rw[Bool.eq_iff_iff];simp
theorem aaN {R:ba->ba->Prop} (s:List ba) (hs:s.Pairwise R) (hb:s.length<=1000000) {x2:Int} (h2:1<=x2/\x2<s.length): ∀(n k:Nat) (x:List ba) (x8 x9:Int),(s.length-x2-x9).toNat<=n->n<k->x.length=s.length->
 1<=x8->x8<=x2+x9-1->1<=x9->x2+x9<=s.length->(∀c:Int,x2+x9-1<=c->c<s.length->rd x c=rd s c)->
 (∀i j:Int,0<=i->i<j->j<x8->R (rd x i) (rd x j))->(∀i c:Int,0<=i->i<x8->x2+x9<=c->c<s.length->R (rd x i) (rd s c))->
 (∀i:Int,0<=i->i<x8->rd x i∈s)->(∀c:Int,0<=c->c<x2+x9-> ∃i:Int,0<=i/\i<x8/\rd x i=rd s c)->
 Ok (jN.l1 k s x2 x x8 x9) (λr=>r.length<=s.length/\(∀e,e∈r↔e∈s)/\r.Pairwise R):=by
 intro n
 induction n with
 |zero=>
  intro k x x8 x9 hn hk hx h8 Sm h9 hle hc hR F5 ck Ee;obtain⟨k,rfl⟩:=bq hk;have yW:((aB x x2 (s.length:Int)).length:Int)=s.length-x2:=by rw[iP U];omega
  rw[jN.l1,yW,ah U,af U];have e:(cg x (Int.toNat x8) (List.length (aB x x8 (List.length x:Int))) (List.replicate (List.length (aB x x8 (List.length x:Int))) (default:ba)))=x.take x8.toNat++List.replicate (x.length-x8.toNat) default:=by
   unfold cg;rw[iP U,List.drop_of_length_le U];simp
  rw[e];have e2:aB (x.take x8.toNat++List.replicate (x.length-x8.toNat) (default:ba)) 0 x8=x.take x8.toNat:=by
   unfold aB;simp only[Int.toNat_zero,List.drop_zero,Nat.sub_zero];rw[List.take_append_of_le_length bp,List.take_take];simp
  have hr: ∀i:Int,0<=i->i<x8->rd (x.take x8.toNat) i=rd x i:=λi i0 i1=>by
   rw[jq (xs:=List.take _ _) bp,List.getElem_take,jq U]
  have hl:(x.take x8.toNat).length=x8.toNat:=by simp;omega
  refine Ok.ct bp ?_;rw[e2];refine Ok.pure ⟨by omega,λy=>⟨λhy=>?_,λhy=>?_⟩,?_⟩
  ·obtain⟨i,i0,i1,rfl⟩:=jT hy;rw[hr i i0 U];exact ck i i0 U
  ·obtain⟨c,c0,c1,rfl⟩:=jT hy;obtain⟨i,i0,i1,q⟩:=Ee c c0 U;rw[<-q,<-hr i i0 i1];exact dZ i0 U
  ·refine O0 λi j i0 ij j1=>?_
   rw[hr i i0 U,hr j U U];exact hR i j i0 ij U
 |succ n ih=>
  intro k x x8 x9 hn hk hx h8 Sm h9 hle hc hR F5 ck Ee
  by_cases D9:x2+x9=s.length
  ·exact ih k x x8 x9 U U hx h8 Sm h9 hle hc hR F5 ck Ee
  obtain⟨k,rfl⟩:=bq hk;have yW:((aB x x2 (s.length:Int)).length:Int)=s.length-x2:=by rw[iP U];omega
  have JZ: ∀i:Int,0<=i->i<s.length-x2->rd (aB x x2 (s.length:Int)) i=rd x (x2+i):=λi i0 i1=>by
   unfold aB;rw[jq (xs:=List.take _ _) bp,List.getElem_take,List.getElem_drop,jq U]
   congr 1;omega
  rw[jN.l1,yW,wi (x:=x9-1) U U];simp only[Po];rw[JZ x9 U U,JZ (x9-1) U U,hc (x2+x9) U U,hc (x2+(x9-1)) U U,wi (x:=x9+1) U U];refine Ok.pos U (Ok.ct U (Ok.ct U (Ok.ite (λq=>Ok.ct U ?_) λq=>?_)))
  ·rw[wi U U];have dT: ∀c:Int,0<=c->rd (List.set x x8.toNat (rd s (x2+x9))) c=if c=x8 then rd s (x2+x9) else rd x c:=λc c0=>ln U U c0
   refine ih k _ (x8+1) (x9+1) U U (by simpa using hx) U U U U (λc c0 c1=>?_) (λi j i0 ij j1=>?_) (λi c i0 i1 c0 c1=>?_) (λi i0 i1=>?_) (λc c0 c1=>?_)
   ·rw[dT c U,ah U];exact hc c U c1
   ·rw[dT i i0,dT j U,ah U];split
    ·exact F5 i _ i0 U U U
    ·exact hR i j i0 ij U
   ·rw[dT i i0];split
    ·exact uv hs U U c1
    ·exact F5 i c i0 U U c1
   ·rw[dT i i0];split
    ·exact dZ U U
    ·exact ck i i0 U
   ·by_cases z:c=x2+x9
    ·exact⟨x8,by omega,by omega,by rw[dT _ U,af J,z]⟩
    ·obtain⟨i,i0,i1,y⟩:=Ee c c0 U;exact⟨i,i0,by omega,by rw[dT i i0,ah U];exact y⟩
  ·have q:rd s (x2+x9)=rd s (x2+(x9-1)):=by simpa using q
   refine ih k x x8 (x9+1) U U hx h8 U U U (λc c0 c1=>hc c U c1) hR (λi c i0 i1 c0 c1=>F5 i c i0 i1 U c1) ck (λc c0 c1=>?_)
   by_cases z:c=x2+x9
   ·rw[z,q];exact Ee _ U U
   ·exact Ee c c0 U
theorem aaM {R:ba->ba->Prop} (s:List ba) (hs:s.Pairwise R) (hb:s.length<=1000000): ∀(n k:Nat) (i:Int),(s.length-i).toNat<=n->n<k->1<=i->
 Ok (jN.l0 k s i) (λr=>r.length<=s.length/\(∀e,e∈r↔e∈s)/\r.Pairwise R):=by
 intro n
 induction n with
 |zero=>
  intro k i hn hk hi;obtain⟨k,rfl⟩:=bq hk;rw[jN.l0,ah U];exact Ok.pure ⟨Nat.le_refl _,λ_=>Iff.rfl,hs⟩
 |succ n ih=>
  intro k i hn hk hi;obtain⟨k,rfl⟩:=bq hk;rw[jN.l0];refine Ok.ite (λhl=>?_) λ_=>Ok.pure ⟨Nat.le_refl _,λ_=>Iff.rfl,hs⟩
  rw[wi (x:=i-1) U U];simp only[Po];refine Ok.ct U (Ok.ct U (Ok.ite (λq=>Ok.ct U ?_) λq=>?_))
  ·have q:rd s i=rd s (i-1):=by simpa using q
   refine aaN s hs hb (x2:=i) U s.length fuel s i 1 U (by rw[cO];omega) J hi U U U (λ_ _ _=>rfl) (λa b a0 ab b1=>uv hs a0 ab U) (λa c a0 a1 c0 c1=>uv hs a0 U c1) (λa a0 a1=>dZ a0 U) (λc c0 c1=>?_)
   by_cases z:c=i
   ·exact⟨i-1,by omega,by omega,by rw[z,q]⟩
   ·exact⟨c,c0,by omega,J⟩
  ·rw[wi U U];exact ih k (i+1) U U U
theorem aaL {R:ba->ba->Prop} (s:List ba) (hs:s.Pairwise R) (hb:s.length<=1000000):Ok (jN.f s) (λr=>r.length<=s.length/\(∀e,e∈r↔e∈s)/\r.Pairwise R):=by
 unfold jN.f;exact Ok.ite (λ_=>Ok.pure ⟨Nat.le_refl _,λ_=>Iff.rfl,hs⟩) λ_=>aaM s hs hb s.length fuel 1 U (by rw[cO];omega) U
def Ak (x y:Int):Int:=if x<y then-1 else if x>y then 1 else 0
theorem aaI (x y:Int):sC.f x y=some (Ak x y):=by
 unfold sC.f cmp_isNaN_int.f Ak;simp only[aK,bne_self_eq_false,Bool.false_eq_true,if_false];split
 ·rfl
 ·split<;>rfl
theorem agJ (a b c:Int):mS.f [a,b,c]=some (if a≠0 then a else if b≠0 then b else c):=by
 unfold mS.f;obtain⟨k,hk⟩: ∃q,fuel=q+1+1+1+1:=⟨fuel-4,by rw[cO]⟩
 have w1:aa (0+1)=1:=rfl;have w2:aa (1+1)=2:=rfl;have w3:aa (2+1)=3:=rfl;have e0:rd [a,b,c] 0=a:=rfl;have e1:rd [a,b,c] 1=b:=rfl;have e2:rd [a,b,c] 2=c:=rfl;have l3:(List.length [a,b,c]:Int)=3:=rfl;rw[hk];simp only[mS.l0,l3,w1,w2,w3,e0,e1,e2]
 by_cases ha:a=0
 ·by_cases hb:b=0
  ·by_cases hc:c=0<;>simp[ha,hb,hc]
  ·simp[ha,hb]
 ·simp[ha]
def uy (a b:ba):Int:=if Ak a.Key b.Key≠0 then Ak a.Key b.Key else if Ak a.Cell b.Cell≠0 then Ak a.Cell b.Cell else Ak a.cL b.cL
theorem agL (a b:ba):pL.f a b=some (uy a b):=by
 unfold pL.f;simp only[aaI,agJ,aK];rfl
def tj (a b:ba):Prop:=a.Key<b.Key∨a.Key=b.Key/\(a.Cell<b.Cell∨a.Cell=b.Cell/\a.cL<b.cL)
theorem K1 (a b:ba):ltOf uy a b=true↔tj a b:=by
 unfold ltOf uy tj Ak;rw[decide_eq_true_iff]
 repeat' split
 all_goals omega
theorem swo:Go.Sort.SWO (ltOf uy):=by
 refine⟨λx=>?_,λx y z h1 h2=>?_,λx y z h1 h2=>?_⟩
 ·rw[<-Bool.not_eq_true,K1];unfold tj;omega
 ·rw[K1] at*;unfold tj at*;omega
 ·rw[<-Bool.not_eq_true,K1] at*;unfold tj at*;omega
theorem Pt (l:List ba) (hb:l.length<=1000000):Ok (nf.f l) (λr=>r.length<=l.length/\(∀e,e∈r↔e∈l)/\r.Pairwise (λa b=> ¬tj b a)):=by
 unfold nf.f rV.f Bd.f;have e:(λa b=>Option.getD (pL.f a b) 0)=uy:=by funext a b;rw[agL];rfl
 have hlen:=HR swo l;obtain⟨⟨p1,p2,p3⟩,hs⟩:=W4 swo l;have hp: ∀x,x∈pO uy l↔x∈l:=λx=>by
  have h1:(pO uy l).toArray.extract 0 l.length=(pO uy l).toArray:=by rw[<-hlen];simp
  have h2:l.toArray.extract 0 l.length=l.toArray:=by simp
  rw[h1,h2] at p3;exact p3.mem_iff
 have hpw:(pO uy l).Pairwise (λa b=> ¬tj b a):=O0 λi j i0 ij j1=>by
  have:=hs i.toNat j.toNat U U U;rw[<-K1];have g: ∀c:Int,0<=c->c<(pO uy l).length->(pO uy l).toArray[c.toNat]! =rd (pO uy l) c:=λc c0 c1=>by
   rw[jq U];simp;rw[List.getElem?_eq_getElem U];rfl
  rw[g i i0 U,g j U U] at this;simp[this]
 refine Ok.eq (af bp) ?_;simp only[List.nil_append,e];refine Ok.eq (af U) ((aaL _ hpw U).bind λr hr=>Ok.pure ⟨by omega,λx=>(hr.2.1 x).trans (hp x),hr.2.2⟩)
def HG (t:aM) (c side:Int):Prop:=side=4∨(0<=side/\side<=3/\ux t.W t.H c side)
def qy (t:aM) (s:ba):Prop:=0<=s.Cell/\s.Cell<t.C.length/\rd t.C s.Cell≠255/\0<=s.Key/\s.Key<=1073741824/\HG t s.Cell s.cL
theorem agM {t:aM} (h:lW t) {c side:Int} (c0:0<=c) (c1:c<t.C.length):Ok (Da.f t c side) (λb=>b=true↔HG t c side):=by
 unfold Da.f HG ux;obtain⟨a,b,d,e,f,_⟩:=h.1;have hl:=oK h.1;have hq:0<=c/t.W/\c/t.W<=c:=⟨Int.ediv_nonneg c0 U,Int.ediv_le_self _ c0⟩;rw[nh c0,qZ c0,wi (x:=c/t.W) U U,wi (x:=t.W-1) U U,wi (x:=t.H-1) U U];refine Ok.ct U (Ok.ct U (Ok.ite (λz=>Ok.pure ?_) λz=>Ok.ite (λz=>Ok.pure ?_) λz=>Ok.ite (λz=>Ok.pure ?_) λz=>Ok.ite (λz=>Ok.pure ?_) λz=>Ok.pure ?_))
 all_goals simp only[beq_iff_eq] at*
 ·subst z;simp
 ·subst z;simp
 ·subst z;simp
 ·subst z;simp
 ·constructor
  ·exact .inl
  ·rintro(q |q)
   ·exact q
   ·omega
theorem afS {t:aM} (h:lW t) (s:ba):Ok (C_.f s t) (λb=>b=true↔ ¬qy t s):=by
 unfold C_.f qy;refine(?_:Ok _ (λb:Bool=>b=true↔ ¬qy t s)).bind λr hr=>Ok.pure hr
 unfold qy;refine Ok.ite (λz=>Ok.pure ?_) λz1=>Ok.ite (λz=>Ok.pure ?_) λz2=>Ok.ct U (Ok.ite (λz=>Ok.pure ?_) λz3=>Ok.ite (λz=>Ok.pure ?_) λz4=>Ok.ite (λz=>Ok.pure ?_) λz5=>?_)
 ·simp;omega
 ·simp;omega
 ·have z:rd t.C s.Cell=255:=by simpa using z
  simp[z]
 ·simp;omega
 ·simp;omega
 ·refine(agM h U U).bind λr hr=>Ok.pure ?_
  have z3:rd t.C s.Cell≠255:=by simpa using z3
  cases r
  ·have: ¬HG t s.Cell s.cL:=λq=>by have:=hr.2 q;simp at this
   simp[this]
  ·have:HG t s.Cell s.cL:=hr.1 J;simp only[Bool.not_true,Bool.false_eq_true,false_iff,Classical.not_not];exact⟨by omega,by omega,z3,by omega,by omega,this⟩
theorem aeP {t:aM} (h:lW t) (l:List ba) (hb:l.length<=1000000): ∀(n k:Nat) (i:Int),(l.length-i).toNat<=n->n<k->0<=i->(∀j:Int,0<=j->j<i->qy t (rd l j))->
 Ok (qT.l0 k l t i) (λr=>0<=r↔ ¬ ∀s∈l,qy t s):=by
 intro n
 induction n with
 |zero=>
  intro k i hn hk hi ha;obtain⟨k,rfl⟩:=bq hk;rw[qT.l0,ah U];refine Ok.pure ⟨λq=>by omega,λq=>absurd (λs hs=>?_) q⟩
  obtain⟨j,j0,j1,rfl⟩:=jT hs;exact ha j j0 U
 |succ n ih=>
  intro k i hn hk hi ha
  by_cases aR:i<l.length
  ·obtain⟨k,rfl⟩:=bq hk;rw[qT.l0];refine Ok.pos aR (Ok.ct ⟨hi,aR⟩ ((afS h (rd l i)).bind λb jH=>Ok.ite (λq=>Ok.pure ⟨λ_ y=>jH.1 q (y _ (dZ hi aR)),λ_=>hi⟩) λq=>?_));rw[wi U U];refine ih k (i+1) U U U (λj j0 j1=>?_)
   by_cases z:j=i
   ·rw[z];exact Classical.byContradiction λy=>q (jH.2 y)
   ·exact ha j j0 U
  ·exact ih k i U U hi ha
theorem W3 {t:aM} (h:lW t) (l:List ba) (hb:l.length<=1000000):Ok (zG.f t l) (λb=>b=true↔ ∀s∈l,qy t s):=by
 have hl:=oK h.1;unfold zG.f ER.f qT.f;rw[K5 _ U,decide_eq_true h.1];refine Ok.eq J (Ok.neg bh (((aeP h l hb l.length fuel 0 U (by rw[cO];omega) U (λj j0 j1=>by omega)).bind λr hr=>Ok.pure (P:=λb=>b=true↔ ¬ ∀s∈l,qy t s) (by simp only[decide_eq_true_iff];exact hr)).bind λr hr=>Ok.pure ?_))
 cases r
 ·simp only[Bool.not_false,true_iff];exact Classical.byContradiction λy=>by have:=hr.2 y;simp at this
 ·simp only[Bool.not_true,Bool.false_eq_true,false_iff];exact hr.1 J
theorem aip (a b:List ba) (hl:a.length=b.length) (hb:a.length<=1000000): ∀(n k:Nat) (i:Int),(a.length-i).toNat<=n->n<k->0<=i->(∀j:Int,0<=j->j<i->rd a j=rd b j)->
 qS.l0 k a b i=some (decide (a=b)):=by
 intro n
 induction n with
 |zero=>
  intro k i hn hk hi ha;obtain⟨k,rfl⟩:=bq hk;rw[qS.l0,ah U,decide_eq_true (zp hl λj j0 j1=>ha j j0 U)]
 |succ n ih=>
  intro k i hn hk hi ha
  by_cases aR:i<a.length
  ·obtain⟨k,rfl⟩:=bq hk;rw[qS.l0,af aR,af ⟨hi,aR⟩,af U,Po]
   by_cases q:rd a i=rd b i
   ·rw[ah (by simp[q]),wi U U]
    refine ih k (i+1) U U U (λj j0 j1=>?_)
    by_cases z:j=i
    ·rw[z];exact q
    ·exact ha j j0 U
   ·rw[af (by simp[q]),decide_eq_false (λy=>q (by rw[y]))]
  ·exact ih k i U U hi ha
theorem aiP (a b:List ba) (hb:a.length<=1000000):Bb.f a b=some (decide (a=b)):=by
 unfold Bb.f qS.f
 by_cases hl:a.length=b.length
 ·rw[ah (by simp[hl]),aip a b hl hb a.length fuel 0 U (by rw[cO];omega) U (λj j0 j1=>by omega)];rfl
 ·rw[af bp,decide_eq_false (λy=>hl (by rw[y]))];rfl
theorem ZW (l:List ba) (c side:Int) (hb:l.length<=1000000): ∀(n k:Nat) (x:Int) (b:Bool) (i:Int),(l.length-i).toNat<=n->n<k->0<=i->
 ∃r,kN.l0 k l c side x b i=some r:=by
 intro n
 induction n with
 |zero=>
  intro k x b i hn hk hi;obtain⟨k,rfl⟩:=bq hk;exact⟨x,by rw[kN.l0,ah U]⟩
 |succ n ih=>
  intro k x b i hn hk hi
  by_cases aR:i<l.length
  ·obtain⟨k,rfl⟩:=bq hk;rw[kN.l0,af aR,af ⟨hi,aR⟩,wi U U];have: ∃q,(if((rd l i).Cell==c)=true then(if((rd l i).cL==side)=true then(if(!b)=true then(some true) else(some (decide ((rd l i).Key<x)))) else(some false)) else(some false))=some q:=by
    repeat' split
    all_goals exact⟨_,J⟩
   obtain⟨q,hq⟩:=this;rw[hq,aK];split
   ·exact ih k _ _ (i+1) U U U
   ·exact ih k _ _ (i+1) U U U
  ·exact ih k x b i U U hi
theorem ZV (l:List ba) (c side:Int) (hb:l.length<=1000000): ∃r,kN.f l c side=some r:=
 ZW l c side hb l.length fuel _ _ 0 U (by rw[cO];omega) U
def kM (b:jW):List Int:=b.items.drop b.gone.toNat
def jP:List jW->Int
 |[]=>0
 |b::l=>(kM b).length+jP l
theorem PG: ∀l,0<=jP l
 |[]=>Int.le_refl _
 |b::l=>by have:=PG l;unfold jP;omega
theorem Xr: ∀(l:List jW) (j:Nat) (b:jW),j<l.length->jP (l.set j b)=jP l-(kM (rd l (j:Int))).length+(kM b).length
 |[],j,b,h=>by simp at h
 |a::l,0,b,_=>by simp[jP,rd];omega
 |a::l,j+1,b,h=>by
  have:=Xr l j b (by simpa using h)
  have e:rd (a::l) ((j+1:Nat):Int)=rd l (j:Int):=by unfold rd;simp
  simp only[List.set_cons_succ,jP];rw[this,e];omega
theorem Xo: ∀(l:List jW) (j:Nat),j<l.length->((kM (rd l (j:Int))).length:Int)<=jP l
 |a::l,0,_=>by have:=PG l;simp[jP,rd];omega
 |a::l,j+1,h=>by
  have:=Xo l j (by simpa using h)
  have e:rd (a::l) ((j+1:Nat):Int)=rd l (j:Int):=by unfold rd;simp
  simp only[jP];rw[e];omega
theorem Xq: ∀(l:List jW),0<jP l-> ∃j:Nat,j<l.length/\kM (rd l (j:Int))≠[]
 |[],h=>by simp[jP] at h
 |a::l,h=>by
  by_cases z:kM a=[]
  ·obtain⟨j,h1,h2⟩:=Xq l (by simp[jP,z] at h;exact h)
   exact⟨j+1,by simpa using h1,by have e:rd (a::l) ((j+1:Nat):Int)=rd l (j:Int):=by unfold rd;simp
                                  rw[e];exact h2⟩
  ·exact⟨0,by simp,by simpa[rd] using z⟩
theorem Xp {n:Nat}: ∀(l:List jW),(∀b∈l,b.items.length<=n)->jP l<=l.length*n
 |[],_=>by simp[jP]
 |b::l,h=>by
  have:=Xp l (λb hb=>h b (List.mem_cons_of_mem _ hb));have hb:=h b (List.mem_cons_self ..);have:(kM b).length<=b.items.length:=by unfold kM;simp
  rw[jP,List.length_cons,Int.natCast_add,Int.add_mul,Int.natCast_one,Int.one_mul];omega
structure iG (r:eK) (n:Nat):Prop where
 len_:r.buckets.length=256
 at_:0<=r.bc/\r.bc<=8796093022208
 gone: ∀b∈r.buckets,0<=b.gone/\b.gone<=b.items.length/\b.items.length<=n
 Bm:r.len=jP r.buckets
 n_:n<=1000000000
def Has (r:eK) (k i:Int):Prop:=r.bc<=k/\k<r.bc+256/\i∈kM (rd r.buckets (k%256))
variable {r : eK} {n : Nat}
theorem iG.Cw (h:iG r n):0<=r.len/\r.len<=256000000000:=by
 have h1:=PG r.buckets;have h2:=Xp r.buckets (λb hb=>(h.gone b hb).2.2);have:=h.n_;rw[h.len_] at h2;rw[h.Bm];omega
theorem iG.none (h:iG r n) (h0:r.len=0) (k i:Int): ¬Has r k i:=by
 rintro⟨h1,h2,h3⟩;have:=Xo r.buckets (k%256).toNat (by rw[h.len_];omega)
 rw[<-h.Bm,h0,show(((k%256).toNat:Nat):Int)=k%256 by omega] at this
 have:=List.length_pos_iff.2 (List.ne_nil_of_mem h3);omega
theorem iG.some (h:iG r n) (h0:r.len≠0): ∃k i,Has r k i:=by
 have:=h.Cw;obtain⟨j,j1,j2⟩:=Xq r.buckets (by rw[<-h.Bm];omega)
 obtain⟨i,hi⟩:=List.exists_mem_of_ne_nil _ j2;rw[h.len_] at j1;have ha:=h.at_;refine⟨r.bc+(j-r.bc%256)%256,i,by omega,by omega,?_⟩
 rw[show(r.bc+(j-r.bc%256)%256)%256=(j:Int) by omega];exact hi
theorem ahI: ∃r,vV.f 0=some (some r)/\r.bc=0/\iG r 0/\ ∀k i,¬Has r k i:=by
 refine⟨_,J,J,⟨List.length_replicate ..,⟨Int.le_refl _,by decide⟩,λb hb=>?_,?_,by omega⟩,λk i=>?_⟩
 ·rw[List.mem_replicate] at hb;rw[hb.2];exact⟨Int.le_refl _,Int.le_refl _,Nat.le_refl _⟩
 ·have: ∀n,jP (List.replicate n (default:jW))=0:=λn=>by
   induction n with
   |zero=>rfl
   |succ n ih=>rw[List.replicate_succ,jP,ih];rfl
  rw[this]
 ·rintro⟨_,_,h3⟩;rw[vR U U] at h3;have:kM (default:jW)=[]:=rfl;rw[this] at h3;simp at h3
theorem WA {b:jW} {j:Int} {l:Int} (h:iG r n) {n':Nat} (hn:n<=n') (Gp:n'<=1000000000) (j0:0<=j) (j1:j<256) (hb:0<=b.gone/\b.gone<=b.items.length/\b.items.length<=n') {a:Int} (ha:0<=a/\a<=8796093022208)
 (hl:l=r.len-(kM (rd r.buckets j)).length+(kM b).length):iG ⟨a,l,List.set r.buckets j.toNat b⟩ n':=by
 refine⟨by simp[h.len_],ha,λc hc=>?_,?_,Gp⟩
 ·rcases List.mem_or_eq_of_mem_set hc with z |rfl
  ·have:=h.gone c z;omega
  ·exact hb
 ·simp only;rw[Xr _ _ _ (by rw[h.len_];omega),hl,h.Bm,show((j.toNat:Nat):Int)=j by omega]
theorem WB (h:iG r n) (hn:n<1000000000) {key:Int} (k1:key<=8796093022208) (k0:0<=key) (i:Int):
 Ok (s_.f r key i) (λx=>x.2.bc=r.bc/\iG x.2 (n+1)/\((x.1=true/\r.bc<=key/\key<r.bc+256/\x.2.len=r.len+1/\ ∀k j,Has x.2 k j↔Has r k j∨(k=key/\j=i))∨(x.1=false/\(key<r.bc∨r.bc+256<=key)/\x.2=r))):=by
 have ha:=h.at_;have hl:=h.Cw;unfold s_.f;have e:(if key<r.bc then some true else some (decide (aa (key-r.bc)≥256)))=some (decide (key<r.bc∨r.bc+256<=key)):=by
  rw[wi U U]
  by_cases z:key<r.bc
  ·simp[z]
  ·simp only[z,if_false,false_or];congr 2;rw[eq_iff_iff];constructor<;>intro<;>omega
 have hs:iG r (n+1):=⟨h.len_,h.at_,λb hb=>by have:=h.gone b hb;omega,h.Bm,by omega⟩
 refine Ok.eq e (Ok.ite (λz=>Ok.pure ⟨J,hs,.inr ⟨J,of_decide_eq_true z,J⟩⟩) λz=>?_);have z: ¬(key<r.bc∨r.bc+256<=key):=by simpa using z
 rw[nh k0];have hb:=h.gone (rd r.buckets (key%256)) (dZ U (by rw[h.len_];omega))
 refine Ok.ct (by rw[h.len_];omega) ?_
 unfold zw.f;rw[af U];have hp:kM ⟨(rd r.buckets (key%256)).items++[i],(rd r.buckets (key%256)).gone⟩=kM (rd r.buckets (key%256))++[i]:=by
  unfold kM;simp only;rw[List.drop_append_of_le_length U]
 refine Ok.pure ⟨J,WA (b:=⟨(rd r.buckets (key%256)).items++[i],(rd r.buckets (key%256)).gone⟩) h (Nat.le_succ n) U U U ⟨hb.1,by simp;omega,by simp;omega⟩ ha ?_,.inl ⟨J,by omega,by omega,?_,λk j=>?_⟩⟩
 ·rw[wi U U,hp];simp;omega
 ·simp only;rw[wi U U]
 ·unfold Has;simp only;rw[ln U (by rw[h.len_];omega) U]
  by_cases y:k%256=key%256
  ·rw[af y,hp,y];constructor
   ·rintro⟨a,b,c⟩;rcases List.mem_append.1 c with c |c
    ·exact .inl ⟨a,b,c⟩
    ·exact .inr ⟨by omega,by simpa using c⟩
   ·rintro(⟨a,b,c⟩ |⟨rfl,rfl⟩)
    ·exact⟨a,b,List.mem_append_left _ c⟩
    ·exact⟨by omega,by omega,by simp⟩
  ·rw[ah y];constructor
   ·exact .inl
   ·rintro(q |⟨rfl,_⟩)
    ·exact q
    ·exact absurd J y
theorem agV: ∀(m k:Nat) (r:eK) (x y:Int),(x-r.bc).toNat<=m->m<k->iG r n->x<=8796093022208->Has r x y->
 Ok (oI.l0 k r) (λq=>iG q n/\q.buckets=r.buckets/\q.len=r.len/\r.bc<=q.bc/\kM (rd q.buckets (q.bc%256))≠[]/\ ∀a b,Has q a b↔Has r a b):=by
 intro m
 induction m with
 |zero=>
  intro k r x y hm hk h hx hy;obtain⟨k,rfl⟩:=bq hk;have ha:=h.at_;have qc:x=r.bc:=by have:=hy.1;omega
  subst qc;rw[oI.l0,nh ha.1];unfold xI.f;have bI:=List.ne_nil_of_mem hy.2.2;refine Ok.ct (by rw[h.len_];omega) (Ok.neg ?_ (Ok.pure ⟨h,J,J,by omega,bI,λ_ _=>Iff.rfl⟩))
  intro z;have z:(rd r.buckets (r.bc%256)).gone=(rd r.buckets (r.bc%256)).items.length:=by simpa using z
  exact bI (by unfold kM;rw[z];simp)
 |succ m ih=>
  intro k r x y hm hk h hx hy;obtain⟨k,rfl⟩:=bq hk;have ha:=h.at_;rw[oI.l0,nh ha.1];unfold xI.f;have ub:=h.gone (rd r.buckets (r.bc%256)) (dZ U (by rw[h.len_];omega))
  refine Ok.ct (by rw[h.len_];omega) (Ok.ite (λz=>?_) λz=>Ok.pure ⟨h,J,J,by omega,λq=>?_,λ_ _=>Iff.rfl⟩)
  ·have z:(rd r.buckets (r.bc%256)).gone=(rd r.buckets (r.bc%256)).items.length:=by simpa using z
   have hp:kM (rd r.buckets (r.bc%256))=[]:=by unfold kM;rw[z];simp
   have bI:x≠r.bc:=by rintro rfl;have:=hy.2.2;rw[hp] at this;simp at this
   have:=hy.1;rw[wi U U];have hh: ∀a b,Has ⟨r.bc+1,r.len,r.buckets⟩ a b↔Has r a b:=λa b=>by
    unfold Has;simp only;constructor
    ·rintro⟨q1,q2,q3⟩;refine⟨by omega,?_,q3⟩
     apply Classical.byContradiction;intro q;have:a%256=r.bc%256:=U;rw[this,hp] at q3;simp at q3
    ·rintro⟨q1,q2,q3⟩;refine⟨?_,by omega,q3⟩
     apply Classical.byContradiction;intro q;have:a=r.bc:=U;rw[this,hp] at q3;simp at q3
   refine(ih k ⟨r.bc+1,r.len,r.buckets⟩ x y (by simp only;omega) U ⟨h.len_,by simp only;omega,h.gone,h.Bm,h.n_⟩ hx ((hh x y).2 hy)).mono λq hq=>⟨hq.1,hq.2.1,hq.2.2.1,by have:=hq.2.2.2.1;simp only at this;omega,hq.2.2.2.2.1,λa b=>(hq.2.2.2.2.2 a b).trans (hh a b)⟩
  ·unfold kM at q;rw[List.drop_eq_nil_iff] at q;exact z bp
theorem ahO (h:iG r n) {x y:Int} (hx:x<=8796093022208) (hy:Has r x y):
 Ok (oI.f r) (λq=>q.2.2.1=true/\iG q.2.2.2 n/\q.2.2.2.bc=q.1/\q.2.2.2.len=r.len-1/\Has r q.1 q.2.1/\(∀a b,Has r a b->q.1<=a)/\(∀a b,Has q.2.2.2 a b->Has r a b)/\ ∀a b,Has r a b->(a=q.1/\b=q.2.1)∨Has q.2.2.2 a b):=by
 unfold oI.f vW.f;have hl:=h.Cw;have AH:r.len≠0:=λz=>h.none z x y hy
 refine Ok.eq J (Ok.neg (by simpa using AH) ((agV (x-r.bc).toNat fuel r x y U (by rw[cO];have:=h.at_;omega) h hx hy).bind λq hq=>?_))
 obtain⟨h1,h2,h3,h4,h5,h6⟩:=hq;have ha:=h1.at_;rw[nh ha.1];have hb:=h1.gone (rd q.buckets (q.bc%256)) (dZ U (by rw[h1.len_];omega))
 refine Ok.ct (by rw[h1.len_];omega) ?_
 generalize hB:rd q.buckets (q.bc%256)=B at hb h5;have hg:B.gone<B.items.length:=by
  apply Classical.byContradiction;intro z;exact h5 (by unfold kM;rw[List.drop_eq_nil_iff];omega)
 have JW:kM B=rd B.items B.gone::B.items.drop (B.gone+1).toNat:=by unfold kM;rw[BW hb.1 hg]
 have hn:=h1.n_;have aeD: ∃B',rS.f B=some (rd B.items B.gone,B')/\kM B'=B.items.drop (B.gone+1).toNat/\0<=B'.gone/\B'.gone<=B'.items.length/\B'.items.length<=n:=by
  unfold rS.f xI.f;rw[af ⟨hb.1,hg⟩,wi U U];simp only[aK]
  by_cases z:B.gone+1=B.items.length
  ·rw[af (by simpa using z),af U]
   exact⟨_,J,by unfold kM aB;simp;omega,Int.le_refl _,by simp,by simp[aB]⟩
  ·rw[ah (by simpa using z)]
   exact⟨_,J,J,by simp only;omega,by simp only;omega,hb.2.2⟩
 obtain⟨B',e1,e2,e3⟩:=aeD;have hR:iG ⟨q.bc,aa (q.len-1),List.set q.buckets (Int.toNat (q.bc%256)) B'⟩ n:=by
  refine WA h1 (Nat.le_refl _) hn U U e3 ha ?_;rw[wi U U,hB,JW,e2];simp;omega
 have ab9:Has r q.bc (rd B.items B.gone):=(h6 _ _).1 ⟨by omega,by omega,by rw[hB,JW];simp⟩
 have dT: ∀a:Int,rd (List.set q.buckets (Int.toNat (q.bc%256)) B') (a%256)=if a%256=q.bc%256 then B' else rd q.buckets (a%256):=λa=>ln U (by rw[h1.len_];omega) U
 refine Ok.eq e1 (Ok.pure ⟨J,hR,J,by simp only;rw[wi U U,h3],ab9,λa b vk=>((h6 a b).2 vk).1,λa b vk=>?_,λa b vk=>?_⟩)
 ·obtain⟨q1,q2,q3⟩:=vk;simp only at q1 q2 q3;rw[dT] at q3;refine(h6 a b).1 ⟨q1,q2,?_⟩;split at q3
  ·rename_i z;rw[z,hB,JW];rw[e2] at q3;exact List.mem_cons_of_mem _ q3
  ·exact q3
 ·obtain⟨q1,q2,q3⟩:=(h6 a b).2 vk
  by_cases z:a%256=q.bc%256
  ·have:a=q.bc:=U;subst this;rw[hB,JW] at q3;rcases List.mem_cons.1 q3 with y |y
   ·exact .inl ⟨J,y⟩
   ·exact .inr ⟨q1,q2,by simp only;rw[dT,af J,e2];exact y⟩
  ·exact .inr ⟨q1,q2,by simp only;rw[dT,ah z];exact q3⟩
theorem ae_ (h:iG r n) {key:Int} (k0:0<=key) (k1:key<=1099511627776) (h0:r.len=0):
 Ok (xH.f r key) (λx=>iG x.2 n/\x.2.len=0/\x.2.bc=if key<r.bc then r.bc else key):=by
 unfold xH.f;rw[ah U];refine Ok.eq J (Ok.ite (λz=>Ok.pure ⟨h,h0,?_⟩) λz=>Ok.pure ⟨⟨h.len_,by simp only;omega,h.gone,h.Bm,h.n_⟩,h0,?_⟩)
 ·simp at z;rw[af U]
 ·simp at z;rw[ah U]
theorem LL {n:Int} (h0:0<=n) (h1:n<4294967296):((BitVec.toNat (BitVec.ofInt (IntKind.bits .u64) n&&&BitVec.ofInt (IntKind.bits .u64) 4294967295):Nat):Int)=n:=by
 obtain⟨k,rfl⟩: ∃k:Nat,n=(k:Int):=⟨n.toNat,by omega⟩
 have e1:(BitVec.ofInt (IntKind.bits .u64) (k:Int)).toNat=k:=by
  show(BitVec.ofInt 64 (k:Int)).toNat=k
  rw[BitVec.toNat_ofInt];omega
 have e2:(BitVec.ofInt (IntKind.bits .u64) 4294967295).toNat=2^32-1:=by rfl
 rw[BitVec.toNat_and,e1,e2,Nat.and_two_pow_sub_one_eq_mod];omega
theorem rh {x:Int} (h1:0<=x) (h2:x<=18446744073709551615):cY x=x:=by
 unfold cY IntKind.wrap IntKind.signed IntKind.bits;simp;omega
theorem aga {n:Int} (h0:0<=n) (h1:n<4294967296):sP.f 1 n=some (0,n):=by
 unfold sP.f Cy.f;have a1:Int.fdiv 1 (2^32)=0:=by rfl
 have a2:Int.fdiv n (2^32)=0:=by rw[Int.fdiv_eq_ediv_of_nonneg _ U];omega
 have a3:((BitVec.toNat (BitVec.ofInt (IntKind.bits .u64) 1&&&BitVec.ofInt (IntKind.bits .u64) 4294967295):Nat):Int)=1:=LL U U;have a4:=LL h0 h1;have w0:cY 0=0:=rh U U;have w1:cY 1=1:=rh U U;have wn:cY n=n:=rh h0 U;have a5:((BitVec.toNat (BitVec.ofInt (IntKind.bits .u64) 0&&&BitVec.ofInt (IntKind.bits .u64) 4294967295):Nat):Int)=0:=LL U U;have f0:Int.fdiv 0 (2^32)=0:=by rfl
 simp only[a1,a2,a3,a4,Int.zero_mul,Int.mul_zero,Int.one_mul,w0,w1,wn,Int.zero_add,a2,a5,f0,aK]
theorem ahD {v:Int}: ∀(n k:Nat) (x:List Int) (i:Int),i+n≥x.length->1<=i->(x.length:Int)<=1000000000->n<k->(∀j:Int,0<=j->j<i->j<x.length->rd x j=v)->
 km.l0 k x i=some (List.replicate x.length v):=by
 intro n
 induction n with
 |zero=>
  intro k x i hi h1 hb hk hx;obtain⟨k,rfl⟩:=bq hk;rw[km.l0,ah U]
  congr 1
  apply zp bh;intro j j0 j1;rw[hx j j0 U j1,vR j0 U]
 |succ n ih=>
  intro k x i hi h1 hb hk hx;obtain⟨k,rfl⟩:=bq hk
  by_cases hq:i<x.length
  ·have s1:(aB x 0 i).length=i.toNat:=by rw[iP U];omega
   have s2:(aB x i (x.length:Int)).length=(x.length-i.toNat):=by rw[iP U];omega
   rw[km.l0,af hq,af U,af U,s1,s2];have hlen:(cg x i.toNat (min i.toNat (x.length-i.toNat)) (aB x 0 i)).length=x.length:=Am U (by rw[s1];omega)
   rw[bo U U];have:=ih k (cg x i.toNat (min i.toNat (x.length-i.toNat)) (aB x 0 i)) (i+((min i.toNat (x.length-i.toNat):Nat):Int)) (by rw[hlen];omega) U (by rw[hlen];omega) U (λj j0 j1 j2=>?_)
   ·rw[this,hlen]
   ·rw[hlen] at j2;unfold cg
    by_cases vw:j<i
    ·rw[zq j0 (by rw[List.length_take];omega)]
     have:rd (x.take i.toNat) j=rd x j:=by
      unfold rd;simp[List.getD,List.getElem?_take,show j.toNat<i.toNat by omega]
     rw[this];exact hx j j0 vw U
    ·rw[na (by rw[List.length_take];omega),List.length_take,show((min i.toNat x.length:Nat):Int)=i by omega]
     rw[zq U (by rw[List.length_take,s1];omega)]
     have:rd ((aB x 0 i).take (min i.toNat (x.length-i.toNat))) (j-i)=rd x (j-i):=by
      unfold rd aB;simp[List.getD,List.getElem?_take,show(j-i).toNat<i.toNat by omega,show(j-i).toNat<x.length-i.toNat by omega]
      rw[af U]
     rw[this];exact hx (j-i) U U U
  ·rw[km.l0,ah hq]
   congr 1
   apply zp bh;intro j j0 j1;rw[hx j j0 U j1,vR j0 U]
theorem Wz {v:Int} {n:Nat} (h0:1<=n) (h1:n<=1000000000):km.f [v] (n:Int)=some (List.replicate n v):=by
 unfold km.f;have e1:cY (([v]:List Int).length:Int)=1:=by rw[show(([v]:List Int).length:Int)=1 from rfl];exact rh U U
 rw[ah U,e1,rh (x:=(n:Int)) U U,aga U U,aK];simp only;rw[ah bp,bo U U,af U,Int.toNat_natCast];have e2:min ([v]:List Int).length (List.replicate n (0:Int)).length=1:=by rw[List.length_replicate];simp;omega
 rw[e2];have e3:cg (List.replicate n (0:Int)) 0 1 [v]=v::List.replicate (n-1) 0:=by
  unfold cg;simp
 have hl:(v::List.replicate (n-1) (0:Int)).length=n:=by simp;omega
 rw[e3,ahD (v:=v) n fuel _ ((1:Nat):Int) U U U (by rw[cO];omega) (λj j0 j1 _=>by
  rw[show j=0 by omega];rfl),hl]
 rfl
theorem ahC: ∀(k:Nat) (x:List Int) (i:Int),pN.l0 k x i=km.l0 k x i:=by
 intro k
 induction k with
 |zero=>intros;rfl
 |succ k ih=>intro x i;rw[pN.l0,km.l0];simp only[ih]
theorem ahF {v:Int} {n:Nat} (h0:1<=n) (h1:n<=1000000000):pN.f [v] (n:Int)=some (List.replicate n v):=by
 rw[<-Wz h0 h1];unfold pN.f km.f;simp only[ahC]
def Aa (w h c:Int):Nat->Int->Bool
 |0,_=>false
 |n+1,j=>decide (0<=gf w h c j)||Aa w h c n (j+1)
def C6 (w h s l:Int):Bool:=Aa w h (db w h s l) 4 0
def vZ (w h s:Int) (n:Nat):List Int:=((List.range n).filter (λl:Nat=>C6 w h s (l:Int))).map (λl:Nat=>db w h s (l:Int))
def qR (w h s:Int):List Int:=vZ w h s ((ax w h s).1*(ax w h s).2).toNat
theorem aay (w h s:Int) (n:Nat):vZ w h s (n+1)=if C6 w h s (n:Int)=true then vZ w h s n++[db w h s (n:Int)] else vZ w h s n:=by
 unfold vZ;rw[List.range_succ,List.filter_append,List.map_append]
 by_cases h:C6 w h s (n:Int)=true
 ·rw[af h];simp[h]
 ·rw[ah h];simp[h]
theorem Q9 (w h s:Int) (n:Nat):(vZ w h s n).length<=n:=by
 unfold vZ;rw[List.length_map];have:=List.length_filter_le (λl:Nat=>C6 w h s (l:Int)) (List.range n);simpa using this
theorem zH (w h s:Int):0<=(ax w h s).1*(ax w h s).2/\(ax w h s).1*(ax w h s).2<=256:=by
 have hz:=size_le w h s;have:(ax w h s).1*(ax w h s).2<=16*16:=kJ hz.1 hz.2.2.1 hz.2.1 hz.2.2.2;exact⟨nQ hz.1 hz.2.2.1,by omega⟩
theorem Ps {w h s l:Int} (h0:0<=l) (h1:l<(ax w h s).1*(ax w h s).2):bK w h s:=by
 by_cases hs:bK w h s
 ·exact hs
 ·have:ax w h s=(0,0):=by unfold ax;rw[ah hs]
  rw[this] at h1;simp at h1;omega
def wa (tw th side i:Int):Int:=if side=2 then(th-1)*tw+i else if side=0 then i else if side=1 then tw-1+i*tw else i*tw
def qk (tw th side:Int):Int:=if side=2∨side=0 then tw else if side=1∨side=3 then th else 0
def qh (tw th side:Int) (n:Nat):List Int:=(List.range n).map (λi:Nat=>wa tw th side (i:Int))
def rT (tw th side:Int):List Int:=qh tw th side (qk tw th side).toNat
theorem IV (tw th side:Int) (n:Nat):qh tw th side (n+1)=qh tw th side n++[wa tw th side (n:Int)]:=by
 unfold qh;rw[List.range_succ,List.map_append];rfl
theorem Fx (tw th side:Int) (n:Nat):(qh tw th side n).length=n:=by simp[qh]
theorem Yw {tw th:Int} (side:Int) (t0:0<=tw) (t1:tw<=16) (u0:0<=th) (u1:th<=16):fm.f tw th side=some (rT tw th side):=by
 unfold fm.f rT;have hb: ∀i:Int,0<=i->i<=16->0<=i*tw/\i*tw<=256:=λi i0 i1=>⟨nQ i0 t0,by have:=kJ i0 t0 i1 t1;omega⟩
 by_cases h2:side=2
 ·subst h2;rw[af (by rfl)]
  have Ge: -16<=(th-1)*tw/\(th-1)*tw<=256:=by
   have:=hb th u0 u1;rw[Int.sub_mul,Int.one_mul];omega
  have key: ∀(n k:Nat) (i:Int),i+n=tw->0<=i->n<k->fm.l0 k tw th (qh tw th 2 i.toNat) i=some (qh tw th 2 tw.toNat):=by
   intro n
   induction n with
   |zero=>
    intro k i hi h0 hk;obtain⟨k,rfl⟩:=bq hk;rw[fm.l0,ah U];rw[show i=tw by omega]
   |succ n ih=>
    intro k i hi h0 hk;obtain⟨k,rfl⟩:=bq hk;rw[fm.l0,af U,af (by rw[Fx];omega),bo (x:=th-1) U U,bo (x:=(th-1)*tw) U U,bo U U,bo U U]
    have:=ih k (i+1) U U U;rw[show(i+1).toNat=i.toNat+1 by omega,IV,show((i.toNat:Nat):Int)=i by omega] at this
    exact this
  exact key tw.toNat fuel 0 U U (by rw[cO];omega)
 rw[ah (by simpa using h2)]
 by_cases h0:side=0
 ·subst h0;rw[af (by rfl)]
  have key: ∀(n k:Nat) (i:Int),i+n=tw->0<=i->n<k->fm.l1 k tw (qh tw th 0 i.toNat) i=some (qh tw th 0 tw.toNat):=by
   intro n
   induction n with
   |zero=>
    intro k i hi h0 hk;obtain⟨k,rfl⟩:=bq hk;rw[fm.l1,ah U];rw[show i=tw by omega]
   |succ n ih=>
    intro k i hi h0 hk;obtain⟨k,rfl⟩:=bq hk;rw[fm.l1,af U,af (by rw[Fx];omega),bo U U,bo U U,Int.zero_add]
    have:=ih k (i+1) U U U;rw[show(i+1).toNat=i.toNat+1 by omega,IV,show((i.toNat:Nat):Int)=i by omega] at this
    exact this
  exact key tw.toNat fuel 0 U U (by rw[cO];omega)
 rw[ah (by simpa using h0)]
 by_cases h1:side=1
 ·subst h1;rw[af (by rfl)]
  have key: ∀(n k:Nat) (i:Int),i+n=th->0<=i->n<k->fm.l2 k tw th (qh tw th 1 i.toNat) i=some (qh tw th 1 th.toNat):=by
   intro n
   induction n with
   |zero=>
    intro k i hi h0 hk;obtain⟨k,rfl⟩:=bq hk;rw[fm.l2,ah U];rw[show i=th by omega]
   |succ n ih=>
    intro k i hi h0 hk;obtain⟨k,rfl⟩:=bq hk;have:=hb i U U;rw[fm.l2,af U,af (by rw[Fx];omega),bo (x:=tw-1) U U,bo (x:=i*tw) U U,bo U U,bo U U]
    have:=ih k (i+1) U U U;rw[show(i+1).toNat=i.toNat+1 by omega,IV,show((i.toNat:Nat):Int)=i by omega] at this
    exact this
  exact key th.toNat fuel 0 U U (by rw[cO];omega)
 rw[ah (by simpa using h1)]
 by_cases h3:side=3
 ·subst h3;rw[af (by rfl)]
  have key: ∀(n k:Nat) (i:Int),i+n=th->0<=i->n<k->fm.l3 k tw th (qh tw th 3 i.toNat) i=some (qh tw th 3 th.toNat):=by
   intro n
   induction n with
   |zero=>
    intro k i hi h0 hk;obtain⟨k,rfl⟩:=bq hk;rw[fm.l3,ah U];rw[show i=th by omega]
   |succ n ih=>
    intro k i hi h0 hk;obtain⟨k,rfl⟩:=bq hk;have:=hb i U U;rw[fm.l3,af U,af (by rw[Fx];omega),bo (x:=i*tw) U U,Int.zero_add,bo U U,bo U U]
    have:=ih k (i+1) U U U;rw[show(i+1).toNat=i.toNat+1 by omega,IV,show((i.toNat:Nat):Int)=i by omega] at this
    exact this
  exact key th.toNat fuel 0 U U (by rw[cO];omega)
 rw[ah (by simpa using h3)]
 have:qk tw th side=0:=by unfold qk;rw[ah U,ah U]
 rw[this];rfl
theorem agW {tw th side i:Int} (t0:1<=tw) (u0:1<=th) (i0:0<=i) (i1:i<qk tw th side):0<=wa tw th side i/\wa tw th side i<tw*th/\ux tw th (wa tw th side i) side:=by
 have hb: ∀j:Int,0<=j->j<=th-1->0<=j*tw/\j*tw+tw<=tw*th:=λj j0 j1=>⟨nQ j0 U,by
  have:=Int.mul_le_mul_of_nonneg_right j1 (by omega:0<=tw)
  rw[Int.sub_mul,Int.one_mul,Int.mul_comm th] at this;omega⟩
 unfold qk at i1;unfold wa ux
 by_cases h2:side=2
 ·subst h2;rw[af (Or.inl J)] at i1;simp only[if_true];have:=hb (th-1) U U;have q:=qM (y:=th-1) i0 i1;simp only[show ¬((2:Int)=0) by omega,show ¬((2:Int)=1) by omega,if_false]
  exact⟨by omega,by omega,q.2⟩
 by_cases h0:side=0
 ·subst h0;rw[af (Or.inr J)] at i1;have:=hb 0 U U;simp only[if_true,show ¬((0:Int)=2) by omega,if_false]
  exact⟨i0,by omega,Int.ediv_eq_zero_of_lt i0 i1⟩
 by_cases h1:side=1
 ·subst h1;rw[ah U,af (Or.inl J)] at i1;simp only[show ¬((1:Int)=2) by omega,show ¬((1:Int)=0) by omega,if_false,if_true]
  have:=hb i U U;have q:=qM (a:=tw) (x:=tw-1) (y:=i) U U;rw[Int.add_comm];exact⟨by omega,by omega,q.1⟩
 ·rw[ah U] at i1
  by_cases h3:side=3
  ·subst h3;rw[af (Or.inr J)] at i1;have:=hb i U U;simp only[show ¬((3:Int)=2) by omega,show ¬((3:Int)=0) by omega,show ¬((3:Int)=1) by omega,if_false]
   exact⟨by omega,by omega,Int.mul_emod_left _ _⟩
  ·rw[ah U] at i1;omega
theorem afW {tw th side l:Int} (t0:1<=tw) (u0:1<=th) (s0:0<=side) (s3:side<=3):l∈rT tw th side↔0<=l/\l<tw*th/\ux tw th l side:=by
 constructor
 ·intro hm;unfold rT qh at hm;obtain⟨i,hi,rfl⟩:=List.mem_map.mp hm;have rJ:=List.mem_range.mp hi;exact agW t0 u0 U U
 ·rintro⟨l0,l1,yU⟩;have a1:0<=l%tw:=Int.emod_nonneg _ U;have a2:l%tw<tw:=Int.emod_lt_of_pos _ U;have a3:0<=l/tw:=Int.ediv_nonneg l0 U;have a4:l/tw<th:=Int.ediv_lt_of_lt_mul U (by rw[Int.mul_comm];exact l1)
  have a5:=Int.mul_ediv_add_emod l tw;rw[Int.mul_comm] at a5;have hc:side=0∨side=1∨side=2∨side=3:=U;have go: ∀i:Int,0<=i->i<qk tw th side->wa tw th side i=l->l∈rT tw th side:=λi i0 i1 e=>by
   unfold rT qh;exact List.mem_map.mpr ⟨i.toNat,List.mem_range.mpr U,by rw[show((i.toNat:Nat):Int)=i by omega];exact e⟩
  unfold ux at yU;rcases hc with rfl |rfl |rfl |rfl
  ·simp only[if_true] at yU;exact go (l%tw) a1 a2 (by unfold wa;rw[yU] at a5;simp;omega)
  ·simp at yU;exact go (l/tw) a3 a4 (by unfold wa;rw[yU] at a5;simp;omega)
  ·simp at yU;exact go (l%tw) a1 a2 (by unfold wa;rw[yU] at a5;simp;omega)
  ·simp at yU;exact go (l/tw) a3 a4 (by unfold wa;rw[yU] at a5;simp;omega)
theorem aaC (v:List Int) (hv:v.length<=1000) (N:Int) (ck: ∀y∈v,0<=y/\y<N): ∀(n k:Nat) (i:Int) (x:List Bool),i+n=v.length->0<=i->n<k->(x.length:Int)=N->
 ∃x',gI.l1 k v x i=some x'/\(x'.length:Int)=N/\ ∀l:Int,0<=l->l<N->rd x' l=(rd x l||decide (l∈v.drop i.toNat)):=by
 intro n
 induction n with
 |zero=>
  intro k i x hi h0 hk hx;obtain⟨k,rfl⟩:=bq hk;refine⟨x,by rw[gI.l1,ah U],hx,λl l0 l1=>?_⟩
  rw[List.drop_of_length_le U];simp
 |succ n ih=>
  intro k i x hi h0 hk hx;obtain⟨k,rfl⟩:=bq hk;have hy:=ck _ (dZ h0 (by omega:i<(v.length:Int)))
  obtain⟨x',e,hl,hr⟩:=ih k (i+1) (List.set x (Int.toNat (rd v i)) true) U U U (by simpa using hx)
  refine⟨x',by rw[gI.l1,af U,af U,af U,bo U U];exact e,hl,λl l0 l1=>?_⟩
  rw[hr l l0 l1,ln hy.1 U l0,BW h0 U]
  by_cases hq:l=rd v i
  ·rw[af hq,hq];simp
  ·rw[ah hq];simp[hq]
theorem aaD (w h s:Int) (x:List Bool) (hx:(x.length:Int)=(ax w h s).1*(ax w h s).2) (hr: ∀l:Int,0<=l->l<x.length->rd x l=C6 w h s l): ∀(n k:Nat) (i:Int),i+n=x.length->0<=i->n<k->
 gI.l2 k w h s x (vZ w h s i.toNat) i=some (qR w h s):=by
 have hz:=zH w h s;intro n
 induction n with
 |zero=>
  intro k i hi h0 hk;obtain⟨k,rfl⟩:=bq hk;rw[gI.l2,ah U];unfold qR;rw[show i=(ax w h s).1*(ax w h s).2 by omega]
 |succ n ih=>
  intro k i hi h0 hk;obtain⟨k,rfl⟩:=bq hk;have hle:=Q9 w h s i.toNat;have:=ih k (i+1) U U U;rw[show(i+1).toNat=i.toNat+1 by omega,aay,show((i.toNat:Nat):Int)=i by omega] at this
  rw[gI.l2,af U,af U,hr i h0 U,bo U U]
  by_cases hb:C6 w h s i=true
  ·rw[af hb] at this;rw[af hb,Jo,aK,af U];exact this
  ·rw[ah hb] at this;rw[ah hb];exact this
theorem WY {j:Int} (h0:0<=j) (h3:j<=3):rd ([rd ([0,1,2,3]:List Int) 0,rd ([0,1,2,3]:List Int) 1,rd ([0,1,2,3]:List Int) 2,rd ([0,1,2,3]:List Int) 3]:List Int) j=j:=by
 have:j=0∨j=1∨j=2∨j=3:=U;rcases this with rfl |rfl |rfl |rfl<;>rfl
theorem Ql (w h c:Int): ∀(n:Nat) (j:Int),Aa w h c (n+1) j=(Aa w h c n j||decide (0<=gf w h c (j+n))):=by
 intro n
 induction n with
 |zero=>intro j;simp[Aa]
 |succ n ih=>
  intro j;rw[Aa,ih (j+1),Aa,Bool.or_assoc];rw[show j+1+(n:Int)=j+((n+1:Nat):Int) by omega]
theorem aaB (w h s:Int): ∀(n k:Nat) (j:Int) (x:List Bool),j+n=4->0<=j->n<k->(x.length:Int)=(ax w h s).1*(ax w h s).2->
 (∀l:Int,0<=l->l<x.length->rd x l=Aa w h (db w h s l) j.toNat 0)->
 gI.l0 k w h s (ax w h s) [0,1,2,3] x j=some (qR w h s):=by
 have hz:=zH w h s;have AO:=size_le w h s;intro n
 induction n with
 |zero=>
  intro k j x hj h0 hk hx hr;obtain⟨k,rfl⟩:=bq hk;rw[gI.l0,ah U];have e:j.toNat=4:=U;rw[e] at hr;exact aaD w h s x hx hr x.length fuel 0 U U (by rw[cO];omega)
 |succ n ih=>
  intro k j x hj h0 hk hx hr;obtain⟨k,rfl⟩:=bq hk;rw[gI.l0,af U,WY h0 U,Yw j AO.1 AO.2.1 AO.2.2.1 AO.2.2.2,af bp,bo U U];rw[aK]
  by_cases hs:bK w h s
  ·have J7:=qn hs;have hlen:((rT (ax w h s).1 (ax w h s).2 j).length:Int)=qk (ax w h s).1 (ax w h s).2 j:=by
    unfold rT;rw[Fx];unfold qk;split
    ·omega
    ·split<;>omega
   have hlp:1<=qk (ax w h s).1 (ax w h s).2 j/\qk (ax w h s).1 (ax w h s).2 j<=16:=by
    unfold qk;split
    ·omega
    ·rw[af U];omega
   have jk:=λl=>afW (l:=l) J7.1 J7.2.2.1 h0 (by omega:j<=3)
   have h0m:=dZ (a:=rT (ax w h s).1 (ax w h s).2 j) (i:=0) U U;obtain⟨f0,f1,f2⟩:=(jk _).mp h0m;rw[ah (by rw[beq_iff_eq];omega),af U,Jo,aK,VC,aK,aK]
   have vz:=KD hs f0 f1 h0 (by omega:j<=3)
   by_cases hn:gf w h (db w h s (rd (rT (ax w h s).1 (ax w h s).2 j) 0)) j<0
   ·have bI: ¬A' w h s j:=λq=>by have:=vz.mpr ⟨q,f2⟩;omega
    rw[af (by simpa using hn),aK]
    refine ih k (j+1) x U U U hx (λl l0 l1=>?_);rw[hr l l0 l1,show(j+1).toNat=j.toNat+1 by omega,Ql,Int.zero_add,show((j.toNat:Nat):Int)=j by omega]
    rw[decide_eq_false (λq=>bI ((KD hs l0 U h0 (by omega:j<=3)).mp q).1)];simp
   ·have hed:A' w h s j:=(vz.mp U).1;obtain⟨x',e,hl,hq⟩:=aaC (rT (ax w h s).1 (ax w h s).2 j) U _ (λy hy=>⟨((jk y).mp hy).1,((jk y).mp hy).2.1⟩) (rT (ax w h s).1 (ax w h s).2 j).length fuel 0 x U U (by rw[cO];omega) hx
    rw[ah (by simpa using hn),e,aK]
    refine ih k (j+1) x' U U U hl (λl l0 l1=>?_);rw[hq l l0 U,hr l l0 U,show(j+1).toNat=j.toNat+1 by omega,Ql,Int.zero_add,show((j.toNat:Nat):Int)=j by omega]
    congr 1
    simp only[Int.toNat_zero,List.drop_zero,decide_eq_decide];rw[jk,KD hs l0 U h0 (by omega:j<=3)]
    exact⟨λq=>⟨hed,q.2.2⟩,λq=>⟨l0,by omega,q.2⟩⟩
  ·have e0:ax w h s=(0,0):=by unfold ax;rw[ah hs]
   have e1:rT (ax w h s).1 (ax w h s).2 j=[]:=by
    unfold rT;rw[e0];have:qk (0,0).1 (0,0).2 j=0:=by unfold qk;split<;>simp
    rw[this];rfl
   rw[e1,af bh,aK,af J,aK];refine ih k (j+1) x U U U hx (λl l0 l1=>?_);rw[e0] at hx;simp at hx;subst hx;simp at l1;omega
theorem aaz (w h s:Int):gI.f w h s=some (qR w h s):=by
 unfold gI.f;have hz:=zH w h s;have e:yB.f=some [0,1,2,3]:=rfl;rw[HN,aK,bo (x:=_*_) U U,af U,e,aK];refine aaB w h s 4 fuel 0 _ U U (by rw[cO];omega) bp (λl l0 l1=>?_)
 rw[vR l0 (by simpa using l1)];rfl
abbrev tM (m:aM):Prop:=iE m.W m.H/\(m.C.length:Int)=m.W*m.H/\0∉m.C
theorem QE (m:aM) (hb:m.C.length<4611686018427387904):yw.f m=some (decide (tM m)):=by
 unfold yw.f;rw[AW]
 by_cases hm:iE m.W m.H
 ·have hp:=xt hm;rw[bo (x:=m.W*m.H) U U,Mj _ _ hb]
  by_cases hl:(m.C.length:Int)=m.W*m.H
  ·simp[hm,hl]
  ·simp[hl]
 ·simp[hm]
theorem Yv {x:List Int} {v:Int} (h: ∀c:Int,0<=c->c<x.length->rd x c=v):x=List.replicate x.length v:=by
 rw[List.eq_replicate_iff];refine⟨J,λb hb=>?_⟩
 obtain⟨i,hi,rfl⟩:=List.getElem_of_mem hb;have:=h i U U;rw[jq (by simpa using hi)] at this
 simpa using this
theorem agm (m:aM) (e:Int) (v2:List Int) (v3:Int×Int) (he:0<=e/\e<=4611686018427387904) (N:Nat) (hN:(List.replicate (Int.toNat (aa (v3.1*v3.2))) (0:Int)).length=N) (hb:N<=1000000):
 ∀(n k:Nat) (x:List Int) (i:Int),x.length=N->i+n=N->0<=i->n<k->(∀c:Int,0<=c->c<i->rd x c=e+1)->
 l7.l0 k m e v2 v3 x i=some (some (bA.mk (aM.mk m.W m.H v2) (e+1) (List.replicate N (e+1)))):=by
 intro n
 induction n with
 |zero=>
  intro k x i hx hi h0 hk ha;obtain⟨k,rfl⟩: ∃q,k=q+1:=⟨k-1,by omega⟩
  rw[l7.l0,hN,ah U,bo U U];have:=Yv (x:=x) (v:=e+1) (λc c0 c1=>ha c c0 U);rw[hx] at this;rw[this]
 |succ n ih=>
  intro k x i hx hi h0 hk ha;obtain⟨k,rfl⟩: ∃q,k=q+1:=⟨k-1,by omega⟩
  rw[l7.l0,hN,af U,af U,bo (x:=e+1) U U,bo (x:=i+1) U U];refine ih k _ (i+1) (by simpa using hx) U U U (λc c0 c1=>?_)
  rw[Ht h0 U c0]
  by_cases hc:c=i
  ·rw[af hc]
  ·rw[ah hc];exact ha c c0 U
def Jj (m:aM) (e:Int):Option bA:=if tM m/\0<=e/\e<=4611686018427387904 then some (bA.mk m (e+1) (List.replicate (d_ m.W m.H).toNat (e+1))) else none
theorem ab3 (m:aM) (e:Int) (hb:m.C.length<=1099511627776):l7.f m e=some (Jj m e):=by
 unfold l7.f Jj;rw[QE m U]
 by_cases h:tM m/\0<=e/\e<=4611686018427387904
 ·have hc:=pg m.W m.H;have hs:aa ((bt m.W m.H).1*(bt m.W m.H).2)=d_ m.W m.H:=bo (by unfold d_ at hc;omega) (by unfold d_ at hc;omega)
  simp only[aK,decide_eq_true h.1,Bool.not_true,Bool.false_or];rw[ah bp,af h,Ra _ hb,EM];simp only[aK];rw[hs,af U];exact agm m e m.C _ h.2 (d_ m.W m.H).toNat (by rw[hs];simp) U (d_ m.W m.H).toNat fuel _ 0 bh U U (by rw[tX];omega) (λc c0 c1=>by omega)
 ·rw[ah h]
  by_cases h1:tM m
  ·have: ¬(0<=e/\e<=4611686018427387904):=λq=>h ⟨h1,q⟩
   simp only[aK,decide_eq_true h1,Bool.not_true,Bool.false_or];rw[af bp]
  ·simp only[aK,decide_eq_false h1,Bool.not_false,Bool.true_or,if_true]
structure dn (g:bA) (more:Int):Prop where
 ok:tM g.m
 sw: ∀c:Int,0<=c->c<g.m.W*g.m.H->1<=rd g.m.C c/\rd g.m.C c<=255
 vs:(g.pQ.length:Int)=d_ g.m.W g.m.H
 ep:1<=g.bN/\g.bN+more<=4611686018427387905+1000/\0<=more
def cF (m:aM) (c:Int):Prop:=0<=c/\c<m.W*m.H
instance (m:aM) (c:Int):Decidable (cF m c):=by unfold cF;infer_instance
def fK (g:bA) (c:Int):Int:=if cF g.m c then rd g.m.C c else 0
def fB (g:bA) (s:Int):Int:=if 0<=s/\s<d_ g.m.W g.m.H then rd g.pQ s else 0
def mW (g:bA) (c v:Int):bA:=bA.mk (aM.mk g.m.W g.m.H (List.set g.m.C c.toNat v)) (g.bN+1) (List.set g.pQ (aX g.m.W g.m.H c).toNat (g.bN+1))
def Ji (g:bA) (c v:Int):Int×bA:=if ¬cF g.m c then(7,g) else if v<1∨255<v then(8,g) else(0,mW g c v)
variable {g : bA} {more : Int}
theorem Vx (h:dn g more) (c:Int):(if c<0 then(some true) else(some (decide (c≥(List.length g.m.C:Int)))))=some (decide (¬cF g.m c)):=by
 have hl:=h.ok.2.1;unfold cF
 by_cases h0:c<0
 ·rw[af h0,decide_eq_true U]
 ·rw[ah h0,hl];congr 1;rw[Bool.eq_iff_iff];simp;omega
theorem u9 (h:dn g more) (c:Int):jh.f g c=some (fK g c):=by
 unfold jh.f fK;rw[Vx h];have hl:=h.ok.2.1
 by_cases hc:cF g.m c
 ·obtain⟨c0,c1⟩:=hc;have hb:=h.sw c c0 c1;have hc:cF g.m c:=⟨c0,c1⟩;rw[aK,ah (by simpa using hc),af U,af hc,bo U U]
 ·rw[aK,af (by simpa using hc),ah hc]
theorem abk (h:dn g more) (c v:Int):w8.f g c v=some (Ji g c v):=by
 unfold w8.f Ji;rw[Vx h];have hl:=h.ok.2.1;have hv:=h.vs
 by_cases hc:cF g.m c
 ·obtain⟨c0,c1⟩:=hc;have hc:cF g.m c:=⟨c0,c1⟩;rw[aK,ah (by simpa using hc),ah (c:= ¬cF g.m c) (λq=>q hc)]
  by_cases hq:v<1∨255<v
  ·rw[af bp,af hq]
  ·have dW:bV g.m.W g.m.H c:=⟨h.ok.1,c0,c1⟩;have yV:bK g.m.W g.m.H (aX g.m.W g.m.H c):=by unfold aX;rw[af dW];exact EL dW
   have NF:=h.ep;rw[ah bp,ah hq,af U,tr,aK,af (by rw[hv];exact⟨yV.1,yV.2⟩),E3 U U,bo U U]
   rfl
 ·rw[aK,af (by simpa using hc),af (c:= ¬cF g.m c) hc]
theorem afz (h:dn g more) (h1:1<=more) {c v:Int} (hc:cF g.m c) (v0:1<=v) (v1:v<=255):dn (mW g c v) (more-1):=by
 obtain⟨c0,c1⟩:=hc;have hl:=h.ok.2.1;have NF:=h.ep;have iK: ∀d:Int,0<=d->d<g.m.W*g.m.H->1<=rd (List.set g.m.C c.toNat v) d/\rd (List.set g.m.C c.toNat v) d<=255:=λd d0 d1=>by
  rw[Ht c0 U d0];split
  ·exact⟨v0,v1⟩
  ·exact h.sw d d0 d1
 refine⟨⟨h.ok.1,by simp[mW,hl],λhm=>?_⟩,iK,by simp[mW,h.vs],⟨by simp[mW];omega,by simp[mW];omega,by omega⟩⟩
 obtain⟨i,hi,he⟩:=List.getElem_of_mem hm;have rJ:i<(List.set g.m.C c.toNat v).length:=hi;rw[List.length_set] at rJ;have:=iK i U U;rw[jq (show(i:Int).toNat<(List.set g.m.C c.toNat v).length by rw[List.length_set];omega)] at this
 have he:(List.set g.m.C c.toNat v)[i]=0:=he;simp only[Int.toNat_natCast] at this;omega
def mf (m:aM) (c:Int):Bool:=decide (cF m c)&&decide (rd m.C c≠255)
theorem Bh {m:aM} {c:Int}:mf m c=true↔cF m c/\rd m.C c≠255:=by simp[mf]
theorem ON {g:bA} {more:Int} (h:dn g more) (c:Int):tR.f g c=some (mf g.m c):=by
 unfold tR.f;rw[u9 h,aK];unfold fK mf
 by_cases hc:cF g.m c
 ·have:=h.sw c hc.1 hc.2;rw[af hc,decide_eq_true hc]
  congr 1
  rw[Bool.eq_iff_iff];simp;omega
 ·rw[ah hc,decide_eq_false hc];simp
theorem aiF (m:aM) {c:Int} (hc:c<0):mf m c=false:=by
 unfold mf;rw[decide_eq_false (λq=>by have:=q.1;omega)];rfl
def bJ (m:aM) (s:Int):List Int:=(qR m.W m.H s).filter (mf m)
theorem Q_ (w h s:Int):(qR w h s).length<=256:=by
 have:=zH w h s;have:=Q9 w h s ((ax w h s).1*(ax w h s).2).toNat;unfold qR;omega
theorem agy {g:bA} {more:Int} (h:dn g more) (v:List Int) (hv:v.length<=1000): ∀(n k:Nat) (i:Int) (x:List Int),i+n=v.length->0<=i->n<k->x.length<=i.toNat->
 j8.l0 k g v x i=some (x++(v.drop i.toNat).filter (mf g.m)):=by
 intro n
 induction n with
 |zero=>
  intro k i x hi h0 hk hx;obtain⟨k,rfl⟩:=bq hk;rw[j8.l0,ah U,List.drop_of_length_le U];simp
 |succ n ih=>
  intro k i x hi h0 hk hx;obtain⟨k,rfl⟩:=bq hk;rw[j8.l0,af U,af U,ON h,aK,bo U U,BW h0 U]
  by_cases ho:mf g.m (rd v i)=true
  ·rw[af ho,af U,ih k (i+1) _ U U U bp,List.filter_cons_of_pos ho];simp
  ·rw[ah ho,ih k (i+1) _ U U U U,List.filter_cons_of_neg ho]
theorem Vm {g:bA} {more:Int} (h:dn g more) (s:Int):j8.f g s=some (bJ g.m s):=by
 unfold j8.f;have e0:iJ.f g=some (g.m.W,g.m.H):=rfl;have hl:=Q_ g.m.W g.m.H s;rw[e0,aK,aaz,aK];have:=agy h (qR g.m.W g.m.H s) U (qR g.m.W g.m.H s).length fuel 0 [] U U (by rw[cO];omega) bh
 exact this
def xL (m:aM) (c:Int) (n:Nat):List ek:=((List.range n).filter (λj:Nat=>mf m (gf m.W m.H c (j:Int)))).map (λj:Nat=>ek.mk (gf m.W m.H c (j:Int)) (rd m.C (gf m.W m.H c (j:Int))))
def v_ (m:aM) (c:Int):List ek:=if mf m c=true then xL m c 4 else[]
theorem aaV (m:aM) (c:Int) (n:Nat):xL m c (n+1)=if mf m (gf m.W m.H c (n:Int))=true then xL m c n++[ek.mk (gf m.W m.H c (n:Int)) (rd m.C (gf m.W m.H c (n:Int)))] else xL m c n:=by
 unfold xL;rw[List.range_succ,List.filter_append,List.map_append]
 by_cases h:mf m (gf m.W m.H c (n:Int))=true
 ·rw[af h];simp[h]
 ·rw[ah h];simp[h]
theorem Rl (m:aM) (c:Int) (n:Nat):(xL m c n).length<=n:=by
 unfold xL;rw[List.length_map];have:=List.length_filter_le (λj:Nat=>mf m (gf m.W m.H c (j:Int))) (List.range n);simpa using this
theorem aaW {g:bA} {more:Int} (h:dn g more) (c:Int):nu.f g c=some (v_ g.m c):=by
 unfold nu.f v_;have e0:iJ.f g=some (g.m.W,g.m.H):=rfl;have e:yB.f=some [0,1,2,3]:=rfl;rw[e0,aK,ON h,aK]
 by_cases ho:mf g.m c=true
 ·rw[ah (by rw[ho];simp),e,aK,af ho]
  have key: ∀(n k:Nat) (j:Int),j+n=4->0<=j->n<k->nu.l0 k g c (g.m.W,g.m.H) [0,1,2,3] (xL g.m c j.toNat) j=some (xL g.m c 4):=by
   intro n
   induction n with
   |zero=>
    intro k j hj h0 hk;obtain⟨k,rfl⟩:=bq hk;rw[nu.l0,ah U];rw[show j.toNat=4 by omega]
   |succ n ih=>
    intro k j hj h0 hk;obtain⟨k,rfl⟩:=bq hk;have hle:=Rl g.m c j.toNat;have:=ih k (j+1) U U U;rw[show(j+1).toNat=j.toNat+1 by omega,aaV,show((j.toNat:Nat):Int)=j by omega] at this
    rw[nu.l0,af U,WY h0 U,VC,af bp,aK,bo U U];have e2:(if gf g.m.W g.m.H c j≥0 then((tR.f g (gf g.m.W g.m.H c j)).bind λv12=>some v12) else(some false))=some (mf g.m (gf g.m.W g.m.H c j)):=by
     by_cases hn:gf g.m.W g.m.H c j≥0
     ·rw[af hn,ON h];rfl
     ·rw[ah hn,aiF _ U]
    rw[e2,aK]
    by_cases hq:mf g.m (gf g.m.W g.m.H c j)=true
    ·rw[af hq] at this;have D5:fK g (gf g.m.W g.m.H c j)=rd g.m.C (gf g.m.W g.m.H c j):=by unfold fK;rw[af (Bh.mp hq).1]
     rw[af hq,u9 h,aK,af U,D5];exact this
    ·rw[ah hq] at this;rw[ah hq];exact this
  exact key 4 fuel 0 U U (by rw[cO];omega)
 ·rw[af (by simpa using ho),ah ho]
theorem Cw {tw th side:Int} (t0:0<=tw) (t1:tw<=16) (u0:0<=th) (u1:th<=16):0<=qk tw th side/\qk tw th side<=16:=by
 unfold qk;split
 ·omega
 ·split<;>omega
theorem Rm (m:aM) (c:Int):(v_ m c).length<=4:=by
 unfold v_;split
 ·exact Rl m c 4
 ·simp
def eI (p:Int->Bool):Nat->Nat
 |0=>0
 |n+1=>eI p n+if p n then 1 else 0
theorem FO (p:Int->Bool): ∀n,eI p n<=n
 |0=>Nat.le_refl _
 |n+1=>by have:=FO p n;unfold eI;split<;>omega
theorem Re {p q:Int->Bool}: ∀{n:Nat},(∀i:Int,0<=i->i<n->p i=q i)->eI p n=eI q n
 |0,_=>rfl
 |n+1,h=>by unfold eI;rw[Re (λi a b=>h i a U),h n U U]
theorem Mh {p q:Int->Bool} {c:Int}: ∀{n:Nat},0<=c->c<n->p c=true->q c=false->(∀i:Int,0<=i->i<n->i≠c->q i=p i)->eI p n=eI q n+1
 |0,h0,h1,_,_,_=>by omega
 |n+1,h0,h1,hp,hq,he=>by
  unfold eI
  by_cases z:c=n
  ·subst z;rw[hp,hq,Re (p:=p) (q:=q) (λi a b=>(he i a U U).symm)];simp
  ·rw[Mh h0 U hp hq (λi a b=>he i a U),he n U U (λy=>z y.symm)];omega
theorem nL {m:aM} (hm:tM m) {c:Int} (h:cF m c):bV m.W m.H c:=⟨hm.1,h.1,h.2⟩
theorem aiY {m:aM} {c s:Int} (h0: ¬cC m.W m.H c s<0):cF m (cC m.W m.H c s):=by
 unfold cC at h0⊢;split at h0
 ·rename_i h;rw[af h];unfold pI at h0⊢;split at h0
  ·rename_i q;rw[af q];exact sB q.2.1 q.2.2.1 q.2.2.2.1 q.2.2.2.2
  ·omega
 ·omega
theorem Db (g:bA):iJ.f g=some (g.m.W,g.m.H):=rfl
theorem FV (g:bA):pk.f g=some g.bN:=rfl
end Go.Proofs.YthodkonhneebbaaGreatDoor
